/-
The law FnExactStatusSet answers true: for every list, number and status the program's StatusSet gives the reference's list and verdict, in new memory each time, and the argument stays as it was.
Conditions: none beyond the bounds of the statement itself.
-/
import Derived.Test.YtkgljbddpbgdgaaPFnExactStatusSetx3
import Derived.Test.YtkgljbddpbgdgaaWSized
set_option linter.unusedVariables false
set_option linter.unusedSimpArgs false
namespace Go.Proofs.Ytkgljbddpbgdgaa.Pure.ofFnExactStatusSet
open Go.RowKit Go.Proofs.Ytkgljbddpbgdgaa.PFnExactStatusSet Go.Proofs.YtkgljbddpbgdgaaW.PrintWords Go.Proofs.YtkgljbddpbgdgaaW.PrintLast Go.Proofs.YtkgljbddpbgdgaaW.PrintMore

theorem ev_pos {α : Type} {c : Prop} [Decidable c] {A B : Nat → Option α} {r : α} (hc : c) (h : Ev A r) : Ev (fun k => if c then A k else B k) r := by
  refine Ev.congr (fun k => ?_) h
  rw [if_pos hc]
theorem ev_neg {α : Type} {c : Prop} [Decidable c] {A B : Nat → Option α} {r : α} (hc : ¬ c) (h : Ev B r) : Ev (fun k => if c then A k else B k) r := by
  refine Ev.congr (fun k => ?_) h
  rw [if_neg hc]
theorem ev_bind0 {α β : Type} {g : Option α} {f : Nat → α → Option β} {a : α} {r : β} (h : g = some a) (k : Ev (fun n => f n a) r) : Ev (fun n => g.bind (f n)) r := by
  refine Ev.congr (fun n => ?_) k
  rw [h]; rfl
theorem w64 {x : Int} (h0 : -9223372036854775808 ≤ x) (h1 : x ≤ 9223372036854775807) : wrap64 x = x := by
  unfold wrap64; omega
theorem rd_cons (x : Int) (l : List Int) : rd (x :: l) 0 = x := rfl
theorem rd_nat (l : List Int) (i : Nat) (h : i < l.length) : rd l (i : Int) = l[i] := by
  simp [rd, List.getD_eq_getElem?_getD, List.getElem?_eq_getElem h]
theorem rd_at (l : List Int) (i : Int) (h0 : 0 ≤ i) (h : i < l.length) : ∃ x, x ∈ l ∧ rd l i = x := by
  obtain ⟨n, rfl⟩ := Int.eq_ofNat_of_zero_le h0
  exact ⟨l[n]'(by omega), List.getElem_mem _, rd_nat l n (by omega)⟩
def marks (m : Int) : Nat → List Int
  | 0 => []
  | n + 1 => m :: marks (m + 1) n
def marksB (m : Int) : Nat → List Int
  | 0 => []
  | n + 1 => (m % 256) :: marksB (m + 1) n
theorem marks_length (n : Nat) : ∀ m, (marks m n).length = n := by
  induction n with
  | zero => intro m; rfl
  | succ n ih => intro m; simp [marks, ih]
theorem marksB_length (n : Nat) : ∀ m, (marksB m n).length = n := by
  induction n with
  | zero => intro m; rfl
  | succ n ih => intro m; simp [marksB, ih]
theorem marks_get (n : Nat) : ∀ m (i : Nat) (h : i < (marks m n).length), (marks m n)[i] = m + i := by
  induction n with
  | zero => intro m i h; simp [marks] at h
  | succ n ih =>
    intro m i h
    cases i with
    | zero => simp [marks]
    | succ i => simp only [marks, List.getElem_cons_succ]; rw [ih]; push_cast; omega
theorem marksB_get (n : Nat) : ∀ m (i : Nat) (h : i < (marksB m n).length), (marksB m n)[i] = (m + i) % 256 := by
  induction n with
  | zero => intro m i h; simp [marksB] at h
  | succ n ih =>
    intro m i h
    cases i with
    | zero => simp [marksB]
    | succ i => simp only [marksB, List.getElem_cons_succ]; rw [ih]; push_cast; omega

theorem impl_within_f (a b c : Int) : impl_within.f a b c = some (decide (b ≤ a ∧ a ≤ c)) := by
  unfold impl_within.f
  by_cases h : b ≤ a <;> simp [h]

theorem spec_l5in_f (a b c : Int) : spec_l5in.f a b c = some (decide (b ≤ a ∧ a ≤ c)) := by
  unfold spec_l5in.f
  by_cases h : b ≤ a <;> simp [h]

theorem cloneInt_f (l : List Int) (hn : l.length ≤ 1048576) : slices_Clone_int_int.f l = some l := by
  unfold slices_Clone_int_int.f
  simp only [Option.bind_some, List.nil_append, List.length_nil]
  rw [if_pos (by omega)]

def padded (l : List Int) (n : Nat) : List Int := l ++ List.replicate (n - l.length) 0
def stSet (l : List Int) (x s : Int) : List Int × Bool := if l.length ≤ 401 ∧ (1 ≤ x ∧ x ≤ 400) ∧ (0 ≤ s ∧ s ≤ 2) then ((padded l (x.toNat + 1)).set x.toNat s, true) else ([], false)
theorem padded_full (l : List Int) (n : Nat) (h : n ≤ l.length) : padded l n = l := by
  simp [padded, Nat.sub_eq_zero_of_le h]
theorem padded_more (l : List Int) (n : Nat) (h : l.length < n) : padded (l ++ [0]) n = padded l n := by
  unfold padded
  rw [show n - l.length = (n - (l ++ [0]).length) + 1 by simp; omega, List.replicate_succ]
  simp
theorem spec_StatusSet_l (x s : Int) (h1 : 1 ≤ x) (h2 : x ≤ 400) (d : Nat) : ∀ (y : List Int), (x + 1 - y.length).toNat ≤ d → y.length ≤ 401 → Ev (fun k => spec_StatusSet.l0 k x s y) ((padded y (x.toNat + 1)).set x.toNat s, true) := by
  induction d with
  | zero =>
    intro y hd hy
    refine Ev.step (f := fun _ => some ((padded y (x.toNat + 1)).set x.toNat s, true)) (fun k => ?_) (Ev.now _)
    simp only [spec_StatusSet.l0]
    rw [if_neg (by omega), if_pos (by omega), if_pos (by omega), padded_full _ _ (by omega)]
  | succ d ih =>
    intro y hd hy
    by_cases h : (y.length : Int) ≤ x
    · have := ih (y ++ [0]) (by simp; omega) (by simp; omega)
      rw [padded_more _ _ (by omega)] at this
      refine Ev.step (fun k => ?_) this
      simp only [spec_StatusSet.l0]
      rw [if_pos h, if_pos (by omega)]
    · refine Ev.step (f := fun _ => some ((padded y (x.toNat + 1)).set x.toNat s, true)) (fun k => ?_) (Ev.now _)
      simp only [spec_StatusSet.l0]
      rw [if_neg h, if_pos (by omega), if_pos (by omega), padded_full _ _ (by omega)]
theorem impl_StatusSet_same (k : Nat) : ∀ x s y, impl_StatusSet.l0 k x s y = spec_StatusSet.l0 k x s y := by
  induction k with
  | zero => intro x s y; simp [impl_StatusSet.l0, spec_StatusSet.l0]
  | succ k ih => intro x s y; simp only [impl_StatusSet.l0, spec_StatusSet.l0, ih]
theorem stSet_off (l : List Int) (x s : Int) (h : ¬ (l.length ≤ 401 ∧ (1 ≤ x ∧ x ≤ 400) ∧ (0 ≤ s ∧ s ≤ 2))) : stSet l x s = ([], false) := by rw [stSet, if_neg h]
theorem spec_StatusSet_f (l : List Int) (x s : Int) : Ev (fun k => spec_StatusSet.f k l x s) (stSet l x s) := by
  unfold spec_StatusSet.f
  by_cases c1 : (l.length : Int) > 401
  · refine ev_pos c1 (Ev.step (f := fun _ => some ([], false)) (fun k => by simp only [spec_StatusSet.j0, if_true]) ?_)
    rw [stSet_off l x s (by omega)]
    exact Ev.now _
  refine ev_neg c1 (ev_bind0 (spec_l5in_f _ _ _) ?_)
  by_cases c2 : 1 ≤ x ∧ x ≤ 400
  · refine ev_pos (decide_eq_true c2) (ev_bind0 (spec_l5in_f _ _ _) ?_)
    by_cases c3 : 0 ≤ s ∧ s ≤ 2
    · refine Ev.step (f := fun k => spec_StatusSet.l0 k x s l) (fun k => ?_) ?_
      · simp only [spec_StatusSet.j0]
        rw [if_neg (by simp [c3])]
        simp only [Option.bind_some, List.nil_append, List.length_nil]
        rw [if_pos (by omega)]
      · rw [stSet, if_pos ⟨by omega, c2, c3⟩]
        exact spec_StatusSet_l x s c2.1 c2.2 _ l (Nat.le_refl _) (by omega)
    · refine Ev.step (f := fun _ => some ([], false)) (fun k => by simp only [spec_StatusSet.j0]; rw [if_pos (by simp only [decide_eq_false c3, Bool.not_false])]) ?_
      rw [stSet_off l x s (fun h => c3 h.2.2)]
      exact Ev.now _
  · refine ev_neg (by simpa using c2) (Ev.step (f := fun _ => some ([], false)) (fun k => by simp only [spec_StatusSet.j0, if_true]) ?_)
    rw [stSet_off l x s (fun h => c2 h.2.1)]
    exact Ev.now _
theorem impl_StatusSet_f (l : List Int) (x s : Int) : Ev (fun k => impl_StatusSet.f k l x s) (stSet l x s) := by
  unfold impl_StatusSet.f impl_isXid.f
  by_cases c1 : (l.length : Int) > 401
  · refine ev_pos c1 (Ev.step (f := fun _ => some ([], false)) (fun k => by simp only [impl_StatusSet.j0, if_true]) ?_)
    rw [stSet_off l x s (by omega)]
    exact Ev.now _
  refine ev_neg c1 (ev_bind0 (by rw [impl_within_f]; rfl) ?_)
  by_cases c2 : 1 ≤ x ∧ x ≤ 400
  · refine ev_pos (decide_eq_true c2) (ev_bind0 (impl_within_f _ _ _) ?_)
    by_cases c3 : 0 ≤ s ∧ s ≤ 2
    · refine Ev.step (f := fun k => spec_StatusSet.l0 k x s l) (fun k => ?_) ?_
      · simp only [impl_StatusSet.j0]
        rw [if_neg (by simp [c3]), cloneInt_f l (by omega)]
        simp only [Option.bind_some, impl_StatusSet_same]
      · rw [stSet, if_pos ⟨by omega, c2, c3⟩]
        exact spec_StatusSet_l x s c2.1 c2.2 _ l (Nat.le_refl _) (by omega)
    · refine Ev.step (f := fun _ => some ([], false)) (fun k => by simp only [impl_StatusSet.j0]; rw [if_pos (by simp only [decide_eq_false c3, Bool.not_false])]) ?_
      rw [stSet_off l x s (fun h => c3 h.2.2)]
      exact Ev.now _
  · refine ev_neg (by simpa using c2) (Ev.step (f := fun _ => some ([], false)) (fun k => by simp only [impl_StatusSet.j0, if_true]) ?_)
    rw [stSet_off l x s (fun h => c2 h.2.1)]
    exact Ev.now _
theorem stSet_length (l : List Int) (x s : Int) : (stSet l x s).1.length ≤ 1000 := by
  unfold stSet
  split
  · rename_i h; simp [padded]; omega
  · simp

theorem toIntS_l (l : List Int) (hn : l.length ≤ 1048576) (d : Nat) : ∀ (i : Nat) (y : List Int), i + d = l.length → y.length = l.length → (∀ j, j < i → y[j]? = l[j]?) → Ev (fun k => laws_toIntS.l0 k l y (i : Int)) l := by
  induction d with
  | zero =>
    intro i y hi hy hj
    refine Ev.step (f := fun _ => some l) (fun k => ?_) (Ev.now _)
    simp only [laws_toIntS.l0]
    rw [if_neg (by omega)]
    congr 1
    refine List.ext_getElem? fun j => ?_
    by_cases h : j < i
    · exact hj j h
    · rw [List.getElem?_eq_none (by omega), List.getElem?_eq_none (by omega)]
  | succ d ih =>
    intro i y hi hy hj
    refine Ev.step (f := fun k => laws_toIntS.l0 k l (y.set i (rd l i)) ((i + 1 : Nat) : Int)) (fun k => ?_) (ih (i + 1) _ (by omega) (by simp [hy]) ?_)
    · simp only [laws_toIntS.l0]
      rw [if_pos (by omega), if_pos (by omega), if_pos (by omega), w64 (by omega) (by omega)]
      simp
    · intro j hlt
      by_cases h : j = i
      · subst h
        rw [List.getElem?_set_self (by omega), rd_nat l j (by omega), List.getElem?_eq_getElem (by omega)]
      · rw [List.getElem?_set_ne (by omega)]
        exact hj j (by omega)
theorem toIntS_f (l : List Int) (hn : l.length ≤ 1048576) : Ev (fun k => laws_toIntS.f k l) l := by
  unfold laws_toIntS.f
  refine ev_pos (by omega) (ev_pos (by omega) ?_)
  exact toIntS_l l hn l.length 0 _ (by omega) (by simp) (by intro j h; omega)

theorem eqIntS_l (a b : List Int) (hn : a.length ≤ 1048576) (hab : a.length = b.length) (d : Nat) : ∀ (i : Nat), i + d = a.length → (∀ j, j < i → a[j]? = b[j]?) → Ev (fun k => laws_eqIntS.l0 k a b (i : Int)) (decide (a = b)) := by
  induction d with
  | zero =>
    intro i hi hj
    refine Ev.step (f := fun _ => some true) (fun k => ?_) ?_
    · simp only [laws_eqIntS.l0]
      rw [if_neg (by omega)]
    · have : a = b := by
        refine List.ext_getElem? fun j => ?_
        by_cases h : j < i
        · exact hj j h
        · rw [List.getElem?_eq_none (by omega), List.getElem?_eq_none (by omega)]
      rw [decide_eq_true this]
      exact Ev.now _
  | succ d ih =>
    intro i hi hj
    have ha : rd a (i : Int) = a[i]'(by omega) := rd_nat a i (by omega)
    have hb : rd b (i : Int) = b[i]'(by omega) := rd_nat b i (by omega)
    by_cases he : rd a (i : Int) = rd b (i : Int)
    · refine Ev.step (f := fun k => laws_eqIntS.l0 k a b ((i + 1 : Nat) : Int)) (fun k => ?_) (ih (i + 1) (by omega) ?_)
      · simp only [laws_eqIntS.l0]
        rw [if_pos (by omega), if_pos (by omega), if_pos (by omega), if_pos he, w64 (by omega) (by omega)]
        simp
      · intro j hlt
        by_cases h : j = i
        · subst h
          rw [List.getElem?_eq_getElem (by omega), List.getElem?_eq_getElem (by omega), ← ha, ← hb, he]
        · exact hj j (by omega)
    · refine Ev.step (f := fun _ => some false) (fun k => ?_) ?_
      · simp only [laws_eqIntS.l0]
        rw [if_pos (by omega), if_pos (by omega), if_pos (by omega), if_neg he]
      · have : ¬ a = b := by
          rintro rfl
          exact he rfl
        rw [decide_eq_false this]
        exact Ev.now _
theorem eqIntS_f (a b : List Int) (hn : a.length ≤ 1048576) : Ev (fun k => laws_eqIntS.f k a b) (decide (a = b)) := by
  unfold laws_eqIntS.f
  by_cases h : a.length = b.length
  · refine ev_pos (by omega) ?_
    exact eqIntS_l a b hn h a.length 0 (by omega) (by intro j h; omega)
  · refine ev_neg (by omega) ?_
    rw [decide_eq_false (by rintro rfl; exact h rfl)]
    exact Ev.now _
theorem eqIntS_same (a : List Int) (hn : a.length ≤ 1048576) : Ev (fun k => laws_eqIntS.f k a a) true := by
  have := eqIntS_f a a hn
  rwa [decide_eq_true rfl] at this

theorem markIntS_l (a : List Int) (hn : a.length ≤ 1048576) (m0 : Int) (h0 : 0 ≤ m0) (h1 : m0 ≤ 1000000000000) (d : Nat) : ∀ (i : Nat) (y : List Int), i + d = a.length → y.length = a.length → (∀ j, j < i → y[j]? = (marks m0 a.length)[j]?) → Ev (fun k => laws_markIntS.l0 k y (m0 + i) (i : Int)) (m0 + a.length, marks m0 a.length) := by
  have hml := marks_length a.length m0
  induction d with
  | zero =>
    intro i y hi hy hj
    refine Ev.step (f := fun _ => some (m0 + a.length, marks m0 a.length)) (fun k => ?_) (Ev.now _)
    simp only [laws_markIntS.l0]
    rw [if_neg (by omega)]
    have hy2 : y = marks m0 a.length := by
      refine List.ext_getElem? fun j => ?_
      by_cases h : j < i
      · exact hj j h
      · rw [List.getElem?_eq_none (by omega), List.getElem?_eq_none (by omega)]
    rw [hy2, show (i : Int) = a.length by omega]
  | succ d ih =>
    intro i y hi hy hj
    refine Ev.step (f := fun k => laws_markIntS.l0 k (y.set i (m0+i)) (m0 + (i + 1 : Nat)) ((i + 1 : Nat) : Int)) (fun k => ?_) (ih (i + 1) _ (by omega) (by simp [hy]) ?_)
    · simp only [laws_markIntS.l0]
      rw [if_pos (by omega), if_pos (by omega), w64 (by omega) (by omega), w64 (by omega) (by omega)]
      simp [Int.add_assoc]
    · intro j hlt
      by_cases h : j = i
      · subst h
        rw [List.getElem?_set_self (by omega), List.getElem?_eq_getElem (by omega), marks_get]
      · rw [List.getElem?_set_ne (by omega)]
        exact hj j (by omega)
theorem markIntS_f (a : List Int) (hn : a.length ≤ 1048576) (m : Int) (h0 : 0 ≤ m) (h1 : m ≤ 1000000000000) : Ev (fun k => laws_markIntS.f k a m) (m + a.length, marks m a.length) := by
  unfold laws_markIntS.f
  have := markIntS_l a hn m h0 h1 a.length 0 a (by omega) rfl (by intro j h; omega)
  simpa using this

theorem heldIntS_l (n : Nat) (hn : n ≤ 1048576) (m0 : Int) (h0 : 0 ≤ m0) (h1 : m0 ≤ 1000000000000) (d : Nat) : ∀ (i : Nat), i + d = n → Ev (fun k => laws_heldIntS.l0 k (marks m0 n) (m0 + i) (i : Int)) (m0 + n) := by
  have hml := marks_length n m0
  induction d with
  | zero =>
    intro i hi
    refine Ev.step (f := fun _ => some (m0 + n)) (fun k => ?_) (Ev.now _)
    simp only [laws_heldIntS.l0]
    rw [if_neg (by omega), show (i : Int) = n by omega]
  | succ d ih =>
    intro i hi
    refine Ev.step (f := fun k => laws_heldIntS.l0 k (marks m0 n) (m0 + (i + 1 : Nat)) ((i + 1 : Nat) : Int)) (fun k => ?_) (ih (i + 1) (by omega))
    simp only [laws_heldIntS.l0]
    rw [if_pos (by omega), if_pos (by omega), if_pos (by rw [rd_nat _ i (by omega), marks_get]), w64 (by omega) (by omega), w64 (by omega) (by omega)]
    simp [Int.add_assoc]
theorem heldIntS_f (n : Nat) (hn : n ≤ 1048576) (m : Int) (h0 : 0 ≤ m) (h1 : m ≤ 1000000000000) : Ev (fun k => laws_heldIntS.f k (marks m n) m) (m + n) := by
  unfold laws_heldIntS.f
  have := heldIntS_l n hn m h0 h1 n 0 (by omega)
  simpa using this

theorem main : laws_FnExactStatusSet.Pure := by
  intro l x s _ _ hw wx ws
  refine Ev.rounds ?_
  unfold laws_FnExactStatusSet.f
  by_cases hb : (l.length : Int) > 1048576
  · exact ev_pos hb (Ev.now _)
  have hl : l.length ≤ 1048576 := by omega
  have hs := stSet_length l x s
  refine ev_neg hb ?_
  refine Ev.bind (toIntS_f l hl) ?_
  refine Ev.bind (spec_StatusSet_f l x s) ?_
  refine Ev.bind (toIntS_f l hl) ?_
  refine Ev.bind (impl_StatusSet_f l x s) ?_
  refine Ev.bind (eqIntS_same _ (by omega)) (ev_pos rfl ?_)
  refine Ev.step (fun k => by simp only [laws_FnExactStatusSet.j0]; rw [if_neg (by simp)]) ?_
  refine Ev.bind (toIntS_f l hl) ?_
  refine Ev.bind (eqIntS_same _ hl) (ev_pos rfl ?_)
  refine Ev.bind (markIntS_f l hl 1 (by omega) (by omega)) ?_
  refine ev_neg (by simp; omega) ?_
  refine Ev.bind (eqIntS_same _ (by omega)) (ev_pos rfl ?_)
  refine Ev.step (fun k => by simp only [laws_FnExactStatusSet.j1]; rw [if_neg (by simp)]) ?_
  refine Ev.bind (markIntS_f _ (by omega) 1 (by omega) (by omega)) ?_
  refine Ev.bind (heldIntS_f _ (by omega) 1 (by omega) (by omega)) ?_
  refine ev_neg (by omega) (ev_pos rfl ?_)
  refine Ev.bind (toIntS_f l hl) ?_
  refine Ev.bind (impl_StatusSet_f l x s) ?_
  refine Ev.bind (eqIntS_same _ (by omega)) (ev_pos rfl ?_)
  refine Ev.step (fun k => by simp only [laws_FnExactStatusSet.j2]; rw [if_neg (by simp)]) ?_
  refine Ev.bind (heldIntS_f _ (by omega) 1 (by omega) (by omega)) ?_
  exact ev_neg (by omega) (ev_pos rfl (Ev.now _))

end Go.Proofs.Ytkgljbddpbgdgaa.Pure.ofFnExactStatusSet
namespace Go.Proofs.Ytkgljbddpbgdgaa.PrintWords
/-- The word that the printed row asks for, under the name by which it asks. -/
abbrev sized_ints := @Go.Proofs.YtkgljbddpbgdgaaW.PrintWords.sized_ints
end Go.Proofs.Ytkgljbddpbgdgaa.PrintWords
namespace Go.Proofs.Ytkgljbddpbgdgaa.Pure
open Go.Proofs.Ytkgljbddpbgdgaa.PFnExactStatusSet
theorem FnExactStatusSet : laws_FnExactStatusSet.Pure := ofFnExactStatusSet.main
end Go.Proofs.Ytkgljbddpbgdgaa.Pure
