/-
The law FnExactStatusSettle answers true: for every list and number the program's StatusSettle gives the reference's list, in new memory each time, and the argument stays as it was.
Conditions: none beyond the bounds of the statement itself.
-/
import Derived.Test.YtkgljbddpbgdgaaPFnExactStatusSettlex2
import Derived.Test.YtkgljbddpbgdgaaWSized
set_option linter.unusedVariables false
set_option linter.unusedSimpArgs false
namespace Go.Proofs.Ytkgljbddpbgdgaa.Pure.ofFnExactStatusSettle
open Go.RowKit Go.Proofs.Ytkgljbddpbgdgaa.PFnExactStatusSettle Go.Proofs.YtkgljbddpbgdgaaW.PrintWords Go.Proofs.YtkgljbddpbgdgaaW.PrintLast Go.Proofs.YtkgljbddpbgdgaaW.PrintMore

theorem ev_pos {α : Type} {c : Prop} [Decidable c] {A B : Nat → Option α} {r : α} (hc : c) (h : Ev A r) : Ev (fun k => if c then A k else B k) r := by
  refine Ev.congr (fun k => ?_) h
  rw [if_pos hc]
theorem ev_neg {α : Type} {c : Prop} [Decidable c] {A B : Nat → Option α} {r : α} (hc : ¬ c) (h : Ev B r) : Ev (fun k => if c then A k else B k) r := by
  refine Ev.congr (fun k => ?_) h
  rw [if_neg hc]
theorem ev_bind0 {α β : Type} {g : Option α} {f : Nat → α → Option β} {a : α} {r : β} (h : g = some a) (k : Ev (fun n => f n a) r) : Ev (fun n => g.bind (f n)) r := by
  refine Ev.congr (fun n => ?_) k
  rw [h]; rfl
theorem w64 {x : Int} (h0 : -9223372036854775808 ≤ x) (h1 : x ≤ 9223372036854775807) : wrap64 x = x := by
  unfold wrap64; omega
theorem rd_cons (x : Int) (l : List Int) : rd (x :: l) 0 = x := rfl
theorem rd_nat (l : List Int) (i : Nat) (h : i < l.length) : rd l (i : Int) = l[i] := by
  simp [rd, List.getD_eq_getElem?_getD, List.getElem?_eq_getElem h]
theorem rd_at (l : List Int) (i : Int) (h0 : 0 ≤ i) (h : i < l.length) : ∃ x, x ∈ l ∧ rd l i = x := by
  obtain ⟨n, rfl⟩ := Int.eq_ofNat_of_zero_le h0
  exact ⟨l[n]'(by omega), List.getElem_mem _, rd_nat l n (by omega)⟩
def marks (m : Int) : Nat → List Int
  | 0 => []
  | n + 1 => m :: marks (m + 1) n
def marksB (m : Int) : Nat → List Int
  | 0 => []
  | n + 1 => (m % 256) :: marksB (m + 1) n
theorem marks_length (n : Nat) : ∀ m, (marks m n).length = n := by
  induction n with
  | zero => intro m; rfl
  | succ n ih => intro m; simp [marks, ih]
theorem marksB_length (n : Nat) : ∀ m, (marksB m n).length = n := by
  induction n with
  | zero => intro m; rfl
  | succ n ih => intro m; simp [marksB, ih]
theorem marks_get (n : Nat) : ∀ m (i : Nat) (h : i < (marks m n).length), (marks m n)[i] = m + i := by
  induction n with
  | zero => intro m i h; simp [marks] at h
  | succ n ih =>
    intro m i h
    cases i with
    | zero => simp [marks]
    | succ i => simp only [marks, List.getElem_cons_succ]; rw [ih]; push_cast; omega
theorem marksB_get (n : Nat) : ∀ m (i : Nat) (h : i < (marksB m n).length), (marksB m n)[i] = (m + i) % 256 := by
  induction n with
  | zero => intro m i h; simp [marksB] at h
  | succ n ih =>
    intro m i h
    cases i with
    | zero => simp [marksB]
    | succ i => simp only [marksB, List.getElem_cons_succ]; rw [ih]; push_cast; omega

theorem impl_within_f (a b c : Int) : impl_within.f a b c = some (decide (b ≤ a ∧ a ≤ c)) := by
  unfold impl_within.f
  by_cases h : b ≤ a <;> simp [h]

theorem spec_l5in_f (a b c : Int) : spec_l5in.f a b c = some (decide (b ≤ a ∧ a ≤ c)) := by
  unfold spec_l5in.f
  by_cases h : b ≤ a <;> simp [h]

def stOf (l : List Int) (x : Int) : Int := if (1 ≤ x ∧ x ≤ 400) ∧ x < l.length ∧ (1 ≤ rd l x ∧ rd l x ≤ 2) then rd l x else 0
theorem spec_StatusOf_f (l : List Int) (x : Int) : spec_StatusOf.f l x = some (stOf l x) := by
  unfold spec_StatusOf.f stOf
  simp only [spec_l5in_f, Option.bind_some, decide_eq_true_eq]
  by_cases h1 : 1 ≤ x ∧ x ≤ 400
  · by_cases h2 : x < l.length
    · by_cases h3 : 1 ≤ rd l x ∧ rd l x ≤ 2
      · rw [if_pos h1, if_neg (by omega), if_pos (by omega), if_pos h2, if_pos h3, if_pos ⟨h1, h2, h3⟩]
      · rw [if_pos h1, if_neg (by omega), if_pos (by omega), if_pos h2, if_neg h3, if_neg (fun h => h3 h.2.2)]
    · rw [if_pos h1, if_pos (by omega), if_neg (fun h => h2 h.2.1)]
  · rw [if_neg h1, if_neg (fun h => h1 h.1)]
theorem impl_StatusOf_f (l : List Int) (x : Int) : impl_StatusOf.f l x = some (stOf l x) := by
  unfold impl_StatusOf.f impl_isXid.f stOf
  simp only [impl_within_f, Option.bind_some, decide_eq_true_eq]
  by_cases h1 : 1 ≤ x ∧ x ≤ 400
  · by_cases h2 : x < l.length
    · by_cases h3 : 0 ≤ rd l x ∧ rd l x ≤ 2
      · rw [if_pos h1, if_neg (by omega), if_pos (by omega), if_pos h2, if_pos h3]
        by_cases h4 : 1 ≤ rd l x
        · rw [if_pos ⟨h1, h2, h4, h3.2⟩]
        · rw [if_neg (fun h => h4 h.2.2.1), show rd l x = 0 by omega]
      · rw [if_pos h1, if_neg (by omega), if_pos (by omega), if_pos h2, if_neg h3, if_neg (fun h => h3 ⟨by omega, h.2.2.2⟩)]
    · rw [if_pos h1, if_pos (by omega), if_neg (fun h => h2 h.2.1)]
  · rw [if_neg h1, if_neg (fun h => h1 h.1)]
theorem stOf_cases (l : List Int) (x : Int) : stOf l x = 0 ∨ stOf l x = 1 ∨ stOf l x = 2 := by
  unfold stOf
  split <;> omega

def stl (l : List Int) (j : Nat) : Int := if j = 0 then 0 else if stOf l j = 1 then 1 else 2
def settled (l : List Int) (n : Nat) : List Int := (List.range n).map (stl l)
theorem settled_length (l : List Int) (n : Nat) : (settled l n).length = n := by simp [settled]
theorem settled_get (l : List Int) (n j : Nat) (h : j < n) : (settled l n)[j]? = some (stl l j) := by
  simp [settled, List.getElem?_map, List.getElem?_range, h]
theorem settled_succ (l : List Int) (i : Nat) : settled l (i + 1) = settled l i ++ [stl l i] := by
  simp [settled, List.range_succ]
theorem spec_StatusSettle_l (l : List Int) (n : Nat) (hn : n ≤ 401) (d : Nat) : ∀ (i : Nat), i + d = n → Ev (fun k => spec_StatusSettle.l0 k l (n : Int) (settled l i) (i : Int)) (settled l n) := by
  induction d with
  | zero =>
    intro i hi
    refine Ev.step (f := fun _ => some (settled l n)) (fun k => ?_) (Ev.now _)
    simp only [spec_StatusSettle.l0]
    rw [if_neg (by omega), show i = n by omega]
  | succ d ih =>
    intro i hi
    have h := ih (i + 1) (by omega)
    rw [settled_succ] at h
    have hl := settled_length l i
    have e : wrap64 ((i : Int) + 1) = ((i + 1 : Nat) : Int) := by rw [w64 (by omega) (by omega)]; omega
    refine Ev.step (fun k => ?_) h
    simp only [spec_StatusSettle.l0]
    rw [if_pos (by omega), spec_StatusOf_f]
    simp only [Option.bind_some]
    unfold stl
    by_cases h0 : i = 0
    · subst h0
      by_cases h1 : stOf l ((0 : Nat) : Int) = 1
      · rw [if_pos h1, if_pos (by simp), if_pos (by omega), if_pos rfl, e]
      · rw [if_neg h1, if_pos (by simp), if_pos (by omega), if_pos rfl, e]
    · by_cases h1 : stOf l (i : Int) = 1
      · rw [if_pos h1, if_neg (by omega), if_pos (by omega), if_neg h0, if_pos h1, e]
      · rw [if_neg h1, if_neg (by omega), if_pos (by omega), if_neg h0, if_neg h1, e]
theorem impl_StatusSettle_l (l : List Int) (n : Nat) (hn : n ≤ 401) (d : Nat) : ∀ (i : Nat) (y : List Int), 1 ≤ i → n ≤ i + d → y.length = n → (∀ j, j < i → j < n → y[j]? = some (stl l j)) → Ev (fun k => impl_StatusSettle.l0 k l (n : Int) y (i : Int)) (settled l n) := by
  induction d with
  | zero =>
    intro i y h1 hi hy hj
    refine Ev.step (f := fun _ => some (settled l n)) (fun k => ?_) (Ev.now _)
    simp only [impl_StatusSettle.l0]
    rw [if_neg (by omega)]
    congr 1
    refine List.ext_getElem? fun j => ?_
    have hl := settled_length l n
    by_cases h : j < n
    · rw [hj j (by omega) h, settled_get l n j h]
    · rw [List.getElem?_eq_none (by omega), List.getElem?_eq_none (by omega)]
  | succ d ih =>
    intro i y h1 hi hy hj
    by_cases hin : n ≤ i
    · refine Ev.step (f := fun _ => some (settled l n)) (fun k => ?_) (Ev.now _)
      simp only [impl_StatusSettle.l0]
      rw [if_neg (by omega)]
      congr 1
      refine List.ext_getElem? fun j => ?_
      have hl := settled_length l n
      by_cases h : j < n
      · rw [hj j (by omega) h, settled_get l n j h]
      · rw [List.getElem?_eq_none (by omega), List.getElem?_eq_none (by omega)]
    · have e : wrap64 ((i : Int) + 1) = ((i + 1 : Nat) : Int) := by rw [w64 (by omega) (by omega)]; omega
      by_cases hs : stOf l (i : Int) = 1
      · refine Ev.step (f := fun k => impl_StatusSettle.l0 k l (n : Int) ((y.set i 2).set i 1) ((i + 1 : Nat) : Int)) (fun k => ?_) (ih (i + 1) _ (by omega) (by omega) (by simp [hy]) ?_)
        · simp only [impl_StatusSettle.l0]
          rw [if_pos (by omega), if_pos (by omega), if_pos (by omega), impl_StatusOf_f]
          simp only [Option.bind_some]
          rw [if_pos hs, e]
          simp
        · intro j hji hjn
          by_cases h : j = i
          · subst h
            rw [List.getElem?_set_self (by simp; omega)]
            unfold stl
            rw [if_neg (by omega), if_pos hs]
          · rw [List.getElem?_set_ne (by omega), List.getElem?_set_ne (by omega)]
            exact hj j (by omega) hjn
      · refine Ev.step (f := fun k => impl_StatusSettle.l0 k l (n : Int) (y.set i 2) ((i + 1 : Nat) : Int)) (fun k => ?_) (ih (i + 1) _ (by omega) (by omega) (by simp [hy]) ?_)
        · simp only [impl_StatusSettle.l0]
          rw [if_pos (by omega), if_pos (by omega), if_pos (by omega), impl_StatusOf_f]
          simp only [Option.bind_some]
          rw [if_neg hs, e]
          simp
        · intro j hji hjn
          by_cases h : j = i
          · subst h
            rw [List.getElem?_set_self (by omega)]
            unfold stl
            rw [if_neg (by omega), if_neg hs]
          · rw [List.getElem?_set_ne (by omega)]
            exact hj j (by omega) hjn
def stSettle (l : List Int) (n : Int) : List Int := if 0 ≤ n ∧ n ≤ 401 then settled l n.toNat else []
theorem stSettle_length (l : List Int) (n : Int) : (stSettle l n).length ≤ 401 := by
  unfold stSettle
  split
  · rw [settled_length]; omega
  · simp
theorem spec_StatusSettle_f (l : List Int) (n : Int) : Ev (fun k => spec_StatusSettle.f k l n) (stSettle l n) := by
  unfold spec_StatusSettle.f
  refine ev_bind0 (spec_l5in_f _ _ _) ?_
  by_cases h : 0 ≤ n ∧ n ≤ 401
  · refine ev_pos (decide_eq_true h) ?_
    have := spec_StatusSettle_l l n.toNat (by omega) n.toNat 0 (by omega)
    rw [show ((n.toNat : Nat) : Int) = n by omega] at this
    rw [stSettle, if_pos h]
    exact this
  · refine ev_neg (by simpa using h) ?_
    rw [stSettle, if_neg h]
    exact Ev.now _
theorem impl_StatusSettle_f (l : List Int) (n : Int) : Ev (fun k => impl_StatusSettle.f k l n) (stSettle l n) := by
  unfold impl_StatusSettle.f
  refine ev_bind0 (impl_within_f _ _ _) ?_
  by_cases h : 0 ≤ n ∧ n ≤ 401
  · refine ev_pos (decide_eq_true h) (ev_pos h.1 (ev_pos (by omega) ?_))
    have := impl_StatusSettle_l l n.toNat (by omega) n.toNat 1 (List.replicate n.toNat 0) (by omega) (by omega) (by simp) (by
      intro j hj hn
      obtain rfl : j = 0 := by omega
      simp [stl, List.getElem?_replicate, hn])
    rw [show ((n.toNat : Nat) : Int) = n by omega] at this
    rw [stSettle, if_pos h]
    exact this
  · refine ev_neg (by simpa using h) ?_
    rw [stSettle, if_neg h]
    exact Ev.now _

theorem toIntS_l (l : List Int) (hn : l.length ≤ 1048576) (d : Nat) : ∀ (i : Nat) (y : List Int), i + d = l.length → y.length = l.length → (∀ j, j < i → y[j]? = l[j]?) → Ev (fun k => laws_toIntS.l0 k l y (i : Int)) l := by
  induction d with
  | zero =>
    intro i y hi hy hj
    refine Ev.step (f := fun _ => some l) (fun k => ?_) (Ev.now _)
    simp only [laws_toIntS.l0]
    rw [if_neg (by omega)]
    congr 1
    refine List.ext_getElem? fun j => ?_
    by_cases h : j < i
    · exact hj j h
    · rw [List.getElem?_eq_none (by omega), List.getElem?_eq_none (by omega)]
  | succ d ih =>
    intro i y hi hy hj
    refine Ev.step (f := fun k => laws_toIntS.l0 k l (y.set i (rd l i)) ((i + 1 : Nat) : Int)) (fun k => ?_) (ih (i + 1) _ (by omega) (by simp [hy]) ?_)
    · simp only [laws_toIntS.l0]
      rw [if_pos (by omega), if_pos (by omega), if_pos (by omega), w64 (by omega) (by omega)]
      simp
    · intro j hlt
      by_cases h : j = i
      · subst h
        rw [List.getElem?_set_self (by omega), rd_nat l j (by omega), List.getElem?_eq_getElem (by omega)]
      · rw [List.getElem?_set_ne (by omega)]
        exact hj j (by omega)
theorem toIntS_f (l : List Int) (hn : l.length ≤ 1048576) : Ev (fun k => laws_toIntS.f k l) l := by
  unfold laws_toIntS.f
  refine ev_pos (by omega) (ev_pos (by omega) ?_)
  exact toIntS_l l hn l.length 0 _ (by omega) (by simp) (by intro j h; omega)

theorem eqIntS_l (a b : List Int) (hn : a.length ≤ 1048576) (hab : a.length = b.length) (d : Nat) : ∀ (i : Nat), i + d = a.length → (∀ j, j < i → a[j]? = b[j]?) → Ev (fun k => laws_eqIntS.l0 k a b (i : Int)) (decide (a = b)) := by
  induction d with
  | zero =>
    intro i hi hj
    refine Ev.step (f := fun _ => some true) (fun k => ?_) ?_
    · simp only [laws_eqIntS.l0]
      rw [if_neg (by omega)]
    · have : a = b := by
        refine List.ext_getElem? fun j => ?_
        by_cases h : j < i
        · exact hj j h
        · rw [List.getElem?_eq_none (by omega), List.getElem?_eq_none (by omega)]
      rw [decide_eq_true this]
      exact Ev.now _
  | succ d ih =>
    intro i hi hj
    have ha : rd a (i : Int) = a[i]'(by omega) := rd_nat a i (by omega)
    have hb : rd b (i : Int) = b[i]'(by omega) := rd_nat b i (by omega)
    by_cases he : rd a (i : Int) = rd b (i : Int)
    · refine Ev.step (f := fun k => laws_eqIntS.l0 k a b ((i + 1 : Nat) : Int)) (fun k => ?_) (ih (i + 1) (by omega) ?_)
      · simp only [laws_eqIntS.l0]
        rw [if_pos (by omega), if_pos (by omega), if_pos (by omega), if_pos he, w64 (by omega) (by omega)]
        simp
      · intro j hlt
        by_cases h : j = i
        · subst h
          rw [List.getElem?_eq_getElem (by omega), List.getElem?_eq_getElem (by omega), ← ha, ← hb, he]
        · exact hj j (by omega)
    · refine Ev.step (f := fun _ => some false) (fun k => ?_) ?_
      · simp only [laws_eqIntS.l0]
        rw [if_pos (by omega), if_pos (by omega), if_pos (by omega), if_neg he]
      · have : ¬ a = b := by
          rintro rfl
          exact he rfl
        rw [decide_eq_false this]
        exact Ev.now _
theorem eqIntS_f (a b : List Int) (hn : a.length ≤ 1048576) : Ev (fun k => laws_eqIntS.f k a b) (decide (a = b)) := by
  unfold laws_eqIntS.f
  by_cases h : a.length = b.length
  · refine ev_pos (by omega) ?_
    exact eqIntS_l a b hn h a.length 0 (by omega) (by intro j h; omega)
  · refine ev_neg (by omega) ?_
    rw [decide_eq_false (by rintro rfl; exact h rfl)]
    exact Ev.now _
theorem eqIntS_same (a : List Int) (hn : a.length ≤ 1048576) : Ev (fun k => laws_eqIntS.f k a a) true := by
  have := eqIntS_f a a hn
  rwa [decide_eq_true rfl] at this

theorem markIntS_l (a : List Int) (hn : a.length ≤ 1048576) (m0 : Int) (h0 : 0 ≤ m0) (h1 : m0 ≤ 1000000000000) (d : Nat) : ∀ (i : Nat) (y : List Int), i + d = a.length → y.length = a.length → (∀ j, j < i → y[j]? = (marks m0 a.length)[j]?) → Ev (fun k => laws_markIntS.l0 k y (m0 + i) (i : Int)) (m0 + a.length, marks m0 a.length) := by
  have hml := marks_length a.length m0
  induction d with
  | zero =>
    intro i y hi hy hj
    refine Ev.step (f := fun _ => some (m0 + a.length, marks m0 a.length)) (fun k => ?_) (Ev.now _)
    simp only [laws_markIntS.l0]
    rw [if_neg (by omega)]
    have hy2 : y = marks m0 a.length := by
      refine List.ext_getElem? fun j => ?_
      by_cases h : j < i
      · exact hj j h
      · rw [List.getElem?_eq_none (by omega), List.getElem?_eq_none (by omega)]
    rw [hy2, show (i : Int) = a.length by omega]
  | succ d ih =>
    intro i y hi hy hj
    refine Ev.step (f := fun k => laws_markIntS.l0 k (y.set i (m0+i)) (m0 + (i + 1 : Nat)) ((i + 1 : Nat) : Int)) (fun k => ?_) (ih (i + 1) _ (by omega) (by simp [hy]) ?_)
    · simp only [laws_markIntS.l0]
      rw [if_pos (by omega), if_pos (by omega), w64 (by omega) (by omega), w64 (by omega) (by omega)]
      simp [Int.add_assoc]
    · intro j hlt
      by_cases h : j = i
      · subst h
        rw [List.getElem?_set_self (by omega), List.getElem?_eq_getElem (by omega), marks_get]
      · rw [List.getElem?_set_ne (by omega)]
        exact hj j (by omega)
theorem markIntS_f (a : List Int) (hn : a.length ≤ 1048576) (m : Int) (h0 : 0 ≤ m) (h1 : m ≤ 1000000000000) : Ev (fun k => laws_markIntS.f k a m) (m + a.length, marks m a.length) := by
  unfold laws_markIntS.f
  have := markIntS_l a hn m h0 h1 a.length 0 a (by omega) rfl (by intro j h; omega)
  simpa using this

theorem heldIntS_l (n : Nat) (hn : n ≤ 1048576) (m0 : Int) (h0 : 0 ≤ m0) (h1 : m0 ≤ 1000000000000) (d : Nat) : ∀ (i : Nat), i + d = n → Ev (fun k => laws_heldIntS.l0 k (marks m0 n) (m0 + i) (i : Int)) (m0 + n) := by
  have hml := marks_length n m0
  induction d with
  | zero =>
    intro i hi
    refine Ev.step (f := fun _ => some (m0 + n)) (fun k => ?_) (Ev.now _)
    simp only [laws_heldIntS.l0]
    rw [if_neg (by omega), show (i : Int) = n by omega]
  | succ d ih =>
    intro i hi
    refine Ev.step (f := fun k => laws_heldIntS.l0 k (marks m0 n) (m0 + (i + 1 : Nat)) ((i + 1 : Nat) : Int)) (fun k => ?_) (ih (i + 1) (by omega))
    simp only [laws_heldIntS.l0]
    rw [if_pos (by omega), if_pos (by omega), if_pos (by rw [rd_nat _ i (by omega), marks_get]), w64 (by omega) (by omega), w64 (by omega) (by omega)]
    simp [Int.add_assoc]
theorem heldIntS_f (n : Nat) (hn : n ≤ 1048576) (m : Int) (h0 : 0 ≤ m) (h1 : m ≤ 1000000000000) : Ev (fun k => laws_heldIntS.f k (marks m n) m) (m + n) := by
  unfold laws_heldIntS.f
  have := heldIntS_l n hn m h0 h1 n 0 (by omega)
  simpa using this

theorem main : laws_FnExactStatusSettle.Pure := by
  intro l n _ _ hw wn
  refine Ev.rounds ?_
  unfold laws_FnExactStatusSettle.f
  by_cases hb : (l.length : Int) > 1048576
  · exact ev_pos hb (Ev.now _)
  have hl : l.length ≤ 1048576 := by omega
  have hs := stSettle_length l n
  refine ev_neg hb ?_
  refine Ev.bind (toIntS_f l hl) ?_
  refine Ev.bind (spec_StatusSettle_f l n) ?_
  refine Ev.bind (toIntS_f l hl) ?_
  refine Ev.bind (impl_StatusSettle_f l n) ?_
  refine Ev.bind (eqIntS_same _ (by omega)) (ev_pos rfl ?_)
  refine Ev.bind (toIntS_f l hl) ?_
  refine Ev.bind (eqIntS_same _ hl) (ev_pos rfl ?_)
  refine Ev.bind (markIntS_f l hl 1 (by omega) (by omega)) ?_
  refine ev_neg (by simp; omega) ?_
  refine Ev.bind (eqIntS_same _ (by omega)) ?_
  refine Ev.step (fun k => by simp only [laws_FnExactStatusSettle.j0, Bool.not_true, Bool.false_eq_true, if_false]; rfl) ?_
  refine Ev.bind (markIntS_f _ (by omega) 1 (by omega) (by omega)) ?_
  refine Ev.bind (heldIntS_f _ (by omega) 1 (by omega) (by omega)) ?_
  refine ev_neg (by omega) (ev_pos rfl ?_)
  refine Ev.bind (toIntS_f l hl) ?_
  refine Ev.bind (impl_StatusSettle_f l n) ?_
  refine Ev.bind (eqIntS_same _ (by omega)) (ev_pos rfl ?_)
  refine Ev.bind (heldIntS_f _ (by omega) 1 (by omega) (by omega)) ?_
  exact ev_neg (by omega) (ev_pos rfl (Ev.now _))

end Go.Proofs.Ytkgljbddpbgdgaa.Pure.ofFnExactStatusSettle
namespace Go.Proofs.Ytkgljbddpbgdgaa.PrintWords
/-- The word that the printed row asks for, under the name by which it asks. -/
abbrev sized_ints := @Go.Proofs.YtkgljbddpbgdgaaW.PrintWords.sized_ints
end Go.Proofs.Ytkgljbddpbgdgaa.PrintWords
namespace Go.Proofs.Ytkgljbddpbgdgaa.Pure
open Go.Proofs.Ytkgljbddpbgdgaa.PFnExactStatusSettle
theorem FnExactStatusSettle : laws_FnExactStatusSettle.Pure := ofFnExactStatusSettle.main
end Go.Proofs.Ytkgljbddpbgdgaa.Pure
