/-
The law FnExactStatusOf answers true: for every list and number the program's StatusOf tells what the reference's tells, and the list stays as it was.
Conditions: none beyond the bounds of the statement itself.
-/
import Derived.Test.YtkgljbddpbgdgaaPFnExactStatusOfx1
import Derived.Test.YtkgljbddpbgdgaaWSized
set_option linter.unusedVariables false
set_option linter.unusedSimpArgs false
namespace Go.Proofs.Ytkgljbddpbgdgaa.Pure.ofFnExactStatusOf
open Go.RowKit Go.Proofs.Ytkgljbddpbgdgaa.PFnExactStatusOf Go.Proofs.YtkgljbddpbgdgaaW.PrintWords Go.Proofs.YtkgljbddpbgdgaaW.PrintLast Go.Proofs.YtkgljbddpbgdgaaW.PrintMore

theorem ev_pos {α : Type} {c : Prop} [Decidable c] {A B : Nat → Option α} {r : α} (hc : c) (h : Ev A r) : Ev (fun k => if c then A k else B k) r := by
  refine Ev.congr (fun k => ?_) h
  rw [if_pos hc]
theorem ev_neg {α : Type} {c : Prop} [Decidable c] {A B : Nat → Option α} {r : α} (hc : ¬ c) (h : Ev B r) : Ev (fun k => if c then A k else B k) r := by
  refine Ev.congr (fun k => ?_) h
  rw [if_neg hc]
theorem ev_bind0 {α β : Type} {g : Option α} {f : Nat → α → Option β} {a : α} {r : β} (h : g = some a) (k : Ev (fun n => f n a) r) : Ev (fun n => g.bind (f n)) r := by
  refine Ev.congr (fun n => ?_) k
  rw [h]; rfl
theorem w64 {x : Int} (h0 : -9223372036854775808 ≤ x) (h1 : x ≤ 9223372036854775807) : wrap64 x = x := by
  unfold wrap64; omega
theorem rd_cons (x : Int) (l : List Int) : rd (x :: l) 0 = x := rfl
theorem rd_nat (l : List Int) (i : Nat) (h : i < l.length) : rd l (i : Int) = l[i] := by
  simp [rd, List.getD_eq_getElem?_getD, List.getElem?_eq_getElem h]
theorem rd_at (l : List Int) (i : Int) (h0 : 0 ≤ i) (h : i < l.length) : ∃ x, x ∈ l ∧ rd l i = x := by
  obtain ⟨n, rfl⟩ := Int.eq_ofNat_of_zero_le h0
  exact ⟨l[n]'(by omega), List.getElem_mem _, rd_nat l n (by omega)⟩
def marks (m : Int) : Nat → List Int
  | 0 => []
  | n + 1 => m :: marks (m + 1) n
def marksB (m : Int) : Nat → List Int
  | 0 => []
  | n + 1 => (m % 256) :: marksB (m + 1) n
theorem marks_length (n : Nat) : ∀ m, (marks m n).length = n := by
  induction n with
  | zero => intro m; rfl
  | succ n ih => intro m; simp [marks, ih]
theorem marksB_length (n : Nat) : ∀ m, (marksB m n).length = n := by
  induction n with
  | zero => intro m; rfl
  | succ n ih => intro m; simp [marksB, ih]
theorem marks_get (n : Nat) : ∀ m (i : Nat) (h : i < (marks m n).length), (marks m n)[i] = m + i := by
  induction n with
  | zero => intro m i h; simp [marks] at h
  | succ n ih =>
    intro m i h
    cases i with
    | zero => simp [marks]
    | succ i => simp only [marks, List.getElem_cons_succ]; rw [ih]; push_cast; omega
theorem marksB_get (n : Nat) : ∀ m (i : Nat) (h : i < (marksB m n).length), (marksB m n)[i] = (m + i) % 256 := by
  induction n with
  | zero => intro m i h; simp [marksB] at h
  | succ n ih =>
    intro m i h
    cases i with
    | zero => simp [marksB]
    | succ i => simp only [marksB, List.getElem_cons_succ]; rw [ih]; push_cast; omega

theorem impl_within_f (a b c : Int) : impl_within.f a b c = some (decide (b ≤ a ∧ a ≤ c)) := by
  unfold impl_within.f
  by_cases h : b ≤ a <;> simp [h]

theorem spec_l5in_f (a b c : Int) : spec_l5in.f a b c = some (decide (b ≤ a ∧ a ≤ c)) := by
  unfold spec_l5in.f
  by_cases h : b ≤ a <;> simp [h]

def stOf (l : List Int) (x : Int) : Int := if (1 ≤ x ∧ x ≤ 400) ∧ x < l.length ∧ (1 ≤ rd l x ∧ rd l x ≤ 2) then rd l x else 0
theorem spec_StatusOf_f (l : List Int) (x : Int) : spec_StatusOf.f l x = some (stOf l x) := by
  unfold spec_StatusOf.f stOf
  simp only [spec_l5in_f, Option.bind_some, decide_eq_true_eq]
  by_cases h1 : 1 ≤ x ∧ x ≤ 400
  · by_cases h2 : x < l.length
    · by_cases h3 : 1 ≤ rd l x ∧ rd l x ≤ 2
      · rw [if_pos h1, if_neg (by omega), if_pos (by omega), if_pos h2, if_pos h3, if_pos ⟨h1, h2, h3⟩]
      · rw [if_pos h1, if_neg (by omega), if_pos (by omega), if_pos h2, if_neg h3, if_neg (fun h => h3 h.2.2)]
    · rw [if_pos h1, if_pos (by omega), if_neg (fun h => h2 h.2.1)]
  · rw [if_neg h1, if_neg (fun h => h1 h.1)]
theorem impl_StatusOf_f (l : List Int) (x : Int) : impl_StatusOf.f l x = some (stOf l x) := by
  unfold impl_StatusOf.f impl_isXid.f stOf
  simp only [impl_within_f, Option.bind_some, decide_eq_true_eq]
  by_cases h1 : 1 ≤ x ∧ x ≤ 400
  · by_cases h2 : x < l.length
    · by_cases h3 : 0 ≤ rd l x ∧ rd l x ≤ 2
      · rw [if_pos h1, if_neg (by omega), if_pos (by omega), if_pos h2, if_pos h3]
        by_cases h4 : 1 ≤ rd l x
        · rw [if_pos ⟨h1, h2, h4, h3.2⟩]
        · rw [if_neg (fun h => h4 h.2.2.1), show rd l x = 0 by omega]
      · rw [if_pos h1, if_neg (by omega), if_pos (by omega), if_pos h2, if_neg h3, if_neg (fun h => h3 ⟨by omega, h.2.2.2⟩)]
    · rw [if_pos h1, if_pos (by omega), if_neg (fun h => h2 h.2.1)]
  · rw [if_neg h1, if_neg (fun h => h1 h.1)]
theorem stOf_cases (l : List Int) (x : Int) : stOf l x = 0 ∨ stOf l x = 1 ∨ stOf l x = 2 := by
  unfold stOf
  split <;> omega

theorem toIntS_l (l : List Int) (hn : l.length ≤ 1048576) (d : Nat) : ∀ (i : Nat) (y : List Int), i + d = l.length → y.length = l.length → (∀ j, j < i → y[j]? = l[j]?) → Ev (fun k => laws_toIntS.l0 k l y (i : Int)) l := by
  induction d with
  | zero =>
    intro i y hi hy hj
    refine Ev.step (f := fun _ => some l) (fun k => ?_) (Ev.now _)
    simp only [laws_toIntS.l0]
    rw [if_neg (by omega)]
    congr 1
    refine List.ext_getElem? fun j => ?_
    by_cases h : j < i
    · exact hj j h
    · rw [List.getElem?_eq_none (by omega), List.getElem?_eq_none (by omega)]
  | succ d ih =>
    intro i y hi hy hj
    refine Ev.step (f := fun k => laws_toIntS.l0 k l (y.set i (rd l i)) ((i + 1 : Nat) : Int)) (fun k => ?_) (ih (i + 1) _ (by omega) (by simp [hy]) ?_)
    · simp only [laws_toIntS.l0]
      rw [if_pos (by omega), if_pos (by omega), if_pos (by omega), w64 (by omega) (by omega)]
      simp
    · intro j hlt
      by_cases h : j = i
      · subst h
        rw [List.getElem?_set_self (by omega), rd_nat l j (by omega), List.getElem?_eq_getElem (by omega)]
      · rw [List.getElem?_set_ne (by omega)]
        exact hj j (by omega)
theorem toIntS_f (l : List Int) (hn : l.length ≤ 1048576) : Ev (fun k => laws_toIntS.f k l) l := by
  unfold laws_toIntS.f
  refine ev_pos (by omega) (ev_pos (by omega) ?_)
  exact toIntS_l l hn l.length 0 _ (by omega) (by simp) (by intro j h; omega)

theorem eqIntS_l (a b : List Int) (hn : a.length ≤ 1048576) (hab : a.length = b.length) (d : Nat) : ∀ (i : Nat), i + d = a.length → (∀ j, j < i → a[j]? = b[j]?) → Ev (fun k => laws_eqIntS.l0 k a b (i : Int)) (decide (a = b)) := by
  induction d with
  | zero =>
    intro i hi hj
    refine Ev.step (f := fun _ => some true) (fun k => ?_) ?_
    · simp only [laws_eqIntS.l0]
      rw [if_neg (by omega)]
    · have : a = b := by
        refine List.ext_getElem? fun j => ?_
        by_cases h : j < i
        · exact hj j h
        · rw [List.getElem?_eq_none (by omega), List.getElem?_eq_none (by omega)]
      rw [decide_eq_true this]
      exact Ev.now _
  | succ d ih =>
    intro i hi hj
    have ha : rd a (i : Int) = a[i]'(by omega) := rd_nat a i (by omega)
    have hb : rd b (i : Int) = b[i]'(by omega) := rd_nat b i (by omega)
    by_cases he : rd a (i : Int) = rd b (i : Int)
    · refine Ev.step (f := fun k => laws_eqIntS.l0 k a b ((i + 1 : Nat) : Int)) (fun k => ?_) (ih (i + 1) (by omega) ?_)
      · simp only [laws_eqIntS.l0]
        rw [if_pos (by omega), if_pos (by omega), if_pos (by omega), if_pos he, w64 (by omega) (by omega)]
        simp
      · intro j hlt
        by_cases h : j = i
        · subst h
          rw [List.getElem?_eq_getElem (by omega), List.getElem?_eq_getElem (by omega), ← ha, ← hb, he]
        · exact hj j (by omega)
    · refine Ev.step (f := fun _ => some false) (fun k => ?_) ?_
      · simp only [laws_eqIntS.l0]
        rw [if_pos (by omega), if_pos (by omega), if_pos (by omega), if_neg he]
      · have : ¬ a = b := by
          rintro rfl
          exact he rfl
        rw [decide_eq_false this]
        exact Ev.now _
theorem eqIntS_f (a b : List Int) (hn : a.length ≤ 1048576) : Ev (fun k => laws_eqIntS.f k a b) (decide (a = b)) := by
  unfold laws_eqIntS.f
  by_cases h : a.length = b.length
  · refine ev_pos (by omega) ?_
    exact eqIntS_l a b hn h a.length 0 (by omega) (by intro j h; omega)
  · refine ev_neg (by omega) ?_
    rw [decide_eq_false (by rintro rfl; exact h rfl)]
    exact Ev.now _
theorem eqIntS_same (a : List Int) (hn : a.length ≤ 1048576) : Ev (fun k => laws_eqIntS.f k a a) true := by
  have := eqIntS_f a a hn
  rwa [decide_eq_true rfl] at this

theorem main : laws_FnExactStatusOf.Pure := by
  intro l x hl _ hw wx
  refine Ev.rounds ?_
  unfold laws_FnExactStatusOf.f
  by_cases hb : (l.length : Int) > 1048576
  · exact ev_pos hb (Ev.now _)
  have hn : l.length ≤ 1048576 := by omega
  refine ev_neg hb ?_
  refine Ev.bind (toIntS_f l hn) ?_
  refine ev_bind0 (spec_StatusOf_f l x) ?_
  refine Ev.bind (toIntS_f l hn) ?_
  refine ev_bind0 (impl_StatusOf_f l x) ?_
  refine ev_pos rfl ?_
  refine Ev.bind (toIntS_f l hn) ?_
  refine Ev.bind (eqIntS_same l hn) ?_
  exact ev_pos rfl (Ev.now _)

end Go.Proofs.Ytkgljbddpbgdgaa.Pure.ofFnExactStatusOf
namespace Go.Proofs.Ytkgljbddpbgdgaa.PrintWords
/-- The word that the printed row asks for, under the name by which it asks. -/
abbrev sized_ints := @Go.Proofs.YtkgljbddpbgdgaaW.PrintWords.sized_ints
end Go.Proofs.Ytkgljbddpbgdgaa.PrintWords
namespace Go.Proofs.Ytkgljbddpbgdgaa.Pure
open Go.Proofs.Ytkgljbddpbgdgaa.PFnExactStatusOf
theorem FnExactStatusOf : laws_FnExactStatusOf.Pure := ofFnExactStatusOf.main
end Go.Proofs.Ytkgljbddpbgdgaa.Pure
