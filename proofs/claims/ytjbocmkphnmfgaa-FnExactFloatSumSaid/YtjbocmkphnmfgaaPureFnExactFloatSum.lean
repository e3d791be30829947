/-
The law FnExactFloatSum answers true: for every row of floats the program's FloatSum gives the reference's sum, and no number where the reference gives none; the row stays as it was.
Conditions: none beyond the bounds of the statement itself.
-/
import Derived.Test.YtjbocmkphnmfgaaPFnExactFloatSumx2
import Derived.Test.YtjbocmkphnmfgaaWSized
import Derived.Test.YtjbocmkphnmfgaaXIeee
set_option linter.unusedVariables false
set_option linter.unusedSimpArgs false
namespace Go.Proofs.Ytjbocmkphnmfgaa.Pure.ofFnExactFloatSum
open Go.Proofs.YtjbocmkphnmfgaaX
open Go.RowKit Go.Proofs.Ytjbocmkphnmfgaa.PFnExactFloatSum Go.Proofs.YtjbocmkphnmfgaaW.PrintWords Go.Proofs.YtjbocmkphnmfgaaW.PrintLast Go.Proofs.YtjbocmkphnmfgaaW.PrintMore

theorem ev_pos {α : Type} {c : Prop} [Decidable c] {A B : Nat → Option α} {r : α} (hc : c) (h : Ev A r) : Ev (fun k => if c then A k else B k) r := by
  refine Ev.congr (fun k => ?_) h
  rw [if_pos hc]
theorem ev_neg {α : Type} {c : Prop} [Decidable c] {A B : Nat → Option α} {r : α} (hc : ¬ c) (h : Ev B r) : Ev (fun k => if c then A k else B k) r := by
  refine Ev.congr (fun k => ?_) h
  rw [if_neg hc]
theorem ev_bind0 {α β : Type} {g : Option α} {f : Nat → α → Option β} {a : α} {r : β} (h : g = some a) (k : Ev (fun n => f n a) r) : Ev (fun n => g.bind (f n)) r := by
  refine Ev.congr (fun n => ?_) k
  rw [h]; rfl
theorem w64 {x : Int} (h0 : -9223372036854775808 ≤ x) (h1 : x ≤ 9223372036854775807) : wrap64 x = x := by
  unfold wrap64; omega
theorem rd_cons (x : Int) (l : List Int) : rd (x :: l) 0 = x := rfl
theorem rd_nat (l : List Int) (i : Nat) (h : i < l.length) : rd l (i : Int) = l[i] := by
  simp [rd, List.getD_eq_getElem?_getD, List.getElem?_eq_getElem h]
theorem rd_at (l : List Int) (i : Int) (h0 : 0 ≤ i) (h : i < l.length) : ∃ x, x ∈ l ∧ rd l i = x := by
  obtain ⟨n, rfl⟩ := Int.eq_ofNat_of_zero_le h0
  exact ⟨l[n]'(by omega), List.getElem_mem _, rd_nat l n (by omega)⟩
def marks (m : Int) : Nat → List Int
  | 0 => []
  | n + 1 => m :: marks (m + 1) n
def marksB (m : Int) : Nat → List Int
  | 0 => []
  | n + 1 => (m % 256) :: marksB (m + 1) n
theorem marks_length (n : Nat) : ∀ m, (marks m n).length = n := by
  induction n with
  | zero => intro m; rfl
  | succ n ih => intro m; simp [marks, ih]
theorem marksB_length (n : Nat) : ∀ m, (marksB m n).length = n := by
  induction n with
  | zero => intro m; rfl
  | succ n ih => intro m; simp [marksB, ih]
theorem marks_get (n : Nat) : ∀ m (i : Nat) (h : i < (marks m n).length), (marks m n)[i] = m + i := by
  induction n with
  | zero => intro m i h; simp [marks] at h
  | succ n ih =>
    intro m i h
    cases i with
    | zero => simp [marks]
    | succ i => simp only [marks, List.getElem_cons_succ]; rw [ih]; push_cast; omega
theorem marksB_get (n : Nat) : ∀ m (i : Nat) (h : i < (marksB m n).length), (marksB m n)[i] = (m + i) % 256 := by
  induction n with
  | zero => intro m i h; simp [marksB] at h
  | succ n ih =>
    intro m i h
    cases i with
    | zero => simp [marksB]
    | succ i => simp only [marksB, List.getElem_cons_succ]; rw [ih]; push_cast; omega

theorem fkey_zero (a : Nat) (ha : a < 2 ^ 64) : fkey a = 0 ↔ a = 0 ∨ a = 9223372036854775808 := by
  unfold fkey
  split <;> omega
theorem feq_zero (a : Nat) (ha : a < 2 ^ 64) (hn : isn a = false) : feq a 0 = decide (a = 0 ∨ a = 9223372036854775808) := by
  rw [feq_key a 0 ha (by omega) hn (isn_pos 0 (by omega)), fkey_pos 0 (by omega)]
  exact decide_eq_decide.2 (fkey_zero a ha)
theorem fgt_zero (a : Nat) (ha : a < 2 ^ 64) (hn : isn a = false) : fgt a 0 = decide (0 < a ∧ a < 9223372036854775808) := by
  rw [fgt_key a 0 ha (by omega) hn (isn_pos 0 (by omega)), fkey_pos 0 (by omega)]
  refine decide_eq_decide.2 ?_
  unfold fkey
  split <;> omega
theorem fls_zero (a : Nat) (ha : a < 2 ^ 64) (hn : isn a = false) : fls a 0 = decide (9223372036854775808 < a) := by
  rw [fls_key a 0 ha (by omega) hn (isn_pos 0 (by omega)), fkey_pos 0 (by omega)]
  refine decide_eq_decide.2 ?_
  unfold fkey
  split <;> omega

open Ieee
theorem quo_one_zero : fok .quo 4607182418800017408 0 = true := (fl_ok (show floatBits .quo .f64 4607182418800017408 0 = some 9218868437227405312 from by
      show double.div 4607182418800017408 0 = some 9218868437227405312
      unfold Format.div
      rw [read_zero, read_one]
      rfl)).1
theorem quo_one_neg : fok .quo 4607182418800017408 9223372036854775808 = true := (fl_ok (show floatBits .quo .f64 4607182418800017408 9223372036854775808 = some 18442240474082181120 from by
      show double.div 4607182418800017408 9223372036854775808 = some 18442240474082181120
      unfold Format.div
      rw [show double.read 9223372036854775808 = .number true 0 (-1074) from read_nzero, read_one]
      rfl)).1
theorem same_self (a : Nat) (h : a < 2 ^ 64) (k : Nat) : laws_sameFloat.f (k + 1) a a = some true := by
  unfold laws_sameFloat.f
  rw [feq_self a h]
  cases hn : isn a with
  | true =>
    rw [if_neg (show ¬ ((!true) = true) by decide)]
    rw [laws_sameFloat.j0, if_pos rfl, feq_self a h, hn]
    rfl
  | false =>
    rw [if_pos (show (!false) = true from rfl), laws_sameFloat.j0, if_neg (by decide)]
    have e : feq a a = true := by rw [feq_self a h, hn]; rfl
    rw [e, feq_zero a h hn]
    by_cases z : a = 0 ∨ a = 9223372036854775808
    · have q : fok .quo 4607182418800017408 a = true := by
        rcases z with rfl | rfl
        · exact quo_one_zero
        · exact quo_one_neg
      rw [decide_eq_true z, if_pos rfl, if_pos rfl, if_pos q, if_pos q]
      congr 1
      exact beq_self_eq_true _
    · rw [decide_eq_false z, if_neg (by decide)]
theorem same_nan (a b : Nat) (ha : a < 2 ^ 64) (hb : b < 2 ^ 64) (na : isn a = true) (nb : isn b = true) (k : Nat) : laws_sameFloat.f (k + 1) a b = some true := by
  unfold laws_sameFloat.f
  rw [feq_self a ha, na, if_neg (show ¬ ((!true) = true) by decide)]
  rw [laws_sameFloat.j0, if_pos rfl, feq_self a ha, na, feq_self b hb, nb]
  rfl
theorem nanR_isn (r : Nat) (h : nanR r) : isn r = true ∧ r < 2 ^ 64 := by
  obtain ⟨a, b, q, rfl⟩ := h
  have : (Question.nanBits .f64 a b).cut q = (q % 2) * 2 ^ 63 + 0x7ff0000000000000 + 1 + (q / 2) % (2 ^ 52 - 1) := rfl
  rw [this]
  have h3 := Nat.mod_lt (q / 2) (show 0 < 2 ^ 52 - 1 by decide)
  have h4 := Nat.mod_lt q (show 0 < 2 by decide)
  generalize q / 2 % (2 ^ 52 - 1) = x at *
  generalize q % 2 = y at *
  unfold isn
  constructor
  · refine decide_eq_true ?_
    omega
  · omega

theorem rdOf_nat (l : List Nat) (i : Nat) (h : i < l.length) : rdOf (0 : Nat) l (i : Int) = l[i] := by
  unfold rdOf
  rw [Int.toNat_natCast, List.getD_eq_getElem?_getD, List.getElem?_eq_getElem h, Option.getD_some]
theorem toFloat64S_l (l : List Nat) (hn : l.length ≤ 1048576) (d : Nat) : ∀ (i : Nat) (y : List Nat), i + d = l.length → y.length = l.length → (∀ j, j < i → y[j]? = l[j]?) → Ev (fun k => laws_toFloat64S.l0 k l y (i : Int)) l := by
  induction d with
  | zero =>
    intro i y hi hy hj
    refine Ev.step (f := fun _ => some l) (fun k => ?_) (Ev.now _)
    simp only [laws_toFloat64S.l0]
    rw [if_neg (by omega)]
    congr 1
    refine List.ext_getElem? fun j => ?_
    by_cases h : j < i
    · exact hj j h
    · rw [List.getElem?_eq_none (by omega), List.getElem?_eq_none (by omega)]
  | succ d ih =>
    intro i y hi hy hj
    refine Ev.step (f := fun k => laws_toFloat64S.l0 k l (y.set i (rdOf (0 : Nat) l (i : Int))) ((i + 1 : Nat) : Int)) (fun k => ?_) (ih (i + 1) _ (by omega) (by simp [hy]) ?_)
    · simp only [laws_toFloat64S.l0]
      rw [if_pos (by omega), if_pos (by omega), if_pos (by omega), w64 (by omega) (by omega)]
      simp
    · intro j hlt
      by_cases h : j = i
      · subst h
        rw [List.getElem?_set_self (by omega), rdOf_nat l j (by omega), List.getElem?_eq_getElem (by omega)]
      · rw [List.getElem?_set_ne (by omega)]
        exact hj j (by omega)
theorem toFloat64S_f (l : List Nat) (hn : l.length ≤ 1048576) : Ev (fun k => laws_toFloat64S.f k l) l := by
  unfold laws_toFloat64S.f
  refine ev_pos (by omega) (ev_pos (by omega) ?_)
  exact toFloat64S_l l hn l.length 0 _ (by omega) (by simp) (by intro j h; omega)
theorem ev_same (x : Nat) (h : x < 2 ^ 64) : Ev (fun k => laws_sameFloat.f k x x) true := Ev.step (f := fun _ => some true) (fun k => same_self x h k) (Ev.now _)
theorem eqFloat64S_l (a : List Nat) (hn : a.length ≤ 1048576) (hw : ∀ x ∈ a, x < 2 ^ 64) (d : Nat) : ∀ (i : Nat), i + d = a.length → Ev (fun k => laws_eqFloat64S.l0 k a a (i : Int)) true := by
  induction d with
  | zero =>
    intro i hi
    refine Ev.step (f := fun _ => some true) (fun k => ?_) (Ev.now _)
    simp only [laws_eqFloat64S.l0]
    rw [if_neg (by omega)]
  | succ d ih =>
    intro i hi
    have hx : rdOf (0 : Nat) a (i : Int) < 2 ^ 64 := by
      rw [rdOf_nat a i (by omega)]
      exact hw _ (List.getElem_mem _)
    refine Ev.step (f := fun k => (laws_sameFloat.f k (rdOf (0 : Nat) a (i : Int)) (rdOf (0 : Nat) a (i : Int))).bind fun t => if t = true then laws_eqFloat64S.l0 k a a ((i + 1 : Nat) : Int) else some false) (fun k => ?_) (Ev.bind (ev_same _ hx) (ev_pos rfl (ih (i + 1) (by omega))))
    simp only [laws_eqFloat64S.l0]
    rw [if_pos (by omega), if_pos (by omega), if_pos (by omega), w64 (by omega) (by omega)]
    simp
theorem eqFloat64S_f (a : List Nat) (hn : a.length ≤ 1048576) (hw : ∀ x ∈ a, x < 2 ^ 64) : Ev (fun k => laws_eqFloat64S.f k a a) true := by
  unfold laws_eqFloat64S.f
  refine ev_pos rfl ?_
  exact eqFloat64S_l a hn hw a.length 0 (by omega)

theorem add_nan (s y : Nat) (h : s < 2 ^ 64) (hn : isn s = true) : fok .add s y = false := by
  obtain ⟨b, t, e⟩ := isn_read s h hn
  show (double.add s y).isSome = false
  unfold Format.add
  rw [e]
  rfl
/-- the same float, or no number both -/
def sameV (a b : Nat) : Prop := a < 2 ^ 64 ∧ b < 2 ^ 64 ∧ (a = b ∨ (isn a = true ∧ isn b = true))
theorem sameV_same (a b : Nat) (h : sameV a b) (k : Nat) : laws_sameFloat.f (k + 1) a b = some true := by
  obtain ⟨ha, hb, rfl | ⟨na, nb⟩⟩ := h
  · exact same_self a ha k
  · exact same_nan a b ha hb na nb k
theorem fval_add_lt (s y : Nat) (h : fok .add s y = true) : fval .add s y < 2 ^ 64 := by
  obtain ⟨r, hr⟩ := Option.isSome_iff_exists.1 h
  have : fval .add s y = r := by
    unfold fval
    rw [hr]
    rfl
  rw [this]
  exact double.add_lt hr
theorem addR_same (s s' y t t' : Nat) (hs : sameV s s') (h : addR s y t) (h' : addR s' y t') : sameV t t' := by
  obtain ⟨ls, ls', rfl | ⟨na, nb⟩⟩ := hs
  · rcases h with ⟨c, rfl⟩ | ⟨c, n⟩ <;> rcases h' with ⟨c', rfl⟩ | ⟨c', n'⟩
    · exact ⟨fval_add_lt _ _ c, fval_add_lt _ _ c, Or.inl rfl⟩
    · rw [c] at c'; cases c'
    · rw [c] at c'; cases c'
    · obtain ⟨q1, q2⟩ := nanR_isn _ n
      obtain ⟨q3, q4⟩ := nanR_isn _ n'
      exact ⟨q2, q4, Or.inr ⟨q1, q3⟩⟩
  · have c1 := add_nan s y ls na
    have c2 := add_nan s' y ls' nb
    rcases h with ⟨c, rfl⟩ | ⟨c, n⟩
    · rw [c] at c1; cases c1
    · rcases h' with ⟨c', rfl⟩ | ⟨c', n'⟩
      · rw [c'] at c2; cases c2
      · obtain ⟨q1, q2⟩ := nanR_isn _ n
        obtain ⟨q3, q4⟩ := nanR_isn _ n'
        exact ⟨q2, q4, Or.inr ⟨q1, q3⟩⟩
theorem sumTo_same (l : List Nat) : ∀ (n s s' : Nat), sumTo l n s → sumTo l n s' → sameV s s'
  | 0, s, s', h, h' => by
    have e : s = 0 := h
    have e' : s' = 0 := h'
    subst e e'
    exact ⟨by decide, by decide, Or.inl rfl⟩
  | n + 1, s, s', h, h' => by
    obtain ⟨t, h1, h2⟩ := h
    obtain ⟨t', h1', h2'⟩ := h'
    exact addR_same _ _ _ _ _ (sumTo_same l n t t' h1 h1') h2 h2'

/-- The pure statement. -/
def Stmt : Prop := ∀ (l0 : List (Nat)), ((fun xs => xs.length ≤ 9223372036854775807 ∧ ∀ x ∈ xs, (fun b => b < 2 ^ 64) x) l0) → laws_FnExactFloatSum.H l0
theorem main : Stmt := by
  intro l ⟨_, hw⟩
  unfold laws_FnExactFloatSum.H
  by_cases h : 1048576 < (l.length : Int)
  · exact Or.inl h
  refine Or.inr ⟨h, ?_⟩
  have hn : l.length ≤ 1048576 := by omega
  have hw2 : ∀ x ∈ l, x < 2 ^ 64 := hw
  obtain ⟨k1, h1⟩ := Ev.rounds (toFloat64S_f l hn)
  obtain ⟨k2, h2⟩ := Ev.rounds (eqFloat64S_f l hn hw2)
  have hq : spec_FloatSum.Q l := by
    show (floatBits .quo .f64 0 0).isSome = false
    have : floatBits .quo .f64 0 0 = none := by
      show double.div 0 0 = none
      unfold Format.div
      rw [read_zero]
      rfl
    rw [this]
    rfl
  refine ⟨k1, l, h1, hq, fun t hR => ⟨k1, l, h1, ⟨_, rfl⟩, fun t' hR' => ⟨1, ?_, k1, l, h1, k2, h2, trivial⟩⟩⟩
  refine sameV_same _ _ ?_ 0
  rcases hR' with ⟨c, u, hu, hu2⟩ | ⟨c, s⟩
  · rcases hR with ⟨_, n⟩ | ⟨c', _⟩
    · subst hu2
      obtain ⟨q1, q2⟩ := nanR_isn _ n
      have e : 9221120237041090561 = t' := Option.some.inj hu
      rw [← e]
      exact ⟨by decide, q2, Or.inr ⟨by decide, q1⟩⟩
    · omega
  · rcases hR with ⟨c', _⟩ | ⟨_, s'⟩
    · omega
    · exact sumTo_same l _ _ _ s s'

end Go.Proofs.Ytjbocmkphnmfgaa.Pure.ofFnExactFloatSum
namespace Go.Proofs.Ytjbocmkphnmfgaa.PrintWords
/-- The word that the printed row asks for, under the name by which it asks. -/
abbrev sized_ints := @Go.Proofs.YtjbocmkphnmfgaaW.PrintWords.sized_ints
end Go.Proofs.Ytjbocmkphnmfgaa.PrintWords
namespace Go.Proofs.Ytjbocmkphnmfgaa.Pure
open Go.Proofs.Ytjbocmkphnmfgaa.PFnExactFloatSum
theorem FnExactFloatSum : ofFnExactFloatSum.Stmt := ofFnExactFloatSum.main
end Go.Proofs.Ytjbocmkphnmfgaa.Pure
