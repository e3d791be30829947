/-
The law FnExactFloatOf answers true: for all bits the program's FloatOf gives the reference's float, and no number where the reference gives none.
Conditions: none beyond the bounds of the statement itself.
-/
import Derived.Test.YtjbocmkphnmfgaaPFnExactFloatOfx1
import Derived.Test.YtjbocmkphnmfgaaWSized
import Derived.Test.YtjbocmkphnmfgaaXIeee
set_option linter.unusedVariables false
set_option linter.unusedSimpArgs false
namespace Go.Proofs.Ytjbocmkphnmfgaa.Pure.ofFnExactFloatOf
open Go.Proofs.YtjbocmkphnmfgaaX
open Go.RowKit Go.Proofs.Ytjbocmkphnmfgaa.PFnExactFloatOf Go.Proofs.YtjbocmkphnmfgaaW.PrintWords Go.Proofs.YtjbocmkphnmfgaaW.PrintLast Go.Proofs.YtjbocmkphnmfgaaW.PrintMore

theorem ev_pos {α : Type} {c : Prop} [Decidable c] {A B : Nat → Option α} {r : α} (hc : c) (h : Ev A r) : Ev (fun k => if c then A k else B k) r := by
  refine Ev.congr (fun k => ?_) h
  rw [if_pos hc]
theorem ev_neg {α : Type} {c : Prop} [Decidable c] {A B : Nat → Option α} {r : α} (hc : ¬ c) (h : Ev B r) : Ev (fun k => if c then A k else B k) r := by
  refine Ev.congr (fun k => ?_) h
  rw [if_neg hc]
theorem ev_bind0 {α β : Type} {g : Option α} {f : Nat → α → Option β} {a : α} {r : β} (h : g = some a) (k : Ev (fun n => f n a) r) : Ev (fun n => g.bind (f n)) r := by
  refine Ev.congr (fun n => ?_) k
  rw [h]; rfl
theorem w64 {x : Int} (h0 : -9223372036854775808 ≤ x) (h1 : x ≤ 9223372036854775807) : wrap64 x = x := by
  unfold wrap64; omega
theorem rd_cons (x : Int) (l : List Int) : rd (x :: l) 0 = x := rfl
theorem rd_nat (l : List Int) (i : Nat) (h : i < l.length) : rd l (i : Int) = l[i] := by
  simp [rd, List.getD_eq_getElem?_getD, List.getElem?_eq_getElem h]
theorem rd_at (l : List Int) (i : Int) (h0 : 0 ≤ i) (h : i < l.length) : ∃ x, x ∈ l ∧ rd l i = x := by
  obtain ⟨n, rfl⟩ := Int.eq_ofNat_of_zero_le h0
  exact ⟨l[n]'(by omega), List.getElem_mem _, rd_nat l n (by omega)⟩
def marks (m : Int) : Nat → List Int
  | 0 => []
  | n + 1 => m :: marks (m + 1) n
def marksB (m : Int) : Nat → List Int
  | 0 => []
  | n + 1 => (m % 256) :: marksB (m + 1) n
theorem marks_length (n : Nat) : ∀ m, (marks m n).length = n := by
  induction n with
  | zero => intro m; rfl
  | succ n ih => intro m; simp [marks, ih]
theorem marksB_length (n : Nat) : ∀ m, (marksB m n).length = n := by
  induction n with
  | zero => intro m; rfl
  | succ n ih => intro m; simp [marksB, ih]
theorem marks_get (n : Nat) : ∀ m (i : Nat) (h : i < (marks m n).length), (marks m n)[i] = m + i := by
  induction n with
  | zero => intro m i h; simp [marks] at h
  | succ n ih =>
    intro m i h
    cases i with
    | zero => simp [marks]
    | succ i => simp only [marks, List.getElem_cons_succ]; rw [ih]; push_cast; omega
theorem marksB_get (n : Nat) : ∀ m (i : Nat) (h : i < (marksB m n).length), (marksB m n)[i] = (m + i) % 256 := by
  induction n with
  | zero => intro m i h; simp [marksB] at h
  | succ n ih =>
    intro m i h
    cases i with
    | zero => simp [marksB]
    | succ i => simp only [marksB, List.getElem_cons_succ]; rw [ih]; push_cast; omega

theorem fkey_zero (a : Nat) (ha : a < 2 ^ 64) : fkey a = 0 ↔ a = 0 ∨ a = 9223372036854775808 := by
  unfold fkey
  split <;> omega
theorem feq_zero (a : Nat) (ha : a < 2 ^ 64) (hn : isn a = false) : feq a 0 = decide (a = 0 ∨ a = 9223372036854775808) := by
  rw [feq_key a 0 ha (by omega) hn (isn_pos 0 (by omega)), fkey_pos 0 (by omega)]
  exact decide_eq_decide.2 (fkey_zero a ha)
theorem fgt_zero (a : Nat) (ha : a < 2 ^ 64) (hn : isn a = false) : fgt a 0 = decide (0 < a ∧ a < 9223372036854775808) := by
  rw [fgt_key a 0 ha (by omega) hn (isn_pos 0 (by omega)), fkey_pos 0 (by omega)]
  refine decide_eq_decide.2 ?_
  unfold fkey
  split <;> omega
theorem fls_zero (a : Nat) (ha : a < 2 ^ 64) (hn : isn a = false) : fls a 0 = decide (9223372036854775808 < a) := by
  rw [fls_key a 0 ha (by omega) hn (isn_pos 0 (by omega)), fkey_pos 0 (by omega)]
  refine decide_eq_decide.2 ?_
  unfold fkey
  split <;> omega

open Ieee
theorem quo_one_zero : fok .quo 4607182418800017408 0 = true := (fl_ok (show floatBits .quo .f64 4607182418800017408 0 = some 9218868437227405312 from by
      show double.div 4607182418800017408 0 = some 9218868437227405312
      unfold Format.div
      rw [read_zero, read_one]
      rfl)).1
theorem quo_one_neg : fok .quo 4607182418800017408 9223372036854775808 = true := (fl_ok (show floatBits .quo .f64 4607182418800017408 9223372036854775808 = some 18442240474082181120 from by
      show double.div 4607182418800017408 9223372036854775808 = some 18442240474082181120
      unfold Format.div
      rw [show double.read 9223372036854775808 = .number true 0 (-1074) from read_nzero, read_one]
      rfl)).1
theorem same_self (a : Nat) (h : a < 2 ^ 64) (k : Nat) : laws_sameFloat.f (k + 1) a a = some true := by
  unfold laws_sameFloat.f
  rw [feq_self a h]
  cases hn : isn a with
  | true =>
    rw [if_neg (show ¬ ((!true) = true) by decide)]
    rw [laws_sameFloat.j0, if_pos rfl, feq_self a h, hn]
    rfl
  | false =>
    rw [if_pos (show (!false) = true from rfl), laws_sameFloat.j0, if_neg (by decide)]
    have e : feq a a = true := by rw [feq_self a h, hn]; rfl
    rw [e, feq_zero a h hn]
    by_cases z : a = 0 ∨ a = 9223372036854775808
    · have q : fok .quo 4607182418800017408 a = true := by
        rcases z with rfl | rfl
        · exact quo_one_zero
        · exact quo_one_neg
      rw [decide_eq_true z, if_pos rfl, if_pos rfl, if_pos q, if_pos q]
      congr 1
      exact beq_self_eq_true _
    · rw [decide_eq_false z, if_neg (by decide)]
theorem same_nan (a b : Nat) (ha : a < 2 ^ 64) (hb : b < 2 ^ 64) (na : isn a = true) (nb : isn b = true) (k : Nat) : laws_sameFloat.f (k + 1) a b = some true := by
  unfold laws_sameFloat.f
  rw [feq_self a ha, na, if_neg (show ¬ ((!true) = true) by decide)]
  rw [laws_sameFloat.j0, if_pos rfl, feq_self a ha, na, feq_self b hb, nb]
  rfl
theorem nanR_isn (r : Nat) (h : nanR r) : isn r = true ∧ r < 2 ^ 64 := by
  obtain ⟨a, b, q, rfl⟩ := h
  have : (Question.nanBits .f64 a b).cut q = (q % 2) * 2 ^ 63 + 0x7ff0000000000000 + 1 + (q / 2) % (2 ^ 52 - 1) := rfl
  rw [this]
  have h3 := Nat.mod_lt (q / 2) (show 0 < 2 ^ 52 - 1 by decide)
  have h4 := Nat.mod_lt q (show 0 < 2 by decide)
  generalize q / 2 % (2 ^ 52 - 1) = x at *
  generalize q % 2 = y at *
  unfold isn
  constructor
  · refine decide_eq_true ?_
    omega
  · omega

open Ieee
theorem maskU (y : Int) (n : Nat) (hn : n ≤ 64) (h0 : 0 ≤ y) (h1 : y < 18446744073709551616) : Go.bits .and .u64 y (2 ^ n - 1) = y % 2 ^ n :=
  bits_mask .u64 64 (by decide) (fun n a b => by simp [IntKind.wrap, IntKind.bits, IntKind.signed]; omega) n (by omega) y h0 h1
theorem fofi_fl (n : Nat) : fofi (n : Int) = fl n 0 := by
  unfold fofi fl floatOfInt FloatKind.nearest
  show double.write (.number (decide ((n : Int) < 0)) (n : Int).natAbs 0) = _
  rw [decide_eq_false (by omega), Int.natAbs_natCast]
  rfl
theorem fl_zero (q : Int) : fl 0 q = 0 := by
  unfold fl Format.nearest
  rw [if_pos rfl, word_false]
theorem quo_zero (d : Nat) (r : Int) (hd : double.read d = .number false 4503599627370496 r) : double.div 0 d = some 0 := by
  unfold Format.div
  rw [read_zero, hd]
  unfold Datum.quotient
  dsimp only
  rw [if_neg (by omega), Nat.zero_shiftLeft, Nat.zero_div, Nat.zero_mod]
  show some (double.write (.number false (2 * 0 + 0) _)) = some 0
  rw [write_zero, word_false]
theorem add_one (N : Nat) (h0 : 0 < N) (h : N < 4503599627370496) : double.add (fl N (-52)) 4607182418800017408 = some (fl (4503599627370496 + N) (-52)) := by
  have hlog : N.log2 < 52 := (Nat.log2_lt (by omega)).2 h
  obtain ⟨s, e, hs, _⟩ := fl_reads N (-52) h0 (by omega) (by omega) (by omega)
  unfold Format.add
  rw [e, read_one]
  unfold Datum.sum
  dsimp only
  rw [show min ((-52 : Int) - s) (-52) = -52 - s by omega, signed_false, signed_false, show ((-52 : Int) - s - (-52 - s)).toNat = 0 by omega, show ((-52 : Int) - (-52 - s)).toNat = s by omega, Nat.pow_zero, Nat.mul_one]
  have ht : ((N * 2 ^ s : Nat) : Int) + ((4503599627370496 * 2 ^ s : Nat) : Int) = (((4503599627370496 + N) * 2 ^ s : Nat) : Int) := by
    rw [← Int.natCast_add, ← Nat.add_mul, Nat.add_comm N]
  rw [ht]
  have hpos : 0 < (4503599627370496 + N) * 2 ^ s := Nat.mul_pos (by omega) (Nat.two_pow_pos s)
  rw [if_neg (by omega), decide_eq_false (by omega), Int.natAbs_natCast]
  refine congrArg some ?_
  exact nearest_fl (4503599627370496 + N) (-52) s _ _ (by omega) (by omega) (by omega) rfl rfl
theorem fl_one : fl 4503599627370496 (-52) = 4607182418800017408 := by
  have := fl_eta 4607182418800017408 (by omega) (by omega)
  exact this
theorem one_of_zero : double.add 0 4607182418800017408 = some 4607182418800017408 := by
  unfold Format.add
  rw [read_one, read_zero]
  unfold Datum.sum
  dsimp only
  rw [show min (-1074 : Int) (-52) = -1074 by omega, signed_false, signed_false, Nat.zero_mul]
  obtain ⟨n, hn⟩ : ∃ n : Nat, n = 1022 := ⟨_, rfl⟩
  rw [show ((-52 : Int) - -1074).toNat = n by omega]
  have hpos : 0 < 4503599627370496 * 2 ^ n := Nat.mul_pos (by omega) (Nat.two_pow_pos _)
  generalize hq : 4503599627370496 * 2 ^ n = Q at hpos
  rw [show (((0 : Nat) : Int) + ((Q : Nat) : Int)) = (Q : Int) by omega, if_neg (by omega), decide_eq_false (by omega), Int.natAbs_natCast]
  refine congrArg some ?_
  rw [← fl_one]
  exact nearest_fl 4503599627370496 (-52) n _ _ (by omega) (by omega) (by omega) hq.symm (by omega)
/-- bits that stand for no number -/
def nanB (a : Int) : Bool := decide (a % 9223372036854775808 > 9218868437227405312)
theorem sign_f (a : Nat) (ha : a < 2 ^ 64) (b : Nat) (hb : b = a % 9223372036854775808) (k : Nat) (hx : b ≤ 9218868437227405312) : (if ((a : Int) / 9223372036854775808) = 1 then some (fneg b) else some b) = some a := by
  by_cases h : (a : Int) / 9223372036854775808 = 1
  · rw [if_pos h, fneg_pos b (by omega)]
    congr 1
    omega
  · rw [if_neg h]
    congr 1
    omega
theorem down_l (a : Nat) (ha : a < 2 ^ 64) (N : Nat) (h2 : N < 2 ^ 53) (b : Nat) (hb : b = a % 9223372036854775808) (hx : b < 9218868437227405312) (z : Int) (hz : fl N z = b) (hzl : -1074 ≤ z) (d : Nat) : ∀ (q : Int), d ≤ 2000 → q - d = z → (0 < N → q + N.log2 ≤ 1023) →
    Ev (fun k => spec_FloatOf.l1 k (a : Int) (fl N q) (-(d : Int))) a := by
  induction d with
  | zero =>
    intro q _ hq _
    have e : q = z := by omega
    rw [e, hz]
    refine Ev.step (fun k => by rw [spec_FloatOf.l1, if_neg (by omega)]) ?_
    rw [sign_f a ha b hb 0 (by omega)]
    exact Ev.now _
  | succ d ih =>
    intro q hd hq hv
    have e : fok .quo (fl N q) 4611686018427387904 = true ∧ fval .quo (fl N q) 4611686018427387904 = fl N (q - 1) := by
      by_cases h0 : N = 0
      · rw [h0, fl_zero, fl_zero]
        exact fl_ok (quo_zero _ _ read_two)
      · have := quo_pow N q 4611686018427387904 (-51) (by omega) h2 (by omega) (hv (by omega)) read_two (by omega)
        rw [show q - -51 - 52 = q - 1 by omega] at this
        exact fl_ok this
    refine Ev.step (fun k => by rw [spec_FloatOf.l1, if_pos (by omega), if_pos e.1, e.2, show wrap64 (-((d + 1 : Nat) : Int) + 1) = -(d : Int) by unfold wrap64; omega]) ?_
    exact ih (q - 1) (by omega) (by omega) (fun h => by have := hv h; omega)
theorem up_l (a : Nat) (ha : a < 2 ^ 64) (N : Nat) (h1 : 0 < N) (h2 : N < 2 ^ 53) (b : Nat) (hb : b = a % 9223372036854775808) (hx : b < 9218868437227405312) (z : Int) (hz : fl N z = b) (hzl : -1074 ≤ z) (hv : z + N.log2 ≤ 1023) (d : Nat) : ∀ (q : Int), d ≤ 2000 → -1074 ≤ q → q + d = z →
    Ev (fun k => spec_FloatOf.l0 k (a : Int) (fl N q) (d : Int)) a := by
  induction d with
  | zero =>
    intro q _ _ hq
    refine Ev.step (fun k => by rw [spec_FloatOf.l0, if_neg (by omega)]) ?_
    exact down_l a ha N h2 b hb hx z hz hzl 0 q (by omega) (by omega) (fun _ => by omega)
  | succ d ih =>
    intro q hd hl hq
    have e : fok .mul (fl N q) 4611686018427387904 = true ∧ fval .mul (fl N q) 4611686018427387904 = fl N (q + 1) := by
      have := mul_pow N q 4611686018427387904 (-51) h1 h2 hl (by omega) read_two (by omega)
      rw [show q + -51 + 52 = q + 1 by omega] at this
      exact fl_ok this
    refine Ev.step (fun k => by rw [spec_FloatOf.l0, if_pos (by omega), if_pos e.1, e.2, show wrap64 (((d + 1 : Nat) : Int) - 1) = (d : Int) by unfold wrap64; omega]) ?_
    exact ih (q + 1) (by omega) (by omega) (by omega)
theorem loop_f (a : Nat) (ha : a < 2 ^ 64) (N : Nat) (h1 : 0 < N) (h2 : N < 2 ^ 53) (b : Nat) (hb : b = a % 9223372036854775808) (hx : b < 9218868437227405312) (z : Int) (hz : fl N z = b) (hzl : -1074 ≤ z) (hv : z + N.log2 ≤ 1023) (m q : Int) (hm : -2000 ≤ m ∧ m ≤ 2000) (hq : q + m = z) (hql : -1074 ≤ q) (hqv : q + N.log2 ≤ 1023) :
    Ev (fun k => spec_FloatOf.j0 k (a : Int) (fl N q) m) a := by
  refine Ev.step (fun k => by rw [spec_FloatOf.j0]) ?_
  by_cases h : 0 ≤ m
  · obtain ⟨d, rfl⟩ : ∃ d : Nat, m = d := ⟨m.toNat, by omega⟩
    exact up_l a ha N h1 h2 b hb hx z hz hzl hv d q (by omega) hql hq
  · obtain ⟨d, rfl⟩ : ∃ d : Nat, m = -(d : Int) := ⟨(-m).toNat, by omega⟩
    refine Ev.step (fun k => by rw [spec_FloatOf.l0, if_neg (by omega)]) ?_
    exact down_l a ha N h2 b hb hx z hz hzl d q (by omega) (by omega) (fun _ => hqv)
theorem spec_FloatOf_f (a : Nat) (ha : a < 2 ^ 64) (hn : nanB a = false) : Ev (fun k => spec_FloatOf.f k (a : Int)) a := by
  have hn2 : ((a : Int) % 9223372036854775808) ≤ 9218868437227405312 := by
    unfold nanB at hn
    have := of_decide_eq_false hn
    omega
  unfold spec_FloatOf.f
  have m1 : Go.bits .and .u64 (a : Int) 4503599627370495 = ((a % 4503599627370496 : Nat) : Int) := by
    have := maskU (a : Int) 52 (by omega) (by omega) (by omega)
    rw [show ((2 : Int) ^ 52 - 1) = 4503599627370495 by decide] at this
    rw [this]
    omega
  have m2 : Go.bits .and .u64 ((a : Int) / 4503599627370496) 2047 = ((a / 4503599627370496 % 2048 : Nat) : Int) := by
    have := maskU ((a : Int) / 4503599627370496) 11 (by omega) (by omega) (by omega)
    rw [show ((2 : Int) ^ 11 - 1) = 2047 by decide] at this
    rw [this]
    omega
  rw [m1, m2]
  obtain ⟨F, hF⟩ : ∃ F, F = a % 4503599627370496 := ⟨_, rfl⟩
  obtain ⟨E, hE⟩ : ∃ E, E = a / 4503599627370496 % 2048 := ⟨_, rfl⟩
  rw [← hF, ← hE]
  have hb : E * 4503599627370496 + F = a % 9223372036854775808 := by omega
  have hFl : F < 4503599627370496 := by omega
  have w1 : wrap64 ((E : Nat) : Int) = (E : Int) := by unfold wrap64; omega
  have q1 : fok .quo (fofi ((F : Nat) : Int)) 4841369599423283200 = true ∧ fval .quo (fofi ((F : Nat) : Int)) 4841369599423283200 = fl F (-52) := by
    rw [fofi_fl]
    by_cases h0 : F = 0
    · rw [h0, fl_zero, fl_zero]
      exact fl_ok (quo_zero _ _ read_wide)
    · have hlog : F.log2 < 52 := (Nat.log2_lt (by omega)).2 hFl
      have := quo_pow F 0 4841369599423283200 0 (by omega) (by omega) (by omega) (by omega) read_wide (by omega)
      exact fl_ok this
  refine ev_pos q1.1 ?_
  rw [w1, q1.2]
  by_cases hinf : (E : Int) = 2047
  · refine ev_pos hinf ?_
    refine ev_pos (by omega) ?_
    have hd : fok .quo 4607182418800017408 0 = true ∧ fval .quo 4607182418800017408 0 = 9218868437227405312 := fl_ok (show floatBits .quo .f64 4607182418800017408 0 = some 9218868437227405312 from by
      show double.div 4607182418800017408 0 = some 9218868437227405312
      unfold Format.div
      rw [read_zero, read_one]
      rfl)
    refine ev_pos hd.1 ?_
    rw [hd.2, sign_f a ha 9218868437227405312 (by omega) 0 (by omega)]
    exact Ev.now _
  · refine ev_neg hinf ?_
    by_cases h0 : (E : Int) = 0
    · refine ev_pos h0 ?_
      by_cases hz : F = 0
      · refine Ev.step (fun k => by rw [spec_FloatOf.j0]) ?_
        refine Ev.step (fun k => by rw [spec_FloatOf.l0, if_neg (by omega)]) ?_
        exact down_l a ha F (by omega) (a % 9223372036854775808) rfl (by omega) (-1074) (by rw [hz, fl_zero]; omega) (by omega) 1022 (-52) (by omega) (by omega) (fun h => by omega)
      · have hlog : F.log2 < 52 := (Nat.log2_lt (by omega)).2 hFl
        have eta := fl_eta F (by omega) (by omega)
        rw [show mg F = F from if_pos hFl, show pl F = -1074 from if_pos hFl] at eta
        exact loop_f a ha F (by omega) (by omega) (a % 9223372036854775808) rfl (by omega) (-1074) (by rw [eta]; omega) (by omega) (by omega) (-1022) (-52) (by omega) (by omega) (by omega) (by omega)
    · refine ev_neg h0 ?_
      have add : fok .add (fl F (-52)) 4607182418800017408 = true ∧ fval .add (fl F (-52)) 4607182418800017408 = fl (4503599627370496 + F) (-52) := by
        by_cases hz : F = 0
        · rw [hz, fl_zero, Nat.add_zero, fl_one]
          exact fl_ok one_of_zero
        · exact fl_ok (add_one F (by omega) hFl)
      refine ev_pos add.1 ?_
      rw [add.2, show wrap64 ((E : Int) - 1023) = (E : Int) - 1023 by unfold wrap64; omega]
      have hlog : (4503599627370496 + F).log2 = 52 := (Nat.log2_eq_iff (by omega)).2 (by constructor <;> omega)
      have eta := fl_eta (E * 4503599627370496 + F) (by omega) (by omega)
      rw [show mg (E * 4503599627370496 + F) = 4503599627370496 + F from by unfold mg; rw [if_neg (by omega)]; omega, show pl (E * 4503599627370496 + F) = (E : Int) - 1075 from by unfold pl; rw [if_neg (by omega)]; omega] at eta
      exact loop_f a ha (4503599627370496 + F) (by omega) (by omega) (a % 9223372036854775808) rfl (by omega) ((E : Int) - 1075) (by rw [eta, hb]) (by omega) (by rw [hlog]; omega) ((E : Int) - 1023) (-52) (by omega) (by omega) (by omega) (by rw [hlog]; omega)
theorem nanC_of (a : Nat) (ha : a < 2 ^ 64) (hn : isn a = true) : spec_FloatOf.nanC (a : Int) := by
  have hn2 : 9218868437227405312 < a % 9223372036854775808 := of_decide_eq_true hn
  have m1 : Go.bits .and .u64 (a : Int) 4503599627370495 = ((a % 4503599627370496 : Nat) : Int) := by
    have := maskU (a : Int) 52 (by omega) (by omega) (by omega)
    rw [show ((2 : Int) ^ 52 - 1) = 4503599627370495 by decide] at this
    rw [this]
    omega
  have m2 : Go.bits .and .u64 ((a : Int) / 4503599627370496) 2047 = ((a / 4503599627370496 % 2048 : Nat) : Int) := by
    have := maskU ((a : Int) / 4503599627370496) 11 (by omega) (by omega) (by omega)
    rw [show ((2 : Int) ^ 11 - 1) = 2047 by decide] at this
    rw [this]
    omega
  unfold spec_FloatOf.nanC
  rw [m1, m2]
  have hF0 : 0 < a % 4503599627370496 := by omega
  have hE : a / 4503599627370496 % 2048 = 2047 := by omega
  have hFl : a % 4503599627370496 < 4503599627370496 := by omega
  generalize a % 4503599627370496 = F at *
  refine ⟨?_, ?_, ?_, ?_⟩
  · rw [fofi_fl]
    have hlog : F.log2 < 52 := (Nat.log2_lt (by omega)).2 hFl
    have t := quo_pow F 0 4841369599423283200 0 (by omega) (by omega) (by omega) (by omega) read_wide (by omega)
    exact (fl_ok (o := .quo) (a := fl F 0) (b := 4841369599423283200) t).1
  · rw [hE]
    unfold wrap64
    omega
  · omega
  · show (floatBits .quo .f64 0 0).isSome = false
    have : floatBits .quo .f64 0 0 = none := by
      show double.div 0 0 = none
      unfold Format.div
      rw [read_zero]
      rfl
    rw [this]
    rfl
theorem nanC_none (a : Int) (h : spec_FloatOf.nanC a) (k : Nat) : spec_FloatOf.f k a = none := by
  obtain ⟨h1, h2, h3, h4⟩ := h
  unfold spec_FloatOf.f
  rw [if_pos h1, if_pos h2, if_neg h3, if_neg (by rw [h4]; decide)]
theorem nanB_isn (a : Nat) : nanB (a : Int) = isn a := by
  unfold nanB isn
  exact decide_eq_decide.2 (by omega)
/-- where FloatOf answers, and what -/
theorem spec_FloatOf_R (a : Nat) (ha : a < 2 ^ 64) : ∃ k, spec_FloatOf.Q k (a : Int) ∧ ∀ t : Nat, spec_FloatOf.R k (a : Int) t → t < 2 ^ 64 ∧ (t = a ∨ (isn a = true ∧ isn t = true)) := by
  cases hn : isn a with
  | false =>
    obtain ⟨k, hk⟩ := Ev.rounds (spec_FloatOf_f a ha (by rw [nanB_isn]; exact hn))
    refine ⟨k, Or.inl ⟨_, hk⟩, fun t hR => ?_⟩
    rcases hR with h | ⟨h, _⟩
    · have : t = a := by rw [hk] at h; exact (Option.some.inj h).symm
      subst this
      exact ⟨ha, Or.inl rfl⟩
    · rw [nanC_none _ h] at hk
      cases hk
  | true =>
    refine ⟨0, Or.inr (nanC_of a ha hn), fun t hR => ?_⟩
    rcases hR with h | ⟨_, h⟩
    · rw [nanC_none _ (nanC_of a ha hn)] at h
      cases h
    · obtain ⟨h1, h2⟩ := nanR_isn t h
      exact ⟨h2, Or.inr ⟨rfl, h1⟩⟩

/-- The pure statement. -/
def Stmt : Prop := ∀ (a0 : Int), ((fun n => (Lit.int .u64 n).wf = true) a0) → laws_FnExactFloatOf.H a0
theorem main : Stmt := by
  intro a0 w0
  obtain ⟨h0, h1⟩ : 0 ≤ a0 ∧ a0 < 18446744073709551616 := by
    have hp : 0 ≤ a0 ∧ a0 ≤ 18446744073709551615 := by simpa [Lit.wf, IntKind.min, IntKind.max, IntKind.signed, IntKind.bits] using w0
    omega
  obtain ⟨a, rfl⟩ := Int.eq_ofNat_of_zero_le h0
  have ha : a < 2 ^ 64 := by omega
  unfold laws_FnExactFloatOf.H
  obtain ⟨k, hQ, hR⟩ := spec_FloatOf_R a ha
  refine ⟨k, hQ, fun t ht => ?_⟩
  obtain ⟨hl, he⟩ := hR t ht
  refine ⟨a, by unfold impl_FloatOf.f; rfl, 1, ?_, trivial⟩
  rcases he with rfl | ⟨n1, n2⟩
  · exact same_self _ ha 0
  · exact same_nan _ _ ha hl n1 n2 0

end Go.Proofs.Ytjbocmkphnmfgaa.Pure.ofFnExactFloatOf
namespace Go.Proofs.Ytjbocmkphnmfgaa.PrintWords
/-- The word that the printed row asks for, under the name by which it asks. -/
abbrev sized_ints := @Go.Proofs.YtjbocmkphnmfgaaW.PrintWords.sized_ints
end Go.Proofs.Ytjbocmkphnmfgaa.PrintWords
namespace Go.Proofs.Ytjbocmkphnmfgaa.Pure
open Go.Proofs.Ytjbocmkphnmfgaa.PFnExactFloatOf
theorem FnExactFloatOf : ofFnExactFloatOf.Stmt := ofFnExactFloatOf.main
end Go.Proofs.Ytjbocmkphnmfgaa.Pure
