/-
The law FnExactTupleRead answers true: for all bytes the program's TupleRead gives the reference's tuple and verdict, in memory of its own, and the bytes stay as they were.
Conditions: none beyond the bounds of the statement itself.
-/
import Derived.Test.YtjjkhlphdbmdfaaZFnExactTupleRead43
import Derived.Test.YtjjkhlphdbmdfaaZFnExactTupleRead44
import Derived.Test.YtjjkhlphdbmdfaaZFnExactTupleRead18
set_option linter.unusedVariables false
set_option linter.unusedSimpArgs false
namespace Go.Proofs.Ytjjkhlphdbmdfaa.Pure.ofFnExactTupleRead
open Go.Proofs.YtjjkhlphdbmdfaaX
open Go.RowKit Go.Proofs.Ytjjkhlphdbmdfaa.PFnExactTupleRead Go.Proofs.YtjjkhlphdbmdfaaW.PrintWords Go.Proofs.YtjjkhlphdbmdfaaW.PrintLast Go.Proofs.YtjjkhlphdbmdfaaW.PrintMore
theorem ev_pos {α : Type} {c : Prop} [Decidable c] {A B : Nat → Option α} {r : α} (hc : c) (h : Ev A r) : Ev (fun k => if c then A k else B k) r := by
  refine Ev.congr (fun k => ?_) h
  rw [if_pos hc]
theorem ev_neg {α : Type} {c : Prop} [Decidable c] {A B : Nat → Option α} {r : α} (hc : ¬ c) (h : Ev B r) : Ev (fun k => if c then A k else B k) r := by
  refine Ev.congr (fun k => ?_) h
  rw [if_neg hc]
theorem ev_bind0 {α β : Type} {g : Option α} {f : Nat → α → Option β} {a : α} {r : β} (h : g = some a) (k : Ev (fun n => f n a) r) : Ev (fun n => g.bind (f n)) r := by
  refine Ev.congr (fun n => ?_) k
  rw [h]; rfl
theorem w64 {x : Int} (h0 : -9223372036854775808 ≤ x) (h1 : x ≤ 9223372036854775807) : wrap64 x = x := by
  unfold wrap64; omega
theorem rd_nat (l : List Int) (i : Nat) (h : i < l.length) : rd l (i : Int) = l[i] := by
  simp [rd, List.getD_eq_getElem?_getD, List.getElem?_eq_getElem h]
def marksB (m : Int) : Nat → List Int
  | 0 => []
  | n + 1 => (m % 256) :: marksB (m + 1) n
theorem marksB_length (n : Nat) : ∀ m, (marksB m n).length = n := by
  induction n with
  | zero => intro m; rfl
  | succ n ih => intro m; simp [marksB, ih]
theorem marksB_get (n : Nat) : ∀ m (i : Nat) (h : i < (marksB m n).length), (marksB m n)[i] = (m + i) % 256 := by
  induction n with
  | zero => intro m i h; simp [marksB] at h
  | succ n ih =>
    intro m i h
    cases i with
    | zero => simp [marksB]
    | succ i => simp only [marksB, List.getElem_cons_succ]; rw [ih]; push_cast; omega
theorem u64_or_add (i : Nat) {x y : Int} (hx0 : 0 ≤ x) (hx : x % 2 ^ i = 0) (hx1 : x < 18446744073709551616) (hy0 : 0 ≤ y) (hy : y < 2 ^ i) (hy1 : y < 18446744073709551616) : Go.bits .or .u64 x y = x + y :=
  bits_join .u64 64 (by decide) (fun n a b => by simp [IntKind.wrap, IntKind.bits, IntKind.signed]; omega) i x y hx0 hx hx1 hy0 hy hy1
theorem fival_u64 (a : Nat) (n : Int) (h : (Ieee.double.read a).toInt .zero = some n) (h0 : 0 ≤ n) (h1 : n < 18446744073709551616) : fiok .u64 a = true ∧ fival .u64 a = n := by
  have e : floatToIntVal .f64 a .u64 = some n := by
    unfold floatToIntVal
    have : FloatKind.decode .f64 a = Ieee.double.read a := rfl
    rw [this, h]
    have e1 : IntKind.u64.min = 0 := by rfl
    have e2 : IntKind.u64.max = 18446744073709551615 := by rfl
    exact if_pos ⟨by omega, by omega⟩
  unfold fiok fival
  rw [e]
  exact ⟨rfl, rfl⟩
theorem fls_nat (a b : Nat) (ha : a ≤ 9218868437227405312) (hb : b ≤ 9218868437227405312) : fls a b = decide (a < b) := by
  rw [fls_key a b (by omega) (by omega) (isn_pos a ha) (isn_pos b hb), fkey_pos a (by omega), fkey_pos b (by omega)]
  exact decide_eq_decide.2 (by omega)
theorem fge_nat (a b : Nat) (ha : a ≤ 9218868437227405312) (hb : b ≤ 9218868437227405312) : fge a b = decide (b ≤ a) := by
  rw [fge_key a b (by omega) (by omega) (isn_pos a ha) (isn_pos b hb), fkey_pos a (by omega), fkey_pos b (by omega)]
  exact decide_eq_decide.2 (by omega)
theorem fgt_nat (a b : Nat) (ha : a ≤ 9218868437227405312) (hb : b ≤ 9218868437227405312) : fgt a b = decide (b < a) := by
  rw [fgt_key a b (by omega) (by omega) (isn_pos a ha) (isn_pos b hb), fkey_pos a (by omega), fkey_pos b (by omega)]
  exact decide_eq_decide.2 (by omega)
theorem feq_nat (a b : Nat) (ha : a ≤ 9218868437227405312) (hb : b ≤ 9218868437227405312) : feq a b = decide (a = b) := by
  rw [feq_key a b (by omega) (by omega) (isn_pos a ha) (isn_pos b hb), fkey_pos a (by omega), fkey_pos b (by omega)]
  exact decide_eq_decide.2 (by omega)
theorem lt_one (N : Nat) (q : Int) (h : 0 < N) (h2 : N < 2 ^ 53) (hq : -1074 ≤ q) (hv : q + N.log2 ≤ 1023) : fls (fl N q) 4607182418800017408 = decide (q + N.log2 < 0) := by
  rw [fls_nat _ _ (fl_lt N q h h2 hq).2 (by omega)]
  have := fl_below N q h h2 hq hv 1022 (by omega)
  exact decide_eq_decide.2 (by omega)
theorem ge_two (N : Nat) (q : Int) (h : 0 < N) (h2 : N < 2 ^ 53) (hq : -1074 ≤ q) (hv : q + N.log2 ≤ 1023) : fge (fl N q) 4611686018427387904 = decide (1 ≤ q + N.log2) := by
  rw [fge_nat _ _ (fl_lt N q h h2 hq).2 (by omega)]
  have := fl_below N q h h2 hq hv 1023 (by omega)
  exact decide_eq_decide.2 (by omega)
/-- the last step where the float stands in [1, 2) -/
theorem bits_unit (S : Int) (hS : S = 0 ∨ S = 9223372036854775808) (N : Nat) (q : Int) (h : 0 < N) (h2 : N < 2 ^ 53) (hq : -1074 ≤ q) (hv : q + N.log2 ≤ 1023) (E : Int) (hE : -1022 ≤ E) (hE2 : q + N.log2 = E) : Ev (fun k => spec_FloatBits.l1 k S (fl N (q - E)) E) (S + (fl N q : Nat)) := by
  have hlog := log2_le N h h2
  have hfin := fl_finite N q h h2 hq hv
  have hself : 2 ^ N.log2 ≤ N := Nat.log2_self_le (by omega)
  have hup : N < 2 ^ (N.log2 + 1) := Nat.lt_log2_self
  have hL : lastOf N q = E - 52 := by unfold lastOf; omega
  rw [hL] at hfin
  have hsub := sub_one N h h2
  rw [show q - E = -(N.log2 : Int) by omega]
  refine Ev.step (fun k => by rw [spec_FloatBits.l1, if_neg (by rw [lt_one N _ h h2 (by omega) (by omega), decide_eq_false (by omega)]; exact Bool.false_ne_true)]) ?_
  have hs := fl_ok (o := .sub) hsub
  refine ev_pos hs.1 ?_
  rw [hs.2]
  have key : fok .mul (if N = 2 ^ N.log2 then 0 else fl (N - 2 ^ N.log2) (-(N.log2 : Int))) 4841369599423283200 = true ∧ fiok .u64 (fval .mul (if N = 2 ^ N.log2 then 0 else fl (N - 2 ^ N.log2) (-(N.log2 : Int))) 4841369599423283200) = true ∧ fival .u64 (fval .mul (if N = 2 ^ N.log2 then 0 else fl (N - 2 ^ N.log2) (-(N.log2 : Int))) 4841369599423283200) = ((N - 2 ^ N.log2) * 2 ^ (52 - N.log2) : Nat) := by
    have hb : (N - 2 ^ N.log2) * 2 ^ (52 - N.log2) < 4503599627370496 := by
      have h3 : N - 2 ^ N.log2 < 2 ^ N.log2 := by rw [Nat.pow_succ] at hup; omega
      have h4 : (N - 2 ^ N.log2) * 2 ^ (52 - N.log2) < 2 ^ N.log2 * 2 ^ (52 - N.log2) := Nat.mul_lt_mul_of_pos_right h3 (Nat.two_pow_pos _)
      rw [← Nat.pow_add, show N.log2 + (52 - N.log2) = 52 by omega] at h4
      exact h4
    by_cases hz : N = 2 ^ N.log2
    · rw [if_pos hz, show N - 2 ^ N.log2 = 0 by omega, Nat.zero_mul]
      have hm := fl_ok (o := .mul) (a := 0) (b := 4841369599423283200) (r := 0) (by
        show Ieee.double.mul 0 4841369599423283200 = some 0
        unfold Ieee.Format.mul
        rw [read_zero, read_wide]
        show some (Ieee.double.write (.number false (0 * 4503599627370496) _)) = _
        rw [Nat.zero_mul, write_zero, word_false])
      rw [hm.2]
      exact ⟨hm.1, fival_u64 0 0 toInt_zero (by omega) (by omega)⟩
    · rw [if_neg hz]
      have hlt : N - 2 ^ N.log2 < 2 ^ 53 := Nat.lt_of_le_of_lt (Nat.sub_le _ _) h2
      have hlog' := log2_le (N - 2 ^ N.log2) (by omega) hlt
      have hm := fl_ok (o := .mul) (mul_pow (N - 2 ^ N.log2) (-(N.log2 : Int)) 4841369599423283200 0 (by omega) hlt (by omega) (by omega) read_wide (by omega))
      rw [hm.2, show -(N.log2 : Int) + 0 + 52 = ((52 - N.log2 : Nat) : Int) by omega]
      exact ⟨hm.1, fival_u64 _ _ (toInt_fl (N - 2 ^ N.log2) (52 - N.log2) (by omega) hlt (by omega)) (by omega) (by omega)⟩
  refine ev_pos key.1 ?_
  refine ev_pos key.2.1 ?_
  rw [key.2.2, hfin.1]
  have hmul : N * 2 ^ (52 - N.log2) = (N - 2 ^ N.log2) * 2 ^ (52 - N.log2) + 4503599627370496 := by
    have h1 : (4503599627370496 : Nat) = 2 ^ N.log2 * 2 ^ (52 - N.log2) := by rw [← Nat.pow_add, show N.log2 + (52 - N.log2) = 52 by omega]
    rw [h1, ← Nat.add_mul, show N - 2 ^ N.log2 + 2 ^ N.log2 = N by omega]
  have hb : (N - 2 ^ N.log2) * 2 ^ (52 - N.log2) < 4503599627370496 := by
    have h3 : N - 2 ^ N.log2 < 2 ^ N.log2 := by rw [Nat.pow_succ] at hup; omega
    have h4 : (N - 2 ^ N.log2) * 2 ^ (52 - N.log2) < 2 ^ N.log2 * 2 ^ (52 - N.log2) := Nat.mul_lt_mul_of_pos_right h3 (Nat.two_pow_pos _)
    rw [← Nat.pow_add, show N.log2 + (52 - N.log2) = 52 by omega] at h4
    exact h4
  rw [show (q - (E - 52)).toNat = 52 - N.log2 by omega, hmul]
  generalize (N - 2 ^ N.log2) * 2 ^ (52 - N.log2) = F at hb
  rw [w64 (by omega) (by omega)]
  have e1 : IntKind.u64.wrap (E + 1023) = E + 1023 := by simp [IntKind.wrap, IntKind.bits, IntKind.signed]; omega
  have e2 : IntKind.u64.wrap ((E + 1023) * 4503599627370496) = (E + 1023) * 4503599627370496 := by simp [IntKind.wrap, IntKind.bits, IntKind.signed]; omega
  rw [e1, e2, u64_or_add 63 (x := S) (y := (E + 1023) * 4503599627370496) (by omega) (by rcases hS with rfl | rfl <;> rfl) (by omega) (by omega) (show _ < (9223372036854775808 : Int) by omega) (by omega)]
  rw [u64_or_add 52 (by omega) (show _ % (4503599627370496 : Int) = 0 by omega) (by omega) (by omega) (show _ < (4503599627370496 : Int) by omega) (by omega)]
  have e3 : S + (E + 1023) * 4503599627370496 + (F : Int) = S + (((E - 52 + 1074).toNat * 4503599627370496 + (F + 4503599627370496) : Nat) : Int) := by omega
  rw [e3]
  exact Ev.now _
/-- the last step: the bits of what is left, E places below -/
theorem bits_l1 (S : Int) (hS : S = 0 ∨ S = 9223372036854775808) (N : Nat) (q : Int) (h : 0 < N) (h2 : N < 2 ^ 53) (hq : -1074 ≤ q) (hv : q + N.log2 ≤ 1023) : ∀ (n : Nat) (E : Int), E ≤ 1023 → -1022 ≤ E → q + N.log2 ≤ E → -1074 ≤ q - E → (n : Int) = E + 1022 → Ev (fun k => spec_FloatBits.l1 k S (fl N (q - E)) E) (S + (fl N q : Nat)) := by
  have hlog := log2_le N h h2
  have hl := last_le N q h h2 hq
  have hm := mag_bound N q h h2 hq
  have hfin := fl_finite N q h h2 hq hv
  have hself : 2 ^ N.log2 ≤ N := Nat.log2_self_le (by omega)
  have hup : N < 2 ^ (N.log2 + 1) := Nat.lt_log2_self
  intro n
  induction n with
  | zero =>
    intro E hE1 hE2 hE3 hE4 hn
    have hE : E = -1022 := by omega
    subst hE
    by_cases hz : q + N.log2 = -1022
    · exact bits_unit S hS N q h h2 hq hv _ (by omega) (by omega)
    · have hL : lastOf N q = -1074 := by unfold lastOf; omega
      rw [hL] at hm hfin
      have hsmall : N * 2 ^ (q - -1074).toNat < 9007199254740992 := hm.2.1
      refine Ev.step (fun k => by rw [spec_FloatBits.l1, if_pos (by rw [lt_one N _ h h2 (by omega) (by omega)]; exact decide_eq_true (by omega)), if_neg (by omega)]) ?_
      have hmul := fl_ok (o := .mul) (mul_pow N (q - -1022) 4841369599423283200 0 h h2 (by omega) (by omega) read_wide (by omega))
      have hq2 : q - -1022 + 0 + 52 = ((q - -1074).toNat : Int) := by omega
      rw [hq2] at hmul
      have hi := fival_u64 _ _ (toInt_fl N (q - -1074).toNat h h2 (by omega)) (by omega) (by omega)
      refine ev_pos hmul.1 ?_
      rw [hmul.2]
      refine ev_pos hi.1 ?_
      rw [hi.2, hfin.1]
      rw [show (-1074 + 1074 : Int).toNat = 0 by omega, Nat.zero_mul, Nat.zero_add]
      have hlt : N * 2 ^ (q - -1074).toNat < 9007199254740992 := hm.2.1
      rw [u64_or_add 53 (by omega) (by rcases hS with rfl | rfl <;> rfl) (by omega) (by omega) (show _ < (9007199254740992 : Int) by omega) (by omega)]
      exact Ev.now _
  | succ n ih =>
    intro E hE1 hE2 hE3 hE4 hn
    by_cases hz : q + N.log2 = E
    · exact bits_unit S hS N q h h2 hq hv _ (by omega) (by omega)
    · refine Ev.step (fun k => by rw [spec_FloatBits.l1, if_pos (by rw [lt_one N _ h h2 (by omega) (by omega)]; exact decide_eq_true (by omega)), if_pos (by omega)]) ?_
      have hmul := fl_ok (o := .mul) (mul_pow N (q - E) 4611686018427387904 (-51) h h2 (by omega) (by omega) read_two (by omega))
      refine ev_pos hmul.1 ?_
      rw [hmul.2, w64 (by omega) (by omega), show q - E + -51 + 52 = q - (E - 1) by omega]
      exact ih (E - 1) (by omega) (by omega) (by omega) (by omega) (by omega)
/-- halving while the float is two or more -/
theorem bits_l0 (S : Int) (hS : S = 0 ∨ S = 9223372036854775808) (N : Nat) (q : Int) (h : 0 < N) (h2 : N < 2 ^ 53) (hq : -1074 ≤ q) (hv : q + N.log2 ≤ 1023) : ∀ (n : Nat) (E : Int), 0 ≤ E → (E = 0 ∨ E ≤ q + N.log2) → (n : Int) = 1023 - E → Ev (fun k => spec_FloatBits.l0 k S (fl N (q - E)) E) (S + (fl N q : Nat)) := by
  have hlog := log2_le N h h2
  intro n
  induction n with
  | zero =>
    intro E h0 hE hn
    refine Ev.step (fun k => by rw [spec_FloatBits.l0, if_neg (by rw [ge_two N _ h h2 (by omega) (by omega), decide_eq_false (by omega)]; exact Bool.false_ne_true)]) ?_
    exact bits_l1 S hS N q h h2 hq hv (E + 1022).toNat E (by omega) (by omega) (by omega) (by omega) (by omega)
  | succ n ih =>
    intro E h0 hE hn
    by_cases hz : q + N.log2 ≤ E
    · refine Ev.step (fun k => by rw [spec_FloatBits.l0, if_neg (by rw [ge_two N _ h h2 (by omega) (by omega), decide_eq_false (by omega)]; exact Bool.false_ne_true)]) ?_
      exact bits_l1 S hS N q h h2 hq hv (E + 1022).toNat E (by omega) (by omega) (by omega) (by omega) (by omega)
    · refine Ev.step (fun k => by rw [spec_FloatBits.l0, if_pos (by rw [ge_two N _ h h2 (by omega) (by omega)]; exact decide_eq_true (by omega))]) ?_
      have hquo := fl_ok (o := .quo) (quo_pow N (q - E) 4611686018427387904 (-51) h h2 (by omega) (by omega) read_two (by omega))
      refine ev_pos hquo.1 ?_
      rw [hquo.2, w64 (by omega) (by omega), show q - E - -51 - 52 = q - (E + 1) by omega]
      exact ih (E + 1) (by omega) (by omega) (by omega)
theorem bits_j1 (S : Int) (hS : S = 0 ∨ S = 9223372036854775808) (c : Nat) (hc : c ≤ 9218868437227405312) : Ev (fun k => spec_FloatBits.j1 k S c) (S + (c : Nat)) := by
  by_cases h0 : c = 0
  · subst h0
    refine Ev.step (fun k => by rw [spec_FloatBits.j1, if_pos (by rw [feq_nat _ _ (by omega) (by omega)]; rfl)]) ?_
    rw [show S + ((0 : Nat) : Int) = S by omega]
    exact Ev.now _
  by_cases hi : c = 9218868437227405312
  · subst hi
    refine Ev.step (fun k => by rw [spec_FloatBits.j1, if_neg (by rw [feq_nat _ _ (by omega) (by omega), decide_eq_false (by omega)]; exact Bool.false_ne_true), if_pos (by rw [fgt_nat _ _ (by omega) (by omega)]; exact decide_eq_true (by omega))]) ?_
    rw [u64_or_add 63 (by omega) (by rcases hS with rfl | rfl <;> rfl) (by omega) (by omega) (show _ < (9223372036854775808 : Int) by omega) (by omega)]
    exact Ev.now _
  · obtain ⟨a1, a2, a3, a4⟩ := log2_mg c (by omega) (by omega)
    obtain ⟨e, hp, hp2, hm, hn⟩ := mg_pl c (by omega)
    refine Ev.step (fun k => by rw [spec_FloatBits.j1, if_neg (by rw [feq_nat _ _ (by omega) (by omega)]; simp [h0]), if_neg (by rw [fgt_nat _ _ (by omega) (by omega), decide_eq_false (by omega)]; exact Bool.false_ne_true)]) ?_
    have := bits_l0 S hS (mg c) (pl c) a1 a2 hp a4 1023 0 (by omega) (Or.inl rfl) (by omega)
    rw [show pl c - 0 = pl c by omega, fl_eta c (by omega) (by omega)] at this
    exact this
/-- THE REFERENCE's BITS: the float's own, of every NaN one -/
theorem spec_FloatBits_f (a : Nat) (ha : a < 2 ^ 64) : Ev (fun k => spec_FloatBits.f k a) (if isn a then 9221120237041090560 else (a : Int)) := by
  unfold spec_FloatBits.f
  cases hn : isn a with
  | true =>
    refine ev_neg (by rw [feq_self a ha, hn]; simp) ?_
    exact Ev.now _
  | false =>
    refine ev_pos (by rw [feq_self a ha, hn]; rfl) ?_
    rw [if_neg (by simp)]
    have hz : isn 0 = false := isn_pos 0 (by omega)
    have low : ∀ c, c ≤ 9218868437227405312 → a = c → Ev (fun k => if fls a 0 = true then spec_FloatBits.j0 k a 0 a true else if feq a 0 = true then if fok .quo 4607182418800017408 a = true then spec_FloatBits.j0 k a 0 a (fls (fval .quo 4607182418800017408 a) 0) else none else spec_FloatBits.j0 k a 0 a false) (a : Int) := by
      intro c hc hac
      subst hac
      have fin : Ev (fun k => spec_FloatBits.j0 k a 0 a false) (a : Int) := by
        refine Ev.step (fun k => by rw [spec_FloatBits.j0, if_neg (by simp)]) ?_
        have := bits_j1 0 (Or.inl rfl) a hc
        rw [Int.zero_add] at this
        exact this
      refine ev_neg (by rw [fls_nat a 0 hc (by omega)]; simp) ?_
      by_cases h0 : a = 0
      · subst h0
        refine ev_pos (by rw [feq_nat 0 0 (by omega) (by omega)]; rfl) ?_
        have hq := fl_ok (o := .quo) (a := 4607182418800017408) (b := 0) (r := 9218868437227405312) (by
          show Ieee.double.div 4607182418800017408 0 = some 9218868437227405312
          unfold Ieee.Format.div
          rw [read_zero, read_one]
          rfl)
        refine ev_pos hq.1 ?_
        rw [hq.2, fls_nat _ _ (by omega) (by omega)]
        exact fin
      · refine ev_neg (by rw [feq_nat a 0 hc (by omega)]; simp [h0]) ?_
        exact fin
    have high : ∀ c, c ≤ 9218868437227405312 → a = 9223372036854775808 + c → Ev (fun k => if fls a 0 = true then spec_FloatBits.j0 k a 0 a true else if feq a 0 = true then if fok .quo 4607182418800017408 a = true then spec_FloatBits.j0 k a 0 a (fls (fval .quo 4607182418800017408 a) 0) else none else spec_FloatBits.j0 k a 0 a false) (a : Int) := by
      intro c hc hac
      have fin : Ev (fun k => spec_FloatBits.j0 k a 0 a true) (a : Int) := by
        refine Ev.step (fun k => by rw [spec_FloatBits.j0, if_pos rfl]) ?_
        have := bits_j1 9223372036854775808 (Or.inr rfl) c hc
        rw [hac, fneg_neg c (by omega)]
        rw [show ((9223372036854775808 + c : Nat) : Int) = 9223372036854775808 + (c : Int) by omega]
        exact this
      have hk := fkey_neg c a hac
      have hk0 : fkey 0 = 0 := fkey_pos 0 (by omega)
      by_cases h0 : c = 0
      · subst h0
        refine ev_neg (by rw [fls_key a 0 ha (by omega) hn hz, hk, hk0]; simp) ?_
        refine ev_pos (by rw [feq_key a 0 ha (by omega) hn hz, hk, hk0]; rfl) ?_
        have hq := fl_ok (o := .quo) (a := 4607182418800017408) (b := 9223372036854775808) (r := 18442240474082181120) (by
          show Ieee.double.div 4607182418800017408 9223372036854775808 = some 18442240474082181120
          unfold Ieee.Format.div
          rw [read_nzero, read_one]
          rfl)
        rw [Nat.add_zero] at hac
        rw [hac] at fin ⊢
        refine ev_pos hq.1 ?_
        rw [hq.2]
        have e : fls 18442240474082181120 0 = true := by
          rw [fls_key _ 0 (by omega) (by omega) (isn_neg 9218868437227405312 (by omega)) hz, hk0, fkey_neg 9218868437227405312 18442240474082181120 rfl]
          exact decide_eq_true (by omega)
        rw [e]
        exact fin
      · refine ev_pos (by rw [fls_key a 0 ha (by omega) hn hz, hk, hk0]; exact decide_eq_true (by omega)) ?_
        exact fin
    rcases word_real a ha hn with g | g | ⟨c, g, hc⟩ | g
    · exact low a (by omega) rfl
    · exact low a (by omega) rfl
    · exact high c (by omega) g
    · exact high 9218868437227405312 (by omega) g
theorem fkey_zero (a : Nat) (ha : a < 2 ^ 64) : fkey a = 0 ↔ a = 0 ∨ a = 9223372036854775808 := by
  unfold fkey
  split <;> omega
theorem feq_zero (a : Nat) (ha : a < 2 ^ 64) (hn : isn a = false) : feq a 0 = decide (a = 0 ∨ a = 9223372036854775808) := by
  rw [feq_key a 0 ha (by omega) hn (isn_pos 0 (by omega)), fkey_pos 0 (by omega)]
  exact decide_eq_decide.2 (fkey_zero a ha)
theorem fgt_zero (a : Nat) (ha : a < 2 ^ 64) (hn : isn a = false) : fgt a 0 = decide (0 < a ∧ a < 9223372036854775808) := by
  rw [fgt_key a 0 ha (by omega) hn (isn_pos 0 (by omega)), fkey_pos 0 (by omega)]
  refine decide_eq_decide.2 ?_
  unfold fkey
  split <;> omega
theorem bits_or_comm (k : IntKind) (x y : Int) : Go.bits .or k x y = Go.bits .or k y x := by
  unfold Go.bits
  dsimp only
  rw [BitVec.or_comm]
theorem u64_not (b : Nat) (h : b < 2 ^ 64) : Go.bits .xor .u64 IntKind.u64.max (b : Int) = 18446744073709551615 - (b : Int) := by
  have e1 : IntKind.u64.max = 18446744073709551615 := by rfl
  have e2 : Go.bits .xor .u64 IntKind.u64.max (b : Int) = IntKind.u64.wrap ((BitVec.ofInt 64 IntKind.u64.max ^^^ BitVec.ofInt 64 (b : Int)).toNat : Int) := rfl
  have e3 : BitVec.ofInt 64 (18446744073709551615 : Int) = BitVec.allOnes 64 := by rfl
  rw [e2, e1, e3, BitVec.allOnes_xor, BitVec.toNat_not, BitVec.ofInt_natCast, BitVec.toNat_ofNat, Nat.mod_eq_of_lt h]
  have e4 : ((2 ^ 64 - 1 - b : Nat) : Int) = 18446744073709551615 - (b : Int) := by omega
  rw [e4]
  simp [IntKind.wrap, IntKind.bits, IntKind.signed]
  omega
/-- a float's rank -/
def rankOf (a : Nat) : Int := if isn a then 18446744073709551615 else if a = 0 ∨ a = 9223372036854775808 then 9223372036854775808 else if a < 9223372036854775808 then 9223372036854775808 + (a : Int) else 18446744073709551615 - (a : Int)
theorem real_ne_nan (a : Nat) (hn : isn a = false) : (a : Int) ≠ 9221120237041090560 := by
  intro h
  have : a = 9221120237041090560 := by omega
  subst this
  exact absurd hn (by decide)
theorem or_sign (a : Nat) (h : a < 9223372036854775808) : Go.bits .or .u64 (a : Int) 9223372036854775808 = 9223372036854775808 + (a : Int) := by
  rw [bits_or_comm, u64_or_add 63 (by omega) (by rfl) (by omega) (by omega) (show _ < (9223372036854775808 : Int) by omega) (by omega)]
theorem spec_FloatRank_f (a : Nat) (ha : a < 2 ^ 64) : Ev (fun k => spec_FloatRank.f k a) (rankOf a) := by
  unfold spec_FloatRank.f rankOf
  refine Ev.bind (spec_FloatBits_f a ha) ?_
  cases hn : isn a with
  | true => exact ev_pos rfl (Ev.now _)
  | false =>
    simp only [Bool.false_eq_true, if_false]
    refine ev_neg (real_ne_nan a hn) ?_
    rw [feq_zero a ha hn]
    by_cases hz : a = 0 ∨ a = 9223372036854775808
    · rw [if_pos hz]
      exact ev_pos (decide_eq_true hz) (Ev.now _)
    · rw [if_neg hz]
      refine ev_neg (by rw [decide_eq_false hz]; exact Bool.false_ne_true) ?_
      by_cases hs : a < 9223372036854775808
      · rw [if_pos hs]
        refine ev_neg (by omega) ?_
        rw [or_sign a hs]
        exact Ev.now _
      · rw [if_neg hs]
        refine ev_pos (by omega) ?_
        rw [u64_not a ha]
        exact Ev.now _
theorem impl_FloatRank_f (a : Nat) (ha : a < 2 ^ 64) : impl_FloatRank.f a = some (rankOf a) := by
  unfold impl_FloatRank.f rankOf
  rw [feq_self a ha]
  cases hn : isn a with
  | true => rfl
  | false =>
    rw [if_pos (show (!false) = true from rfl), if_neg Bool.false_ne_true, feq_zero a ha hn, fgt_zero a ha hn]
    by_cases hz : a = 0 ∨ a = 9223372036854775808
    · rw [if_pos hz, decide_eq_true hz]
      rfl
    · rw [if_neg hz, decide_eq_false hz, if_neg Bool.false_ne_true]
      by_cases hs : a < 9223372036854775808
      · rw [if_pos hs, decide_eq_true (by omega), if_pos rfl, or_sign a hs]
      · rw [if_neg hs, decide_eq_false (by omega), if_neg Bool.false_ne_true, u64_not a ha]
def IsBytes (l : List Int) : Prop := ∀ x ∈ l, 0 ≤ x ∧ x ≤ 255
theorem isBytes_of {l : List Int} (h : ∀ x ∈ l, (Lit.int .u8 x).wf = true) : IsBytes l := by
  intro x hx
  have := h x hx
  simpa [Lit.wf, IntKind.min, IntKind.max, IntKind.signed, IntKind.bits] using this
theorem rd_byte {l : List Int} (h : IsBytes l) (i : Int) : 0 ≤ rd l i ∧ rd l i ≤ 255 := by
  by_cases hi : i.toNat < l.length
  · have : rd l i = l[i.toNat] := by simp [rd, List.getD_eq_getElem?_getD, List.getElem?_eq_getElem hi]
    rw [this]
    exact h _ (List.getElem_mem _)
  · have : rd l i = 0 := by simp [rd, List.getD_eq_getElem?_getD, List.getElem?_eq_none (by omega : l.length ≤ i.toNat)]
    omega
theorem impl_within_f (a b c : Int) : impl_within.f a b c = some (decide (b ≤ a ∧ a ≤ c)) := by
  unfold impl_within.f
  by_cases h : b ≤ a <;> simp [h]
theorem spec_l5in_f (a b c : Int) : spec_l5in.f a b c = some (decide (b ≤ a ∧ a ≤ c)) := by
  unfold spec_l5in.f
  by_cases h : b ≤ a <;> simp [h]
theorem bits_xor_nat (k : IntKind) (j : Nat) (hj : j ≤ k.bits) (hk : ∀ n : Int, 0 ≤ n → n < 2 ^ j → k.wrap n = n) (a b : Nat) (ha : a < 2 ^ j) (hb : b < 2 ^ j) :
    Go.bits .xor k a b = ((a ^^^ b : Nat) : Int) := by
  have hp : 2 ^ j ≤ 2 ^ k.bits := Nat.pow_le_pow_right (by decide) hj
  have ha' : a % 2 ^ k.bits = a := Nat.mod_eq_of_lt (Nat.lt_of_lt_of_le ha hp)
  have hb' : b % 2 ^ k.bits = b := Nat.mod_eq_of_lt (Nat.lt_of_lt_of_le hb hp)
  have cast : ∀ n : Nat, n < 2 ^ j → ((n : Nat) : Int) < 2 ^ j := fun n h => by exact_mod_cast h
  simp only [Go.bits, BitVec.ofInt_natCast, BitVec.toNat_xor, BitVec.toNat_ofNat, ha', hb']
  exact hk _ (Int.natCast_nonneg _) (cast _ (Nat.xor_lt_two_pow ha hb))
/-- a number as d bytes, low first -/
def le (n : Int) : Nat → List Int
  | 0 => []
  | d + 1 => (n % 256) :: le (n / 256) d
theorem le_length (d : Nat) : ∀ n, (le n d).length = d := by
  induction d with
  | zero => intro n; rfl
  | succ d ih => intro n; simp [le, ih]
def PnOk (n size : Int) : Prop := (1 ≤ size ∧ size ≤ 8) ∧ 0 ≤ n ∧ n / 256 ^ size.toNat = 0
instance (n size : Int) : Decidable (PnOk n size) := by unfold PnOk; infer_instance
def pn (n size : Int) : List Int := if PnOk n size then le n size.toNat else []
theorem pow256 (d : Nat) (n : Int) : n / 256 / 256 ^ d = n / 256 ^ (d + 1) := by
  rw [Int.pow_succ, Int.mul_comm, Int.ediv_ediv_of_nonneg (by decide)]
theorem spec_PutNum_l (size : Int) (hs : size ≤ 8) (d : Nat) : ∀ (n i : Int) (out : List Int), 0 ≤ n → n ≤ 9223372036854775807 → 0 ≤ i → i + d = size → out.length ≤ 100 - d →
    Ev (fun k => spec_PutNum.l0 k n size out i) (if n / 256 ^ d > 0 then [] else out ++ le n d) := by
  induction d with
  | zero =>
    intro n i out h0 h1 hi he ho
    refine Ev.step (f := fun _ => some (if n / 256 ^ 0 > 0 then [] else out ++ le n 0)) (fun k => ?_) (Ev.now _)
    simp only [spec_PutNum.l0]
    rw [if_neg (by omega)]
    by_cases hn : n > 0
    · rw [if_pos hn, if_pos (by simpa using hn)]
    · rw [if_neg hn, if_neg (by simpa using hn)]
      simp [le]
  | succ d ih =>
    intro n i out h0 h1 hi he ho
    have hq : Int.tdiv n 256 = n / 256 := Int.tdiv_eq_ediv_of_nonneg h0
    have hm : Int.tmod n 256 = n % 256 := Int.tmod_eq_emod_of_nonneg h0
    have := ih (n / 256) (i + 1) (out ++ [n % 256]) (by omega) (by omega) (by omega) (by omega) (by simp; omega)
    rw [pow256] at this
    simp only [List.append_assoc, List.cons_append, List.nil_append] at this
    refine Ev.step (fun k => ?_) this
    simp only [spec_PutNum.l0]
    rw [if_pos (by omega), if_pos (by omega), hq, hm, w64 (by omega) (by omega), w64 (by omega) (by omega), show n % 256 % 256 = n % 256 by omega]
theorem impl_PutNum_l (size : Int) (hs : size ≤ 8) (d : Nat) : ∀ (n i : Int) (out : List Int), 0 ≤ i → i + d = size → out.length ≤ 100 - d →
    Ev (fun k => impl_PutNum.l0 k n out size i) (out ++ le n d) := by
  induction d with
  | zero =>
    intro n i out hi he ho
    refine Ev.step (f := fun _ => some (out ++ le n 0)) (fun k => ?_) (Ev.now _)
    simp only [impl_PutNum.l0]
    rw [if_neg (by omega)]
    simp [le]
  | succ d ih =>
    intro n i out hi he ho
    have := ih (n / 256) (i + 1) (out ++ [n % 256]) (by omega) (by omega) (by simp; omega)
    simp only [List.append_assoc, List.cons_append, List.nil_append] at this
    refine Ev.step (fun k => ?_) this
    simp only [impl_PutNum.l0]
    rw [if_pos (by omega), if_pos (by omega), w64 (by omega) (by omega)]
theorem pn_off (n size : Int) (h : ¬ PnOk n size) : pn n size = [] := by rw [pn, if_neg h]
theorem div_small (n : Int) (d : Nat) (h0 : 0 ≤ n) : ¬ n / 256 ^ d > 0 ↔ n / 256 ^ d = 0 := by
  have : 0 ≤ n / 256 ^ d := Int.ediv_nonneg h0 (Int.le_of_lt (Int.pow_pos (by decide)))
  omega
theorem spec_PutNum_f (n size : Int) (h1 : n ≤ 9223372036854775807) : Ev (fun k => spec_PutNum.f k n size) (pn n size) := by
  unfold spec_PutNum.f
  by_cases s1 : size < 1
  · refine ev_pos s1 (Ev.step (f := fun _ => some []) (fun k => by simp only [spec_PutNum.j0, if_true]) ?_)
    rw [pn_off n size (fun h => by have := h.1; omega)]
    exact Ev.now _
  refine ev_neg s1 ?_
  by_cases s2 : size > 8
  · refine ev_pos s2 (Ev.step (f := fun _ => some []) (fun k => by simp only [spec_PutNum.j0, if_true]) ?_)
    rw [pn_off n size (fun h => by have := h.1; omega)]
    exact Ev.now _
  refine ev_neg s2 ?_
  by_cases s3 : n < 0
  · refine Ev.step (f := fun _ => some []) (fun k => by simp only [spec_PutNum.j0]; rw [if_pos (decide_eq_true s3)]) ?_
    rw [pn_off n size (fun h => by have := h.2.1; omega)]
    exact Ev.now _
  refine Ev.step (f := fun k => spec_PutNum.l0 k n size [] 0) (fun k => by simp only [spec_PutNum.j0]; rw [if_neg (by simpa using s3)]) ?_
  have := spec_PutNum_l size (by omega) size.toNat n 0 [] (by omega) h1 (by omega) (by omega) (by simp)
  by_cases hz : n / 256 ^ size.toNat > 0
  · rw [if_pos hz] at this
    rw [pn_off n size (fun h => by have := h.2.2; omega)]
    exact this
  · rw [if_neg hz] at this
    rw [pn, if_pos ⟨⟨by omega, by omega⟩, by omega, (div_small n _ (by omega)).1 hz⟩]
    exact this
theorem shr_pow (n size : Int) (h1 : 1 ≤ size) (h2 : size < 8) : shr .i64 n (wrap64 (8 * size)) = n / 256 ^ size.toNat := by
  rw [w64 (by omega) (by omega)]
  unfold shr
  rw [Nat.min_eq_left (by simp [IntKind.bits]; omega)]
  obtain ⟨m, rfl⟩ := Int.eq_ofNat_of_zero_le (show 0 ≤ size by omega)
  have : (8 * (m : Int)).toNat = 8 * m := by omega
  rw [this, Int.toNat_natCast, Int.pow_mul]
  rfl
theorem impl_PutNum_f (n size : Int) (h1 : n ≤ 9223372036854775807) : Ev (fun k => impl_PutNum.f k n size) (pn n size) := by
  unfold impl_PutNum.f
  refine ev_bind0 (impl_within_f _ _ _) ?_
  by_cases s1 : 1 ≤ size ∧ size ≤ 8
  · refine ev_pos (decide_eq_true s1) ?_
    by_cases s2 : n < 0
    · refine ev_pos s2 (Ev.step (f := fun _ => some []) (fun k => by simp only [impl_PutNum.j0, if_true]) ?_)
      rw [pn_off n size (fun h => by have := h.2.1; omega)]
      exact Ev.now _
    refine ev_neg s2 ?_
    have hl := impl_PutNum_l size (by omega) size.toNat n 0 [] (by omega) (by omega) (by simp)
    by_cases s3 : size < 8
    · refine ev_pos s3 (ev_pos (by rw [w64 (by omega) (by omega)]; omega) ?_)
      rw [shr_pow n size s1.1 s3]
      by_cases hz : n / 256 ^ size.toNat = 0
      · refine Ev.step (f := fun k => impl_PutNum.l0 k n [] size 0) (fun k => by simp only [impl_PutNum.j0]; rw [if_neg (by simp [hz])]) ?_
        rw [pn, if_pos ⟨s1, by omega, hz⟩]
        exact hl
      · refine Ev.step (f := fun _ => some []) (fun k => by simp only [impl_PutNum.j0]; rw [if_pos (by simp [hz])]) ?_
        rw [pn_off n size (fun h => hz h.2.2)]
        exact Ev.now _
    · refine ev_neg s3 ?_
      obtain rfl : size = 8 := by omega
      refine Ev.step (f := fun k => impl_PutNum.l0 k n [] 8 0) (fun k => by simp only [impl_PutNum.j0, Bool.false_eq_true, if_false]) ?_
      have hz : n / 256 ^ (8 : Int).toNat = 0 := by
        have : (256 : Int) ^ (8 : Int).toNat = 18446744073709551616 := by decide
        rw [this]; omega
      rw [pn, if_pos ⟨s1, by omega, hz⟩]
      exact hl
  · refine ev_neg (by simpa using s1) (Ev.step (f := fun _ => some []) (fun k => by simp only [impl_PutNum.j0, if_true]) ?_)
    rw [pn_off n size (fun h => s1 h.1)]
    exact Ev.now _
theorem pn_length (n size : Int) : (pn n size).length ≤ 8 := by
  unfold pn
  split
  · rename_i h
    rw [le_length]
    have := h.1
    omega
  · simp
/-- the number of d bytes from p on, low first -/
def gv (l : List Int) (p : Int) : Nat → Int
  | 0 => 0
  | d + 1 => rd l p + 256 * gv l (p + 1) d
theorem gv_range {l : List Int} (h : IsBytes l) (d : Nat) : ∀ p, 0 ≤ gv l p d ∧ gv l p d < 256 ^ d := by
  induction d with
  | zero => intro p; simp [gv]
  | succ d ih =>
    intro p
    have h1 := ih (p + 1)
    have h2 := rd_byte h p
    simp only [gv]
    rw [Int.pow_succ]
    constructor
    · omega
    · have : gv l (p + 1) d + 1 ≤ 256 ^ d := h1.2
      omega
theorem gv_small {l : List Int} (h : IsBytes l) (d : Nat) (hd : d ≤ 7) (p : Int) : 0 ≤ gv l p d ∧ gv l p d < 72057594037927936 := by
  refine ⟨(gv_range h d p).1, Int.lt_of_lt_of_le (gv_range h d p).2 ?_⟩
  have : d = 0 ∨ d = 1 ∨ d = 2 ∨ d = 3 ∨ d = 4 ∨ d = 5 ∨ d = 6 ∨ d = 7 := by omega
  rcases this with rfl | rfl | rfl | rfl | rfl | rfl | rfl | rfl <;> decide
theorem gv_eight {l : List Int} (h : IsBytes l) (d : Nat) (hd : d ≤ 8) (p : Int) : 0 ≤ gv l p d ∧ gv l p d < 18446744073709551616 := by
  refine ⟨(gv_range h d p).1, Int.lt_of_lt_of_le (gv_range h d p).2 ?_⟩
  have : d = 0 ∨ d = 1 ∨ d = 2 ∨ d = 3 ∨ d = 4 ∨ d = 5 ∨ d = 6 ∨ d = 7 ∨ d = 8 := by omega
  rcases this with rfl | rfl | rfl | rfl | rfl | rfl | rfl | rfl | rfl <;> decide
def GnOk (l : List Int) (at_ size : Int) : Prop := (1 ≤ size ∧ size ≤ 8) ∧ (0 ≤ at_ ∧ at_ ≤ l.length) ∧ size ≤ l.length - at_
instance (l : List Int) (at_ size : Int) : Decidable (GnOk l at_ size) := by unfold GnOk; infer_instance
def gn (l : List Int) (at_ size : Int) : Int × Bool := if GnOk l at_ size ∧ gv l at_ size.toNat < 9223372036854775808 then (gv l at_ size.toNat, true) else (0, false)
theorem u64_or {x y : Int} (h0 : 0 ≤ x) (h1 : x < 72057594037927936) (h2 : 0 ≤ y) (h3 : y ≤ 255) : Go.bits .or .u64 (IntKind.u64.wrap (x * 256)) y = y + 256 * x := by
  have e : IntKind.u64.wrap (x * 256) = x * 256 := by simp [IntKind.wrap, IntKind.bits, IntKind.signed]; omega
  rw [e, bits_join .u64 64 (by decide) (fun n a b => by simp [IntKind.wrap, IntKind.bits, IntKind.signed]; omega) 8 (x * 256) y (by omega) (by simp) (by omega) h2 (by omega) (by omega)]
  omega
theorem u64_id {x : Int} (h0 : 0 ≤ x) (h1 : x < 18446744073709551616) : IntKind.u64.wrap x = x := by simp [IntKind.wrap, IntKind.bits, IntKind.signed]; omega
theorem gv_le {l : List Int} (h : IsBytes l) (p : Int) (n : Nat) (d : Nat) : d ≤ n → gv l (p + d) (n - d) ≤ gv l p n := by
  induction d with
  | zero => intro _; simp
  | succ d ih =>
    intro hd
    refine Int.le_trans ?_ (ih (by omega))
    rw [show n - d = (n - (d + 1)) + 1 by omega]
    have h1 := (gv_range h (n - (d + 1)) (p + (d : Int) + 1)).1
    have h2 := rd_byte h (p + d)
    simp only [gv]
    rw [show p + ((d + 1 : Nat) : Int) = p + (d : Int) + 1 by omega]
    omega
theorem gv_top {l : List Int} (h : IsBytes l) (p : Int) : rd l (p + 7) > 127 ↔ 9223372036854775808 ≤ gv l p 8 := by
  have h0 := rd_byte h p
  have h1 := rd_byte h (p + 1)
  have h2 := rd_byte h (p + 1 + 1)
  have h3 := rd_byte h (p + 1 + 1 + 1)
  have h4 := rd_byte h (p + 1 + 1 + 1 + 1)
  have h5 := rd_byte h (p + 1 + 1 + 1 + 1 + 1)
  have h6 := rd_byte h (p + 1 + 1 + 1 + 1 + 1 + 1)
  have h7 := rd_byte h (p + 1 + 1 + 1 + 1 + 1 + 1 + 1)
  have e : p + 7 = p + 1 + 1 + 1 + 1 + 1 + 1 + 1 := by omega
  rw [e]
  simp only [gv]
  omega
theorem gv_step (l : List Int) (p : Int) (n d : Nat) (hd : d < n) : gv l (p + d) (n - d) = gv l (p + (d + 1 : Nat)) (n - (d + 1)) * 256 + rd l (p + d) := by
  rw [show n - d = (n - (d + 1)) + 1 by omega]
  simp only [gv]
  rw [show p + (d : Int) + 1 = p + (d + 1 : Nat) by omega]
  omega
theorem gv_high {l : List Int} (hl : IsBytes l) (p : Int) (n : Nat) (hn : n ≤ 8) (hG : ¬ gv l p n < 9223372036854775808) : n = 8 := by
  by_cases h : n = 8
  · exact h
  · have := gv_small hl n (by omega) p
    omega
theorem spec_GetNum_l (l : List Int) (hl : IsBytes l) (hn : l.length ≤ 1048576) (p size : Int) (ok : GnOk l p size) (hG : gv l p size.toNat < 9223372036854775808) (d : Nat) : ∀ (i : Int), i + 1 = d → d ≤ size →
    Ev (fun k => spec_GetNum.l0 k l p (gv l (p + d) (size.toNat - d)) i) (gv l p size.toNat, true) := by
  obtain ⟨⟨s1, s2⟩, ⟨p1, p2⟩, hs⟩ := ok
  induction d with
  | zero =>
    intro i hi _
    refine Ev.step (f := fun _ => some (gv l p size.toNat, true)) (fun k => ?_) (Ev.now _)
    simp only [spec_GetNum.l0]
    rw [if_neg (by omega)]
    simp
  | succ d ih =>
    intro i hi hd
    have hid : i = d := by omega
    subst hid
    have e : wrap64 (p + d) = p + d := w64 (by omega) (by omega)
    have hb := rd_byte hl (p + d)
    have hm := gv_le hl p size.toNat d (by omega)
    have hs' := gv_step l p size.toNat d (by omega)
    have hg := (gv_range hl (size.toNat - (d + 1)) (p + (d + 1 : Nat))).1
    have er : wrap64 (rd l (p + d)) = rd l (p + d) := w64 (by omega) (by omega)
    refine Ev.step (fun k => ?_) (ih ((d : Int) - 1) (by omega) (by omega))
    simp only [spec_GetNum.l0]
    rw [e, er, if_pos (by omega), if_pos (by omega), if_pos (by omega), w64 (x := gv l (p + (d + 1 : Nat)) (size.toNat - (d + 1)) * 256) (by omega) (by omega),
      w64 (x := gv l (p + (d + 1 : Nat)) (size.toNat - (d + 1)) * 256 + rd l (p + d)) (by omega) (by omega), ← hs', w64 (x := (d : Int) - 1) (by omega) (by omega)]
    by_cases h8 : d = 7
    · subst h8
      have h9 : size.toNat = 8 := by omega
      have h10 := gv_top hl p
      rw [h9] at hG
      rw [if_pos (by omega), if_neg (by push_cast; omega)]
    · rw [if_neg (by omega)]
theorem spec_GetNum_f (l : List Int) (hl : IsBytes l) (hn : l.length ≤ 1048576) (p size : Int) (h0 : -9223372036854775808 ≤ p) (h1 : p ≤ 9223372036854775807) : Ev (fun k => spec_GetNum.f k l p size) (gn l p size) := by
  unfold spec_GetNum.f
  by_cases s1 : size < 1
  · refine ev_pos s1 (Ev.step (f := fun _ => some (0, false)) (fun k => by simp only [spec_GetNum.j0, if_true]) ?_)
    rw [gn, if_neg (fun h => by have := h.1.1; omega)]
    exact Ev.now _
  refine ev_neg s1 ?_
  by_cases s2 : size > 8
  · refine ev_pos s2 (Ev.step (f := fun _ => some (0, false)) (fun k => by simp only [spec_GetNum.j0, if_true]) ?_)
    rw [gn, if_neg (fun h => by have := h.1.1; omega)]
    exact Ev.now _
  refine ev_neg s2 ?_
  by_cases s3 : p < 0
  · refine ev_pos s3 (Ev.step (f := fun _ => some (0, false)) (fun k => by simp only [spec_GetNum.j0, if_true]) ?_)
    rw [gn, if_neg (fun h => by have := h.1.2.1; omega)]
    exact Ev.now _
  refine ev_neg s3 ?_
  by_cases s4 : p > (l.length : Int)
  · refine ev_pos s4 (Ev.step (f := fun _ => some (0, false)) (fun k => by simp only [spec_GetNum.j0, if_true]) ?_)
    rw [gn, if_neg (fun h => by have := h.1.2.1; omega)]
    exact Ev.now _
  refine ev_neg s4 ?_
  have e : wrap64 ((l.length : Int) - p) = l.length - p := w64 (by omega) (by omega)
  by_cases s5 : size > l.length - p
  · refine Ev.step (f := fun _ => some (0, false)) (fun k => by simp only [spec_GetNum.j0]; rw [e, if_pos (decide_eq_true s5)]) ?_
    rw [gn, if_neg (fun h => by have := h.1.2.2; omega)]
    exact Ev.now _
  have ok : GnOk l p size := ⟨⟨by omega, by omega⟩, ⟨by omega, by omega⟩, by omega⟩
  refine Ev.step (f := fun k => spec_GetNum.l0 k l p 0 (size - 1)) (fun k => ?_) ?_
  · simp only [spec_GetNum.j0]
    rw [e, if_neg (by simpa using s5), w64 (x := size - 1) (by omega) (by omega)]
  by_cases hG : gv l p size.toNat < 9223372036854775808
  · rw [gn, if_pos ⟨ok, hG⟩]
    have := spec_GetNum_l l hl hn p size ok hG size.toNat (size - 1) (by omega) (by omega)
    rw [Nat.sub_self] at this
    exact this
  · rw [gn, if_neg (fun h => hG h.2)]
    have h8 := gv_high hl p size.toNat (by omega) hG
    obtain rfl : size = 8 := by omega
    have ht := (gv_top hl p).2 (by simpa using hG)
    have hb := rd_byte hl (p + 7)
    refine Ev.step (f := fun _ => some (0, false)) (fun k => ?_) (Ev.now _)
    simp only [spec_GetNum.l0]
    have e7 : wrap64 (p + (8 - 1)) = p + 7 := by rw [w64 (by omega) (by omega)]; omega
    rw [e7, if_pos (by omega), if_pos (by omega), if_pos (by omega), if_pos (by omega), if_pos (by rw [w64 (by omega) (by omega)]; exact ht)]
theorem impl_GetNum_l (l : List Int) (hl : IsBytes l) (hn : l.length ≤ 1048576) (p size : Int) (ok : GnOk l p size) (d : Nat) : ∀ (i : Int), i + 1 = d → d ≤ size →
    Ev (fun k => impl_GetNum.l0 k l p (gv l (p + d) (size.toNat - d)) i) (gn l p size) := by
  have ok' := ok
  obtain ⟨⟨s1, s2⟩, ⟨p1, p2⟩, hs⟩ := ok
  induction d with
  | zero =>
    intro i hi _
    refine Ev.step (f := fun _ => some (gn l p size)) (fun k => ?_) (Ev.now _)
    have e0 : gv l (p + ((0 : Nat) : Int)) (size.toNat - 0) = gv l p size.toNat := by simp
    have h := gv_eight hl size.toNat (by omega) p
    simp only [impl_GetNum.l0]
    rw [e0, if_neg (by omega)]
    by_cases hG : gv l p size.toNat < 9223372036854775808
    · have hgn : gn l p size = (gv l p size.toNat, true) := by rw [gn, if_pos ⟨ok', hG⟩]
      rw [hgn, if_neg (by omega), w64 (by omega) (by omega)]
    · have hgn : gn l p size = (0, false) := by rw [gn, if_neg (fun h => hG h.2)]
      rw [hgn, if_pos (by omega)]
  | succ d ih =>
    intro i hi hd
    have hid : i = d := by omega
    subst hid
    have e : wrap64 (p + d) = p + d := w64 (by omega) (by omega)
    have hb := rd_byte hl (p + d)
    have hs' := gv_step l p size.toNat d (by omega)
    have hg := gv_small hl (size.toNat - (d + 1)) (by omega) (p + (d + 1 : Nat))
    refine Ev.step (fun k => ?_) (ih ((d : Int) - 1) (by omega) (by omega))
    simp only [impl_GetNum.l0]
    rw [e, if_pos (by omega), if_pos (by omega), if_pos (by omega), u64_id (x := rd l (p + d)) (by omega) (by omega), u64_or hg.1 hg.2 hb.1 hb.2, w64 (x := (d : Int) - 1) (by omega) (by omega), hs', Int.mul_comm 256, Int.add_comm]
theorem impl_hasBytes_f (l : List Int) (hn : l.length ≤ 1048576) (p many : Int) : impl_hasBytes.f l p many = some (decide ((0 ≤ p ∧ p ≤ l.length) ∧ many ≤ l.length - p)) := by
  unfold impl_hasBytes.f
  rw [impl_within_f]
  simp only [Option.bind_some, decide_eq_true_eq]
  by_cases h : 0 ≤ p ∧ p ≤ l.length
  · rw [if_pos h, w64 (by omega) (by omega)]
    simp [h]
  · rw [if_neg h]
    simp [h]
theorem impl_GetNum_f (l : List Int) (hl : IsBytes l) (hn : l.length ≤ 1048576) (p size : Int) : Ev (fun k => impl_GetNum.f k l p size) (gn l p size) := by
  unfold impl_GetNum.f
  refine ev_bind0 (impl_within_f _ _ _) ?_
  by_cases s1 : 1 ≤ size ∧ size ≤ 8
  · refine ev_pos (decide_eq_true s1) ?_
    refine ev_bind0 (impl_hasBytes_f l hn p size) ?_
    by_cases s2 : (0 ≤ p ∧ p ≤ l.length) ∧ size ≤ l.length - p
    · have ok : GnOk l p size := ⟨s1, s2.1, s2.2⟩
      refine Ev.step (f := fun k => impl_GetNum.l0 k l p 0 (size - 1)) (fun k => ?_) ?_
      · simp only [impl_GetNum.j0]
        rw [if_neg (by simp [s2]), w64 (x := size - 1) (by omega) (by omega)]
      · have := impl_GetNum_l l hl hn p size ok size.toNat (size - 1) (by omega) (by omega)
        rw [Nat.sub_self] at this
        exact this
    · refine Ev.step (f := fun _ => some (0, false)) (fun k => by simp only [impl_GetNum.j0]; rw [if_pos (by simp only [decide_eq_false s2, Bool.not_false])]) ?_
      rw [gn, if_neg (fun h => s2 ⟨h.1.2.1, h.1.2.2⟩)]
      exact Ev.now _
  · refine ev_neg (by simpa using s1) ?_
    refine Ev.step (f := fun _ => some (0, false)) (fun k => by simp only [impl_GetNum.j0, if_true]) ?_
    rw [gn, if_neg (fun h => s1 h.1.1)]
    exact Ev.now _
theorem cloneByte_f (l : List Int) (hn : l.length ≤ 1048576) : slices_Clone_byte_byte.f l = some l := by
  unfold slices_Clone_byte_byte.f
  simp only [Option.bind_some, List.nil_append, List.length_nil]
  rw [if_pos (by omega)]
theorem toByteS_l (l : List Int) (hn : l.length ≤ 1048576) (d : Nat) : ∀ (i : Nat) (y : List Int), i + d = l.length → y.length = l.length → (∀ j, j < i → y[j]? = l[j]?) → Ev (fun k => laws_toByteS.l0 k l y (i : Int)) l := by
  induction d with
  | zero =>
    intro i y hi hy hj
    refine Ev.step (f := fun _ => some l) (fun k => ?_) (Ev.now _)
    simp only [laws_toByteS.l0]
    rw [if_neg (by omega)]
    congr 1
    refine List.ext_getElem? fun j => ?_
    by_cases h : j < i
    · exact hj j h
    · rw [List.getElem?_eq_none (by omega), List.getElem?_eq_none (by omega)]
  | succ d ih =>
    intro i y hi hy hj
    refine Ev.step (f := fun k => laws_toByteS.l0 k l (y.set i (rd l i)) ((i + 1 : Nat) : Int)) (fun k => ?_) (ih (i + 1) _ (by omega) (by simp [hy]) ?_)
    · simp only [laws_toByteS.l0]
      rw [if_pos (by omega), if_pos (by omega), if_pos (by omega), w64 (by omega) (by omega)]
      simp
    · intro j hlt
      by_cases h : j = i
      · subst h
        rw [List.getElem?_set_self (by omega), rd_nat l j (by omega), List.getElem?_eq_getElem (by omega)]
      · rw [List.getElem?_set_ne (by omega)]
        exact hj j (by omega)
theorem toByteS_f (l : List Int) (hn : l.length ≤ 1048576) : Ev (fun k => laws_toByteS.f k l) l := by
  unfold laws_toByteS.f
  refine ev_pos (by omega) (ev_pos (by omega) ?_)
  exact toByteS_l l hn l.length 0 _ (by omega) (by simp) (by intro j h; omega)
theorem eqByteS_l (a b : List Int) (hn : a.length ≤ 1048576) (hab : a.length = b.length) (d : Nat) : ∀ (i : Nat), i + d = a.length → (∀ j, j < i → a[j]? = b[j]?) → Ev (fun k => laws_eqByteS.l0 k a b (i : Int)) (decide (a = b)) := by
  induction d with
  | zero =>
    intro i hi hj
    refine Ev.step (f := fun _ => some true) (fun k => ?_) ?_
    · simp only [laws_eqByteS.l0]
      rw [if_neg (by omega)]
    · have : a = b := by
        refine List.ext_getElem? fun j => ?_
        by_cases h : j < i
        · exact hj j h
        · rw [List.getElem?_eq_none (by omega), List.getElem?_eq_none (by omega)]
      rw [decide_eq_true this]
      exact Ev.now _
  | succ d ih =>
    intro i hi hj
    have ha : rd a (i : Int) = a[i]'(by omega) := rd_nat a i (by omega)
    have hb : rd b (i : Int) = b[i]'(by omega) := rd_nat b i (by omega)
    by_cases he : rd a (i : Int) = rd b (i : Int)
    · refine Ev.step (f := fun k => laws_eqByteS.l0 k a b ((i + 1 : Nat) : Int)) (fun k => ?_) (ih (i + 1) (by omega) ?_)
      · simp only [laws_eqByteS.l0]
        rw [if_pos (by omega), if_pos (by omega), if_pos (by omega), if_pos he, w64 (by omega) (by omega)]
        simp
      · intro j hlt
        by_cases h : j = i
        · subst h
          rw [List.getElem?_eq_getElem (by omega), List.getElem?_eq_getElem (by omega), ← ha, ← hb, he]
        · exact hj j (by omega)
    · refine Ev.step (f := fun _ => some false) (fun k => ?_) ?_
      · simp only [laws_eqByteS.l0]
        rw [if_pos (by omega), if_pos (by omega), if_pos (by omega), if_neg he]
      · have : ¬ a = b := by
          rintro rfl
          exact he rfl
        rw [decide_eq_false this]
        exact Ev.now _
theorem eqByteS_f (a b : List Int) (hn : a.length ≤ 1048576) : Ev (fun k => laws_eqByteS.f k a b) (decide (a = b)) := by
  unfold laws_eqByteS.f
  by_cases h : a.length = b.length
  · refine ev_pos (by omega) ?_
    exact eqByteS_l a b hn h a.length 0 (by omega) (by intro j h; omega)
  · refine ev_neg (by omega) ?_
    rw [decide_eq_false (by rintro rfl; exact h rfl)]
    exact Ev.now _
theorem eqByteS_same (a : List Int) (hn : a.length ≤ 1048576) : Ev (fun k => laws_eqByteS.f k a a) true := by
  have := eqByteS_f a a hn
  rwa [decide_eq_true rfl] at this
theorem markByteS_l (a : List Int) (hn : a.length ≤ 1048576) (m0 : Int) (h0 : 0 ≤ m0) (h1 : m0 ≤ 1000000000000) (d : Nat) : ∀ (i : Nat) (y : List Int), i + d = a.length → y.length = a.length → (∀ j, j < i → y[j]? = (marksB m0 a.length)[j]?) → Ev (fun k => laws_markByteS.l0 k y (m0 + i) (i : Int)) (m0 + a.length, marksB m0 a.length) := by
  have hml := marksB_length a.length m0
  induction d with
  | zero =>
    intro i y hi hy hj
    refine Ev.step (f := fun _ => some (m0 + a.length, marksB m0 a.length)) (fun k => ?_) (Ev.now _)
    simp only [laws_markByteS.l0]
    rw [if_neg (by omega)]
    have hy2 : y = marksB m0 a.length := by
      refine List.ext_getElem? fun j => ?_
      by_cases h : j < i
      · exact hj j h
      · rw [List.getElem?_eq_none (by omega), List.getElem?_eq_none (by omega)]
    rw [hy2, show (i : Int) = a.length by omega]
  | succ d ih =>
    intro i y hi hy hj
    refine Ev.step (f := fun k => laws_markByteS.l0 k (y.set i ((m0+i)%256)) (m0 + (i + 1 : Nat)) ((i + 1 : Nat) : Int)) (fun k => ?_) (ih (i + 1) _ (by omega) (by simp [hy]) ?_)
    · simp only [laws_markByteS.l0]
      rw [if_pos (by omega), if_pos (by omega), w64 (by omega) (by omega), w64 (by omega) (by omega)]
      simp [Int.add_assoc]
    · intro j hlt
      by_cases h : j = i
      · subst h
        rw [List.getElem?_set_self (by omega), List.getElem?_eq_getElem (by omega), marksB_get]
      · rw [List.getElem?_set_ne (by omega)]
        exact hj j (by omega)
theorem markByteS_f (a : List Int) (hn : a.length ≤ 1048576) (m : Int) (h0 : 0 ≤ m) (h1 : m ≤ 1000000000000) : Ev (fun k => laws_markByteS.f k a m) (m + a.length, marksB m a.length) := by
  unfold laws_markByteS.f
  have := markByteS_l a hn m h0 h1 a.length 0 a (by omega) rfl (by intro j h; omega)
  simpa using this
theorem heldByteS_l (n : Nat) (hn : n ≤ 1048576) (m0 : Int) (h0 : 0 ≤ m0) (h1 : m0 ≤ 1000000000000) (d : Nat) : ∀ (i : Nat), i + d = n → Ev (fun k => laws_heldByteS.l0 k (marksB m0 n) (m0 + i) (i : Int)) (m0 + n) := by
  have hml := marksB_length n m0
  induction d with
  | zero =>
    intro i hi
    refine Ev.step (f := fun _ => some (m0 + n)) (fun k => ?_) (Ev.now _)
    simp only [laws_heldByteS.l0]
    rw [if_neg (by omega), show (i : Int) = n by omega]
  | succ d ih =>
    intro i hi
    refine Ev.step (f := fun k => laws_heldByteS.l0 k (marksB m0 n) (m0 + (i + 1 : Nat)) ((i + 1 : Nat) : Int)) (fun k => ?_) (ih (i + 1) (by omega))
    simp only [laws_heldByteS.l0]
    rw [if_pos (by omega), if_pos (by omega), if_pos (by rw [rd_nat _ i (by omega), marksB_get]), w64 (by omega) (by omega), w64 (by omega) (by omega)]
    simp [Int.add_assoc]
theorem heldByteS_f (n : Nat) (hn : n ≤ 1048576) (m : Int) (h0 : 0 ≤ m) (h1 : m ≤ 1000000000000) : Ev (fun k => laws_heldByteS.f k (marksB m n) m) (m + n) := by
  unfold laws_heldByteS.f
  have := heldByteS_l n hn m h0 h1 n 0 (by omega)
  simpa using this
/-- one value: the same bits, or both no number -/
def SameF (a b : Nat) : Prop := a = b ∨ (isn a = true ∧ isn b = true)
theorem sameFloat_f (a b : Nat) (ha : a < 2 ^ 64) (hb : b < 2 ^ 64) (h : SameF a b) : Ev (fun k => laws_sameFloat.f k a b) true := by
  unfold laws_sameFloat.f
  rcases h with rfl | ⟨na, nb⟩
  · rw [feq_self a ha]
    cases hn : isn a with
    | true =>
      refine ev_neg (by simp) ?_
      refine Ev.step (fun k => by rw [laws_sameFloat.j0, if_pos rfl, if_neg (by rw [feq_self a ha, hn]; simp), feq_self a ha, hn]) ?_
      exact Ev.now _
    | false =>
      refine ev_pos rfl ?_
      have hself : feq a a = true := by rw [feq_self a ha, hn]; rfl
      refine Ev.step (fun k => by rw [laws_sameFloat.j0, if_neg (by simp)]) ?_
      by_cases hz : feq a 0 = true
      · refine ev_pos hz ?_
        refine ev_pos hz ?_
        have hok : fok .quo 4607182418800017408 a = true := by
          rw [feq_zero a ha hn] at hz
          rcases of_decide_eq_true hz with rfl | rfl
          · exact (fl_ok (o := .quo) (a := 4607182418800017408) (b := 0) (r := 9218868437227405312) (by
              show Ieee.double.div 4607182418800017408 0 = some 9218868437227405312
              unfold Ieee.Format.div
              rw [read_zero, read_one]
              rfl)).1
          · exact (fl_ok (o := .quo) (a := 4607182418800017408) (b := 9223372036854775808) (r := 18442240474082181120) (by
              show Ieee.double.div 4607182418800017408 9223372036854775808 = some 18442240474082181120
              unfold Ieee.Format.div
              rw [read_nzero, read_one]
              rfl)).1
        refine ev_pos hok ?_
        refine ev_pos hok ?_
        rw [beq_self_eq_true]
        exact Ev.now _
      · refine ev_neg hz ?_
        rw [hself]
        exact Ev.now _
  · rw [feq_self a ha, na]
    refine ev_neg (by simp) ?_
    refine Ev.step (fun k => by rw [laws_sameFloat.j0, if_pos rfl, if_neg (by rw [feq_self a ha, na]; simp), feq_self b hb, nb]) ?_
    exact Ev.now _
theorem eqItem_f (kd n : Int) (a b : Nat) (t : List Int) (ht : t.length ≤ 1048576) (ha : a < 2 ^ 64) (hb : b < 2 ^ 64) (h : SameF a b) : Ev (fun k => laws_eqItem.f k kd n a t kd n b t) true := by
  unfold laws_eqItem.f
  refine ev_pos rfl ?_
  refine ev_pos rfl ?_
  refine Ev.bind (sameFloat_f a b ha hb h) ?_
  refine ev_pos rfl ?_
  refine Ev.bind (eqByteS_same t ht) ?_
  exact ev_pos rfl (Ev.now _)
/-- when an item is valid -/
def itemOkP (kd n : Int) (b : Nat) (t : List Int) : Bool := decide (0 ≤ kd ∧ kd ≤ 3 ∧ t.length ≤ 40 ∧ (kd = 1 ∨ n = 0) ∧ (kd = 2 ∨ b = 0) ∧ (kd = 3 ∨ t.length = 0))
theorem canon_zero (b : Nat) : (if isn b then 9221120237041090560 else (b : Int)) = 0 ↔ b = 0 := by
  cases hn : isn b with
  | true =>
    rw [if_pos rfl]
    constructor
    · omega
    · rintro rfl
      exact absurd hn (by decide)
  | false =>
    rw [if_neg Bool.false_ne_true]
    omega
theorem spec_ItemOk_j1 (x : Bool) (kd n : Int) (b : Nat) (t : List Int) (hb : b < 2 ^ 64) : Ev (fun k => spec_ItemOk.j1 k x kd n b t) (decide (x = false ∧ (kd = 2 ∨ b = 0) ∧ (kd = 3 ∨ t.length = 0))) := by
  cases x with
  | true =>
    refine Ev.step (fun k => by rw [spec_ItemOk.j1, if_pos rfl]) ?_
    rw [decide_eq_false (by simp)]
    exact Ev.now _
  | false =>
    refine Ev.step (fun k => by rw [spec_ItemOk.j1, if_neg Bool.false_ne_true]) ?_
    have fin : Ev (fun _ => if kd = 3 then some true else some ((t.length : Int) == 0)) (decide (kd = 3 ∨ t.length = 0)) := by
      by_cases h3 : kd = 3
      · refine ev_pos h3 ?_
        rw [decide_eq_true (Or.inl h3)]
        exact Ev.now _
      · refine ev_neg h3 ?_
        rw [show ((t.length : Int) == 0) = decide (kd = 3 ∨ t.length = 0) by rw [Bool.eq_iff_iff]; simp [h3]]
        exact Ev.now _
    by_cases h2 : kd = 2
    · refine ev_pos h2 ?_
      rw [show decide (false = false ∧ (kd = 2 ∨ b = 0) ∧ (kd = 3 ∨ t.length = 0)) = decide (kd = 3 ∨ t.length = 0) from decide_eq_decide.2 (by simp [h2])]
      exact fin
    · refine ev_neg h2 ?_
      refine Ev.bind (spec_FloatBits_f b hb) ?_
      by_cases h0 : b = 0
      · refine ev_pos ((canon_zero b).2 h0) ?_
        rw [show decide (false = false ∧ (kd = 2 ∨ b = 0) ∧ (kd = 3 ∨ t.length = 0)) = decide (kd = 3 ∨ t.length = 0) from decide_eq_decide.2 (by simp [h0])]
        exact fin
      · refine ev_neg (fun h => h0 ((canon_zero b).1 h)) ?_
        rw [decide_eq_false (by simp [h0, h2])]
        exact Ev.now _
theorem spec_ItemOk_j0 (x : Bool) (kd n : Int) (b : Nat) (t : List Int) (hb : b < 2 ^ 64) : Ev (fun k => spec_ItemOk.j0 k x kd n b t) (decide (x = false ∧ (kd = 1 ∨ n = 0) ∧ (kd = 2 ∨ b = 0) ∧ (kd = 3 ∨ t.length = 0))) := by
  cases x with
  | true =>
    refine Ev.step (fun k => by rw [spec_ItemOk.j0, if_pos rfl]) ?_
    rw [decide_eq_false (by simp)]
    exact Ev.now _
  | false =>
    refine Ev.step (fun k => by rw [spec_ItemOk.j0, if_neg Bool.false_ne_true]) ?_
    by_cases h1 : kd = 1
    · refine ev_pos h1 ?_
      rw [show decide (false = false ∧ (kd = 1 ∨ n = 0) ∧ (kd = 2 ∨ b = 0) ∧ (kd = 3 ∨ t.length = 0)) = decide (false = false ∧ (kd = 2 ∨ b = 0) ∧ (kd = 3 ∨ t.length = 0)) from decide_eq_decide.2 (by simp [h1])]
      exact spec_ItemOk_j1 false kd n b t hb
    · refine ev_neg h1 ?_
      rw [show decide (false = false ∧ (kd = 1 ∨ n = 0) ∧ (kd = 2 ∨ b = 0) ∧ (kd = 3 ∨ t.length = 0)) = decide ((n != 0) = false ∧ (kd = 2 ∨ b = 0) ∧ (kd = 3 ∨ t.length = 0)) from decide_eq_decide.2 (by simp [h1])]
      exact spec_ItemOk_j1 _ kd n b t hb
theorem spec_ItemOk_f (kd n : Int) (b : Nat) (t : List Int) (hb : b < 2 ^ 64) : Ev (fun k => spec_ItemOk.f k kd n b t) (itemOkP kd n b t) := by
  unfold spec_ItemOk.f itemOkP
  by_cases h1 : kd < 0
  · refine ev_pos h1 ?_
    rw [decide_eq_false (by omega)]
    have := spec_ItemOk_j0 true kd n b t hb
    rwa [decide_eq_false (by simp)] at this
  · refine ev_neg h1 ?_
    by_cases h2 : kd > 3
    · refine ev_pos h2 ?_
      rw [decide_eq_false (by omega)]
      have := spec_ItemOk_j0 true kd n b t hb
      rwa [decide_eq_false (by simp)] at this
    · refine ev_neg h2 ?_
      have := spec_ItemOk_j0 (decide ((t.length : Int) > 40)) kd n b t hb
      rwa [show decide (decide ((t.length : Int) > 40) = false ∧ (kd = 1 ∨ n = 0) ∧ (kd = 2 ∨ b = 0) ∧ (kd = 3 ∨ t.length = 0)) = decide (0 ≤ kd ∧ kd ≤ 3 ∧ t.length ≤ 40 ∧ (kd = 1 ∨ n = 0) ∧ (kd = 2 ∨ b = 0) ∧ (kd = 3 ∨ t.length = 0)) from decide_eq_decide.2 (by rw [decide_eq_false_iff_not]; omega)] at this
theorem impl_ItemOk_f (kd n : Int) (b : Nat) (t : List Int) : impl_ItemOk.f kd n b t = some (itemOkP kd n b t) := by
  unfold impl_ItemOk.f itemOkP
  rw [impl_within_f]
  simp only [Option.bind_some]
  repeat' split
  all_goals refine congrArg some ?_
  all_goals simp only [decide_eq_true_eq] at *
  all_goals first
    | (symm; rw [decide_eq_true_eq]; omega)
    | (symm; rw [decide_eq_false_iff_not]; omega)
    | (rw [decide_eq_decide]; omega)
theorem feq_zero_any (b : Nat) (hb : b < 2 ^ 64) : feq b 0 = decide (b = 0 ∨ b = 9223372036854775808) := by
  cases hn : isn b with
  | true =>
    rw [(cmp_nan b 0 (Or.inl ⟨hb, hn⟩)).1]
    symm
    refine decide_eq_false ?_
    rintro (rfl | rfl)
    · exact absurd hn (by decide)
    · exact absurd hn (by decide)
  | false => exact feq_zero b hb hn
/-- when an item can be a key -/
def keyOkP (kd n : Int) (b : Nat) (t : List Int) : Bool := itemOkP kd n b t && decide (kd ≠ 0 ∧ b ≠ 9223372036854775808)
theorem spec_KeyOk_f (kd n : Int) (b : Nat) (t : List Int) (hb : b < 2 ^ 64) : Ev (fun k => spec_KeyOk.f k kd n b t) (keyOkP kd n b t) := by
  unfold spec_KeyOk.f keyOkP
  refine Ev.bind (spec_ItemOk_f kd n b t hb) ?_
  cases itemOkP kd n b t with
  | false => exact ev_neg Bool.false_ne_true (Ev.now _)
  | true =>
    refine ev_pos rfl ?_
    by_cases h0 : kd = 0
    · refine ev_pos h0 ?_
      rw [decide_eq_false (by simp [h0])]
      exact Ev.now _
    · refine ev_neg h0 ?_
      rw [feq_zero_any b hb]
      by_cases hz : b = 0 ∨ b = 9223372036854775808
      · refine ev_pos (decide_eq_true hz) ?_
        refine Ev.bind (spec_FloatBits_f b hb) ?_
        have : (!((if isn b then 9221120237041090560 else (b : Int)) != 0)) = (true && decide (kd ≠ 0 ∧ b ≠ 9223372036854775808)) := by
          rcases hz with rfl | rfl
          · rw [(canon_zero 0).2 rfl, decide_eq_true ⟨h0, by omega⟩]
            rfl
          · rw [show isn 9223372036854775808 = false by decide, decide_eq_false (by simp)]
            rfl
        rw [this]
        exact Ev.now _
      · refine ev_neg (by rw [decide_eq_false hz]; exact Bool.false_ne_true) ?_
        rw [decide_eq_true ⟨h0, fun h => hz (Or.inr h)⟩]
        exact Ev.now _
theorem impl_KeyOk_f (kd n : Int) (b : Nat) (t : List Int) (hb : b < 2 ^ 64) : impl_KeyOk.f kd n b t = some (keyOkP kd n b t) := by
  unfold impl_KeyOk.f keyOkP
  rw [impl_ItemOk_f, feq_zero_any b hb]
  cases itemOkP kd n b t with
  | false => rfl
  | true =>
    simp only [Option.bind_some, if_true, Bool.true_and]
    repeat' split
    all_goals refine congrArg some ?_
    all_goals try simp only [decide_eq_true_eq] at *
    all_goals first
      | (symm; rw [decide_eq_true_eq]; omega)
      | (symm; rw [decide_eq_false_iff_not]; omega)
      | (rw [Bool.eq_iff_iff]; simp; omega)
theorem eqTuple_f (x y ka kb : Int) (kf kf' : Nat) (kt : List Int) (va vb : Int) (vf vf' : Nat) (vt : List Int) (hk : kt.length ≤ 1048576) (hv : vt.length ≤ 1048576) (h1 : kf < 2 ^ 64) (h2 : kf' < 2 ^ 64) (h3 : vf < 2 ^ 64) (h4 : vf' < 2 ^ 64) (hkf : SameF kf kf') (hvf : SameF vf vf') : Ev (fun k => laws_eqTuple.f k x y ka kb kf kt va vb vf vt x y ka kb kf' kt va vb vf' vt) true := by
  unfold laws_eqTuple.f
  refine ev_pos rfl (ev_pos rfl ?_)
  refine Ev.bind (eqItem_f ka kb kf kf' kt hk h1 h2 hkf) (ev_pos rfl ?_)
  refine Ev.bind (eqItem_f va vb vf vf' vt hv h3 h4 hvf) (ev_pos rfl ?_)
  exact Ev.now _
/-- when a tuple is valid -/
def tupleOkP (x y ka kb : Int) (kf : Nat) (kt : List Int) (va vb : Int) (vf : Nat) (vt : List Int) : Bool := decide (1 ≤ x ∧ x ≤ 400) && decide (0 ≤ y ∧ y ≤ 400) && keyOkP ka kb kf kt && itemOkP va vb vf vt && (va != 0)
theorem spec_TupleOk_f (x y ka kb : Int) (kf : Nat) (kt : List Int) (va vb : Int) (vf : Nat) (vt : List Int) (h1 : kf < 2 ^ 64) (h2 : vf < 2 ^ 64) : Ev (fun k => spec_TupleOk.f k x y ka kb kf kt va vb vf vt) (tupleOkP x y ka kb kf kt va vb vf vt) := by
  unfold spec_TupleOk.f tupleOkP
  refine ev_bind0 (spec_l5in_f x 1 400) ?_
  cases decide (1 ≤ x ∧ x ≤ 400) with
  | false => exact ev_neg Bool.false_ne_true (Ev.now _)
  | true =>
    refine ev_pos rfl ?_
    refine ev_bind0 (spec_l5in_f y 0 400) ?_
    cases decide (0 ≤ y ∧ y ≤ 400) with
    | false => exact ev_neg Bool.false_ne_true (Ev.now _)
    | true =>
      refine ev_pos rfl ?_
      refine Ev.bind (spec_KeyOk_f ka kb kf kt h1) ?_
      cases keyOkP ka kb kf kt with
      | false => exact ev_neg Bool.false_ne_true (Ev.now _)
      | true =>
        refine ev_pos rfl ?_
        refine Ev.bind (spec_ItemOk_f va vb vf vt h2) ?_
        cases itemOkP va vb vf vt with
        | false => exact ev_neg Bool.false_ne_true (Ev.now _)
        | true => exact ev_pos rfl (Ev.now _)
theorem impl_TupleOk_f (x y ka kb : Int) (kf : Nat) (kt : List Int) (va vb : Int) (vf : Nat) (vt : List Int) (h1 : kf < 2 ^ 64) : impl_TupleOk.f x y ka kb kf kt va vb vf vt = some (tupleOkP x y ka kb kf kt va vb vf vt) := by
  unfold impl_TupleOk.f tupleOkP impl_isXid.f
  rw [impl_within_f, impl_within_f, impl_KeyOk_f ka kb kf kt h1, impl_ItemOk_f]
  simp only [Option.bind_some]
  cases decide (1 ≤ x ∧ x ≤ 400) with
  | false => rfl
  | true =>
    cases decide (0 ≤ y ∧ y ≤ 400) with
    | false => rfl
    | true =>
      cases keyOkP ka kb kf kt with
      | false => rfl
      | true => cases itemOkP va vb vf vt <;> rfl
/-- n bytes, high first -/
def hi (x : Int) : Nat → List Int
  | 0 => []
  | n + 1 => (x / 256 ^ n % 256) :: hi x n
theorem hi_length (x : Int) (n : Nat) : (hi x n).length = n := by
  induction n with
  | zero => rfl
  | succ n ih => simp [hi, ih]
theorem wrap_u64 {x : Int} (h0 : 0 ≤ x) (h1 : x < 18446744073709551616) : IntKind.u64.wrap x = x := by simp [IntKind.wrap, IntKind.bits, IntKind.signed]; omega
theorem shr_u64 (x : Int) (n : Nat) (h : n < 8) : shr .u64 x (8 * (n : Int)) = x / 256 ^ n := by
  unfold shr
  rw [show ((8 * (n : Int)).toNat) = 8 * n by omega, Nat.min_eq_left (by simp [IntKind.bits]; omega), Int.pow_mul]
  rfl
theorem mask255 (y : Int) (h0 : 0 ≤ y) (h1 : y < 18446744073709551616) : Go.bits .and .u64 y 255 = y % 256 :=
  bits_mask .u64 64 (by decide) (fun n a b => wrap_u64 a (by omega)) 8 (by omega) y h0 h1
theorem quot_pow (x : Int) (n : Nat) (h0 : 0 ≤ x) (h1 : x < 18446744073709551616) : 0 ≤ x / 256 ^ n ∧ x / 256 ^ n < 18446744073709551616 := by
  have hp : (0 : Int) < 256 ^ n := Int.pow_pos (by omega)
  have h2 : 0 ≤ x / 256 ^ n := Int.ediv_nonneg h0 (Int.le_of_lt hp)
  have h3 := Int.ediv_le_self (256 ^ n) h0
  omega
theorem l3high_l (x : Int) (h0 : 0 ≤ x) (h1 : x < 18446744073709551616) : ∀ (n : Nat) (acc : List Int), n ≤ 8 → acc.length ≤ 8 - n → Ev (fun k => spec_l3high.l0 k x acc ((n : Int) - 1)) (acc ++ hi x n)
  | 0, acc, _, _ => by
    refine Ev.step (fun k => by rw [spec_l3high.l0, if_neg (by omega)]) ?_
    rw [show acc ++ hi x 0 = acc by simp [hi]]
    exact Ev.now _
  | n + 1, acc, hn, ha => by
    have hq := quot_pow x n h0 h1
    have e : IntKind.u64.wrap (wrap64 (8 * (((n + 1 : Nat) : Int) - 1))) = 8 * (n : Int) := by rw [w64 (by omega) (by omega), wrap_u64 (by omega) (by omega)]; omega
    refine Ev.step (fun k => by rw [spec_l3high.l0, if_pos (by omega)]) ?_
    rw [e]
    refine ev_pos (by omega) (ev_pos (by omega) ?_)
    rw [shr_u64 x n (by omega), mask255 _ hq.1 hq.2, w64 (by omega) (by omega), show ((n + 1 : Nat) : Int) - 1 - 1 = (n : Int) - 1 by omega]
    have := l3high_l x h0 h1 n (acc ++ [x / 256 ^ n % 256 % 256]) (by omega) (by simp; omega)
    rw [show x / 256 ^ n % 256 % 256 = x / 256 ^ n % 256 by omega, List.append_assoc] at this
    rw [show x / 256 ^ n % 256 % 256 = x / 256 ^ n % 256 by omega]
    exact this
theorem spec_l3high_f (x : Int) (h0 : 0 ≤ x) (h1 : x < 18446744073709551616) : Ev (fun k => spec_l3high.f k x) (hi x 8) := by
  unfold spec_l3high.f
  exact l3high_l x h0 h1 8 [] (by omega) (by simp)
theorem highFirst_l (x : Int) (h0 : 0 ≤ x) (h1 : x < 18446744073709551616) : ∀ (n : Nat) (acc : List Int), n ≤ 8 → acc.length ≤ 8 - n → Ev (fun k => impl_highFirst.l0 k x acc (8 * (n : Int) - 8)) (acc ++ hi x n)
  | 0, acc, _, _ => by
    refine Ev.step (fun k => by rw [impl_highFirst.l0, if_neg (by omega)]) ?_
    rw [show acc ++ hi x 0 = acc by simp [hi]]
    exact Ev.now _
  | n + 1, acc, hn, ha => by
    refine Ev.step (fun k => by rw [impl_highFirst.l0, if_pos (by omega)]) ?_
    refine ev_pos (by omega) (ev_pos (by omega) ?_)
    rw [show 8 * (((n + 1 : Nat) : Int)) - 8 = 8 * (n : Int) by omega, shr_u64 x n (by omega), w64 (by omega) (by omega)]
    have := highFirst_l x h0 h1 n (acc ++ [x / 256 ^ n % 256]) (by omega) (by simp; omega)
    rw [List.append_assoc] at this
    exact this
theorem impl_highFirst_f (x : Int) (h0 : 0 ≤ x) (h1 : x < 18446744073709551616) : Ev (fun k => impl_highFirst.f k x) (hi x 8) := by
  unfold impl_highFirst.f
  exact highFirst_l x h0 h1 8 [] (by omega) (by simp)
/-- a whole number's bits with the sign turned -/
def turned (n : Int) : Int := (n + 9223372036854775808) % 18446744073709551616
theorem turned_bound (n : Int) : 0 ≤ turned n ∧ turned n < 18446744073709551616 := by unfold turned; omega
theorem wrap_mod (n : Int) : IntKind.u64.wrap n = n % 18446744073709551616 := by simp [IntKind.wrap, IntKind.bits, IntKind.signed]
theorem turn_spec (n : Int) : Go.bits .xor .u64 (IntKind.u64.wrap n) 9223372036854775808 = turned n := by
  rw [wrap_mod]
  obtain ⟨m, hm⟩ : ∃ m : Nat, (m : Int) = n % 18446744073709551616 := ⟨(n % 18446744073709551616).toNat, by omega⟩
  have hlt : m < 18446744073709551616 := by omega
  rw [← hm]
  have h2 := bits_xor_nat .u64 64 (by decide) (fun n a b => wrap_u64 a (by omega)) m 9223372036854775808 (by omega) (by omega)
  rw [show Go.bits .xor .u64 (m : Int) 9223372036854775808 = Go.bits .xor .u64 (m : Int) ((9223372036854775808 : Nat) : Int) from rfl, h2]
  unfold turned
  by_cases hs : m < 9223372036854775808
  · have h3 := fneg_pos m hs
    rw [show m ^^^ 9223372036854775808 = 9223372036854775808 + m from h3]
    omega
  · obtain ⟨c, rfl⟩ := Nat.le.dest (Nat.le_of_not_lt hs)
    have h3 := fneg_neg c (by omega)
    rw [show (9223372036854775808 + c) ^^^ 9223372036854775808 = c from h3]
    omega
theorem turn_impl (n : Int) : IntKind.u64.wrap (IntKind.u64.wrap n + 9223372036854775808) = turned n := by
  rw [wrap_mod, wrap_mod]
  unfold turned
  omega
/-- an item's bytes, with these bits of its float -/
def itemBytesOf (kd n : Int) (t : List Int) (bits : Int) : List Int := (kd % 256) :: (if kd = 1 then hi (turned n) 8 else if kd = 2 then hi bits 8 else t)
theorem itemBytesOf_length (kd n : Int) (t : List Int) (bits : Int) : (itemBytesOf kd n t bits).length ≤ t.length + 9 := by
  unfold itemBytesOf
  rw [List.length_cons]
  split
  · rw [hi_length]; omega
  · split
    · rw [hi_length]; omega
    · omega
theorem spec_l3bytes_f (kd n : Int) (b : Nat) (t : List Int) (ht : t.length ≤ 1048576) (bits : Int) (h0 : 0 ≤ bits) (h1 : bits < 18446744073709551616) : Ev (fun k => spec_l3bytes.f k kd n b t bits) (itemBytesOf kd n t bits) := by
  unfold spec_l3bytes.f itemBytesOf
  refine ev_bind0 rfl ?_
  by_cases hk : kd = 1
  · rw [if_pos hk]
    refine ev_pos hk ?_
    rw [turn_spec]
    refine Ev.bind (spec_l3high_f _ (turned_bound n).1 (turned_bound n).2) ?_
    refine ev_pos (by rw [hi_length]; simp) ?_
    exact Ev.now _
  · rw [if_neg hk]
    refine ev_neg hk ?_
    by_cases hk2 : kd = 2
    · rw [if_pos hk2]
      refine ev_pos hk2 ?_
      refine Ev.bind (spec_l3high_f _ h0 h1) ?_
      refine ev_pos (by rw [hi_length]; simp) ?_
      exact Ev.now _
    · rw [if_neg hk2]
      refine ev_neg hk2 ?_
      refine ev_pos (by simp; omega) ?_
      exact Ev.now _
theorem impl_itemBytes_f (kd n : Int) (b : Nat) (t : List Int) (ht : t.length ≤ 1048576) (bits : Int) (h0 : 0 ≤ bits) (h1 : bits < 18446744073709551616) : Ev (fun k => impl_itemBytes.f k kd n b t bits) (itemBytesOf kd n t bits) := by
  unfold impl_itemBytes.f itemBytesOf
  refine ev_bind0 rfl ?_
  by_cases hk : kd = 1
  · rw [if_pos hk]
    refine ev_pos hk ?_
    rw [turn_impl]
    refine Ev.bind (impl_highFirst_f _ (turned_bound n).1 (turned_bound n).2) ?_
    refine ev_pos (by rw [hi_length]; simp) ?_
    exact Ev.now _
  · rw [if_neg hk]
    refine ev_neg hk ?_
    by_cases hk2 : kd = 2
    · rw [if_pos hk2]
      refine ev_pos hk2 ?_
      refine Ev.bind (impl_highFirst_f _ h0 h1) ?_
      refine ev_pos (by rw [hi_length]; simp) ?_
      exact Ev.now _
    · rw [if_neg hk2]
      refine ev_neg hk2 ?_
      refine ev_pos (by simp; omega) ?_
      exact Ev.now _
theorem markItem_f (kd n : Int) (b : Nat) (t : List Int) (ht : t.length ≤ 1048576) (m : Int) (h0 : 0 ≤ m) (h1 : m ≤ 1000000000000) : Ev (fun k => laws_markItem.f k kd n b t m) (m + t.length, marksB m t.length) := by
  unfold laws_markItem.f
  refine Ev.bind (markByteS_f t ht m h0 h1) ?_
  exact Ev.now _
theorem rankOf_bound (a : Nat) (ha : a < 2 ^ 64) : 0 ≤ rankOf a ∧ rankOf a < 18446744073709551616 := by
  unfold rankOf
  repeat' split
  all_goals omega
def keyBytesOf (kd n : Int) (b : Nat) (t : List Int) : List Int := if keyOkP kd n b t = true then itemBytesOf kd n t (rankOf b) else []
theorem keyBytesOf_length (kd n : Int) (b : Nat) (t : List Int) (ht : t.length ≤ 1048576) : (keyBytesOf kd n b t).length ≤ 49 := by
  unfold keyBytesOf
  split
  · rename_i h
    have h2 : t.length ≤ 40 := by
      simp only [keyOkP, itemOkP, Bool.and_eq_true, decide_eq_true_eq] at h
      exact h.1.2.2.1
    have := itemBytesOf_length kd n t (rankOf b)
    omega
  · simp
theorem spec_KeyBytes_f (kd n : Int) (b : Nat) (t : List Int) (hb : b < 2 ^ 64) (ht : t.length ≤ 1048576) : Ev (fun k => spec_KeyBytes.f k kd n b t) (keyBytesOf kd n b t) := by
  unfold spec_KeyBytes.f keyBytesOf
  refine Ev.bind (spec_KeyOk_f kd n b t hb) ?_
  cases keyOkP kd n b t with
  | false => exact ev_neg Bool.false_ne_true (Ev.now _)
  | true =>
    refine ev_pos rfl ?_
    refine Ev.bind (spec_FloatRank_f b hb) ?_
    refine Ev.bind (spec_l3bytes_f kd n b t ht _ (rankOf_bound b hb).1 (rankOf_bound b hb).2) ?_
    exact Ev.now _
theorem impl_KeyBytes_f (kd n : Int) (b : Nat) (t : List Int) (hb : b < 2 ^ 64) (ht : t.length ≤ 1048576) : Ev (fun k => impl_KeyBytes.f k kd n b t) (keyBytesOf kd n b t) := by
  unfold impl_KeyBytes.f keyBytesOf
  refine ev_bind0 (impl_KeyOk_f kd n b t hb) ?_
  cases keyOkP kd n b t with
  | false => exact ev_neg Bool.false_ne_true (Ev.now _)
  | true =>
    refine ev_pos rfl ?_
    refine ev_bind0 (impl_FloatRank_f b hb) ?_
    refine Ev.bind (impl_itemBytes_f kd n b t ht _ (rankOf_bound b hb).1 (rankOf_bound b hb).2) ?_
    exact Ev.now _
theorem impl_FloatBits_f (a : Nat) (ha : a < 2 ^ 64) : impl_FloatBits.f a = some (if isn a then 9221120237041090560 else (a : Int)) := by
  unfold impl_FloatBits.f
  rw [feq_self a ha]
  cases isn a <;> simp
theorem canon_bound (b : Nat) (hb : b < 2 ^ 64) : 0 ≤ (if isn b then 9221120237041090560 else (b : Int)) ∧ (if isn b then 9221120237041090560 else (b : Int)) < 18446744073709551616 := by
  split <;> omega
def valueBytesOf (kd n : Int) (b : Nat) (t : List Int) : List Int := if itemOkP kd n b t = true ∧ kd ≠ 0 then itemBytesOf kd n t (if isn b then 9221120237041090560 else (b : Int)) else []
theorem valueBytesOf_length (kd n : Int) (b : Nat) (t : List Int) (ht : t.length ≤ 1048576) : (valueBytesOf kd n b t).length ≤ 49 := by
  unfold valueBytesOf
  split
  · rename_i h
    have h2 : t.length ≤ 40 := by
      have h1 := h.1
      simp only [itemOkP, decide_eq_true_eq] at h1
      exact h1.2.2.1
    have := itemBytesOf_length kd n t (if isn b then 9221120237041090560 else (b : Int))
    omega
  · simp
theorem spec_ValueBytes_f (kd n : Int) (b : Nat) (t : List Int) (hb : b < 2 ^ 64) (ht : t.length ≤ 1048576) : Ev (fun k => spec_ValueBytes.f k kd n b t) (valueBytesOf kd n b t) := by
  unfold spec_ValueBytes.f valueBytesOf
  refine Ev.bind (spec_ItemOk_f kd n b t hb) ?_
  cases itemOkP kd n b t with
  | false =>
    rw [if_neg (by simp)]
    refine ev_neg Bool.false_ne_true ?_
    refine Ev.step (fun k => by rw [spec_ValueBytes.j0, if_pos rfl]) ?_
    exact Ev.now _
  | true =>
    refine ev_pos rfl ?_
    by_cases h0 : kd = 0
    · rw [if_neg (by simp [h0])]
      refine Ev.step (fun k => by rw [spec_ValueBytes.j0, if_pos (by simp [h0])]) ?_
      exact Ev.now _
    · rw [if_pos ⟨rfl, h0⟩]
      refine Ev.step (fun k => by rw [spec_ValueBytes.j0, if_neg (by simp [h0])]) ?_
      refine Ev.bind (spec_FloatBits_f b hb) ?_
      refine Ev.bind (spec_l3bytes_f kd n b t ht _ (canon_bound b hb).1 (canon_bound b hb).2) ?_
      exact Ev.now _
theorem impl_ValueBytes_f (kd n : Int) (b : Nat) (t : List Int) (hb : b < 2 ^ 64) (ht : t.length ≤ 1048576) : Ev (fun k => impl_ValueBytes.f k kd n b t) (valueBytesOf kd n b t) := by
  unfold impl_ValueBytes.f valueBytesOf
  refine ev_bind0 (impl_ItemOk_f kd n b t) ?_
  cases itemOkP kd n b t with
  | false =>
    rw [if_neg (by simp)]
    refine ev_neg Bool.false_ne_true ?_
    refine Ev.step (fun k => by rw [impl_ValueBytes.j0, if_pos rfl]) ?_
    exact Ev.now _
  | true =>
    refine ev_pos rfl ?_
    by_cases h0 : kd = 0
    · rw [if_neg (by simp [h0])]
      refine Ev.step (fun k => by rw [impl_ValueBytes.j0, if_pos (by simp [h0])]) ?_
      exact Ev.now _
    · rw [if_pos ⟨rfl, h0⟩]
      refine Ev.step (fun k => by rw [impl_ValueBytes.j0, if_neg (by simp [h0])]) ?_
      refine ev_bind0 (impl_FloatBits_f b hb) ?_
      refine Ev.bind (impl_itemBytes_f kd n b t ht _ (canon_bound b hb).1 (canon_bound b hb).2) ?_
      exact Ev.now _
theorem rdl_nat (l : List (List Int)) (i : Nat) (h : i < l.length) : rd_L1 l (i : Int) = l[i] := by
  simp [rd_L1, List.getD_eq_getElem?_getD, List.getElem?_eq_getElem h]
theorem take_flat (l : List (List Int)) (i : Nat) (h : i < l.length) : (l.take (i + 1)).flatten = (l.take i).flatten ++ l[i] := by
  rw [List.take_succ_eq_append_getElem h, List.flatten_append]
  simp
theorem flat_le (l : List (List Int)) (i : Nat) : (l.take i).flatten.length ≤ l.flatten.length := by
  have : l.flatten = (l.take i).flatten ++ (l.drop i).flatten := by rw [← List.flatten_append, List.take_append_drop]
  rw [this, List.length_append]
  omega
theorem concat_l1 (l : List (List Int)) (hl : l.length ≤ 1048576) (ht : l.flatten.length ≤ 35184372088832) (d : Nat) : ∀ (i : Nat), i + d = l.length → Ev (fun k => slices_Concat_byte_byte.l1 k (l.take i).flatten l (l.length : Int) (i : Int)) l.flatten := by
  induction d with
  | zero =>
    intro i hi
    refine Ev.step (f := fun _ => some l.flatten) (fun k => ?_) (Ev.now _)
    rw [slices_Concat_byte_byte.l1, if_neg (by omega), List.take_of_length_le (by omega)]
  | succ d ih =>
    intro i hi
    have hx : rd_L1 l (i : Int) = l[i] := rdl_nat l i (by omega)
    have h1 := take_flat l i (by omega)
    have h2 := flat_le l (i + 1)
    rw [h1, List.length_append] at h2
    refine Ev.step (f := fun k => slices_Concat_byte_byte.l1 k (l.take (i + 1)).flatten l (l.length : Int) ((i + 1 : Nat) : Int)) (fun k => ?_) (ih (i + 1) (by omega))
    rw [slices_Concat_byte_byte.l1, if_pos (by omega), if_pos (by omega), if_pos (by omega), hx, if_pos (by omega), w64 (by omega) (by omega), h1]
    simp
theorem concat_l0 (l : List (List Int)) (hl : l.length ≤ 1048576) (ht : l.flatten.length ≤ 35184372088832) (d : Nat) : ∀ (i : Nat), i + d = l.length → Ev (fun k => slices_Concat_byte_byte.l0 k l ((l.take i).flatten.length : Int) l (l.length : Int) (i : Int)) l.flatten := by
  induction d with
  | zero =>
    intro i hi
    refine Ev.step (f := fun k => (slices_Grow_byte_byte.f ((l.take i).flatten.length : Int)).bind fun t => slices_Concat_byte_byte.l1 k t l (l.length : Int) 0) (fun k => ?_) ?_
    · rw [slices_Concat_byte_byte.l0, if_neg (by omega)]
    · have h2 := flat_le l i
      refine ev_bind0 (a := ([] : List Int)) (by unfold slices_Grow_byte_byte.f; rw [if_pos (by omega)]) ?_
      exact concat_l1 l hl ht l.length 0 (by omega)
  | succ d ih =>
    intro i hi
    have hx : rd_L1 l (i : Int) = l[i] := rdl_nat l i (by omega)
    have h1 := take_flat l i (by omega)
    have h2 := flat_le l (i + 1)
    have h3 : (l.take (i + 1)).flatten.length = (l.take i).flatten.length + l[i].length := by rw [h1, List.length_append]
    refine Ev.step (f := fun k => slices_Concat_byte_byte.l0 k l ((l.take (i + 1)).flatten.length : Int) l (l.length : Int) ((i + 1 : Nat) : Int)) (fun k => ?_) (ih (i + 1) (by omega))
    rw [slices_Concat_byte_byte.l0, if_pos (by omega), if_pos (by omega), if_pos (by omega), hx, w64 (by omega) (by omega), if_neg (by omega), w64 (by omega) (by omega), h3]
    simp
theorem concat_f (l : List (List Int)) (hl : l.length ≤ 1048576) (ht : l.flatten.length ≤ 35184372088832) : Ev (fun k => slices_Concat_byte_byte.f k l) l.flatten := concat_l0 l hl ht l.length 0 (by omega)
/-- a tuple's bytes -/
def tupleBytesOf (x y ka kb : Int) (kf : Nat) (kt : List Int) (va vb : Int) (vf : Nat) (vt : List Int) : List Int := if tupleOkP x y ka kb kf kt va vb vf vt then ((((pn x 4 ++ pn y 4) ++ [((keyBytesOf ka kb kf kt).length : Int) % 256]) ++ keyBytesOf ka kb kf kt) ++ [((valueBytesOf va vb vf vt).length : Int) % 256]) ++ valueBytesOf va vb vf vt else []
theorem spec_TupleBytes_f (x y ka kb : Int) (kf : Nat) (kt : List Int) (va vb : Int) (vf : Nat) (vt : List Int) (b1 : kf < 2 ^ 64) (b2 : vf < 2 ^ 64) (h1 : kt.length ≤ 1048576) (h2 : vt.length ≤ 1048576) (m1 : x ≤ 9223372036854775807) (m2 : y ≤ 9223372036854775807) : Ev (fun k => spec_TupleBytes.f k x y ka kb kf kt va vb vf vt) (tupleBytesOf x y ka kb kf kt va vb vf vt) := by
  have l1 := pn_length x 4
  have l2 := pn_length y 4
  have l3 := keyBytesOf_length ka kb kf kt h1
  have l4 := valueBytesOf_length va vb vf vt h2
  unfold spec_TupleBytes.f tupleBytesOf
  refine Ev.bind (spec_TupleOk_f x y ka kb kf kt va vb vf vt b1 b2) ?_
  cases hr : tupleOkP x y ka kb kf kt va vb vf vt with
  | false => exact ev_neg (by simp) (Ev.now _)
  | true =>
    refine ev_pos rfl ?_
    refine Ev.bind (spec_KeyBytes_f ka kb kf kt b1 h1) ?_
    refine Ev.bind (spec_ValueBytes_f va vb vf vt b2 h2) ?_
    refine Ev.bind (spec_PutNum_f x 4 m1) ?_
    refine Ev.bind (spec_PutNum_f y 4 m2) ?_
    refine ev_pos (by omega) (ev_bind0 rfl ?_)
    refine ev_pos (by simp only [List.length_append]; omega) (ev_bind0 rfl ?_)
    refine ev_pos (by simp only [List.length_append, List.length_cons, List.length_nil]; omega) (ev_bind0 rfl ?_)
    refine ev_pos (by simp only [List.length_append, List.length_cons, List.length_nil]; omega) (ev_bind0 rfl ?_)
    refine ev_pos (by simp only [List.length_append, List.length_cons, List.length_nil]; omega) ?_
    exact Ev.now _
theorem impl_TupleBytes_f (x y ka kb : Int) (kf : Nat) (kt : List Int) (va vb : Int) (vf : Nat) (vt : List Int) (b1 : kf < 2 ^ 64) (b2 : vf < 2 ^ 64) (h1 : kt.length ≤ 1048576) (h2 : vt.length ≤ 1048576) (m1 : x ≤ 9223372036854775807) (m2 : y ≤ 9223372036854775807) : Ev (fun k => impl_TupleBytes.f k x y ka kb kf kt va vb vf vt) (tupleBytesOf x y ka kb kf kt va vb vf vt) := by
  have l1 := pn_length x 4
  have l2 := pn_length y 4
  have l3 := keyBytesOf_length ka kb kf kt h1
  have l4 := valueBytesOf_length va vb vf vt h2
  unfold impl_TupleBytes.f tupleBytesOf
  refine ev_bind0 (impl_TupleOk_f x y ka kb kf kt va vb vf vt b1) ?_
  cases hr : tupleOkP x y ka kb kf kt va vb vf vt with
  | false => exact ev_neg (by simp) (Ev.now _)
  | true =>
    refine ev_pos rfl ?_
    refine Ev.bind (impl_KeyBytes_f ka kb kf kt b1 h1) ?_
    refine Ev.bind (impl_ValueBytes_f va vb vf vt b2 h2) ?_
    refine Ev.bind (impl_PutNum_f x 4 m1) ?_
    refine Ev.bind (impl_PutNum_f y 4 m2) ?_
    have e : ([pn x 4, pn y 4, [((keyBytesOf ka kb kf kt).length : Int) % 256], keyBytesOf ka kb kf kt, [((valueBytesOf va vb vf vt).length : Int) % 256], valueBytesOf va vb vf vt] : List (List Int)).flatten = ((((pn x 4 ++ pn y 4) ++ [((keyBytesOf ka kb kf kt).length : Int) % 256]) ++ keyBytesOf ka kb kf kt) ++ [((valueBytesOf va vb vf vt).length : Int) % 256]) ++ valueBytesOf va vb vf vt := by simp
    refine Ev.bind (concat_f [pn x 4, pn y 4, [((keyBytesOf ka kb kf kt).length : Int) % 256], keyBytesOf ka kb kf kt, [((valueBytesOf va vb vf vt).length : Int) % 256], valueBytesOf va vb vf vt] (by simp) (by rw [e]; simp only [List.length_append, List.length_cons, List.length_nil]; omega)) ?_
    rw [e]
    exact Ev.now _
theorem markTuple_f (x y ka kb : Int) (kf : Nat) (kt : List Int) (va vb : Int) (vf : Nat) (vt : List Int) (h1 : kt.length ≤ 1048576) (h2 : vt.length ≤ 1048576) : Ev (fun k => laws_markTuple.f k x y ka kb kf kt va vb vf vt 1) (1 + kt.length + vt.length, marksB 1 kt.length, marksB (1 + kt.length) vt.length) := by
  unfold laws_markTuple.f
  refine Ev.bind (markItem_f ka kb kf kt h1 1 (by omega) (by omega)) ?_
  exact Ev.bind (markItem_f va vb vf vt h2 (1 + kt.length) (by omega) (by omega)) (Ev.now _)
open Ieee
theorem maskU (y : Int) (n : Nat) (hn : n ≤ 64) (h0 : 0 ≤ y) (h1 : y < 18446744073709551616) : Go.bits .and .u64 y (2 ^ n - 1) = y % 2 ^ n :=
  bits_mask .u64 64 (by decide) (fun n a b => by simp [IntKind.wrap, IntKind.bits, IntKind.signed]; omega) n (by omega) y h0 h1
theorem fofi_fl (n : Nat) : fofi (n : Int) = fl n 0 := by
  unfold fofi fl floatOfInt FloatKind.nearest
  show double.write (.number (decide ((n : Int) < 0)) (n : Int).natAbs 0) = _
  rw [decide_eq_false (by omega), Int.natAbs_natCast]
  rfl
theorem fl_zero (q : Int) : fl 0 q = 0 := by
  unfold fl Format.nearest
  rw [if_pos rfl, word_false]
theorem quo_zero (d : Nat) (r : Int) (hd : double.read d = .number false 4503599627370496 r) : double.div 0 d = some 0 := by
  unfold Format.div
  rw [read_zero, hd]
  unfold Datum.quotient
  dsimp only
  rw [if_neg (by omega), Nat.zero_shiftLeft, Nat.zero_div, Nat.zero_mod]
  show some (double.write (.number false (2 * 0 + 0) _)) = some 0
  rw [write_zero, word_false]
theorem add_one (N : Nat) (h0 : 0 < N) (h : N < 4503599627370496) : double.add (fl N (-52)) 4607182418800017408 = some (fl (4503599627370496 + N) (-52)) := by
  have hlog : N.log2 < 52 := (Nat.log2_lt (by omega)).2 h
  obtain ⟨s, e, hs, _⟩ := fl_reads N (-52) h0 (by omega) (by omega) (by omega)
  unfold Format.add
  rw [e, read_one]
  unfold Datum.sum
  dsimp only
  rw [show min ((-52 : Int) - s) (-52) = -52 - s by omega, signed_false, signed_false, show ((-52 : Int) - s - (-52 - s)).toNat = 0 by omega, show ((-52 : Int) - (-52 - s)).toNat = s by omega, Nat.pow_zero, Nat.mul_one]
  have ht : ((N * 2 ^ s : Nat) : Int) + ((4503599627370496 * 2 ^ s : Nat) : Int) = (((4503599627370496 + N) * 2 ^ s : Nat) : Int) := by
    rw [← Int.natCast_add, ← Nat.add_mul, Nat.add_comm N]
  rw [ht]
  have hpos : 0 < (4503599627370496 + N) * 2 ^ s := Nat.mul_pos (by omega) (Nat.two_pow_pos s)
  rw [if_neg (by omega), decide_eq_false (by omega), Int.natAbs_natCast]
  refine congrArg some ?_
  exact nearest_fl (4503599627370496 + N) (-52) s _ _ (by omega) (by omega) (by omega) rfl rfl
theorem fl_one : fl 4503599627370496 (-52) = 4607182418800017408 := by
  have := fl_eta 4607182418800017408 (by omega) (by omega)
  exact this
theorem one_of_zero : double.add 0 4607182418800017408 = some 4607182418800017408 := by
  unfold Format.add
  rw [read_one, read_zero]
  unfold Datum.sum
  dsimp only
  rw [show min (-1074 : Int) (-52) = -1074 by omega, signed_false, signed_false, Nat.zero_mul]
  obtain ⟨n, hn⟩ : ∃ n : Nat, n = 1022 := ⟨_, rfl⟩
  rw [show ((-52 : Int) - -1074).toNat = n by omega]
  have hpos : 0 < 4503599627370496 * 2 ^ n := Nat.mul_pos (by omega) (Nat.two_pow_pos _)
  generalize hq : 4503599627370496 * 2 ^ n = Q at hpos
  rw [show (((0 : Nat) : Int) + ((Q : Nat) : Int)) = (Q : Int) by omega, if_neg (by omega), decide_eq_false (by omega), Int.natAbs_natCast]
  refine congrArg some ?_
  rw [← fl_one]
  exact nearest_fl 4503599627370496 (-52) n _ _ (by omega) (by omega) (by omega) hq.symm (by omega)
/-- bits that stand for no number -/
def nanB (a : Int) : Bool := decide (a % 9223372036854775808 > 9218868437227405312)
theorem sign_f (a : Nat) (ha : a < 2 ^ 64) (b : Nat) (hb : b = a % 9223372036854775808) (k : Nat) (hx : b ≤ 9218868437227405312) : (if ((a : Int) / 9223372036854775808) = 1 then some (fneg b) else some b) = some a := by
  by_cases h : (a : Int) / 9223372036854775808 = 1
  · rw [if_pos h, fneg_pos b (by omega)]
    congr 1
    omega
  · rw [if_neg h]
    congr 1
    omega
theorem down_l (a : Nat) (ha : a < 2 ^ 64) (N : Nat) (h2 : N < 2 ^ 53) (b : Nat) (hb : b = a % 9223372036854775808) (hx : b < 9218868437227405312) (z : Int) (hz : fl N z = b) (hzl : -1074 ≤ z) (d : Nat) : ∀ (q : Int), d ≤ 2000 → q - d = z → (0 < N → q + N.log2 ≤ 1023) →
    Ev (fun k => spec_FloatOf.l1 k (a : Int) (fl N q) (-(d : Int))) a := by
  induction d with
  | zero =>
    intro q _ hq _
    have e : q = z := by omega
    rw [e, hz]
    refine Ev.step (fun k => by rw [spec_FloatOf.l1, if_neg (by omega)]) ?_
    rw [sign_f a ha b hb 0 (by omega)]
    exact Ev.now _
  | succ d ih =>
    intro q hd hq hv
    have e : fok .quo (fl N q) 4611686018427387904 = true ∧ fval .quo (fl N q) 4611686018427387904 = fl N (q - 1) := by
      by_cases h0 : N = 0
      · rw [h0, fl_zero, fl_zero]
        exact fl_ok (quo_zero _ _ read_two)
      · have := quo_pow N q 4611686018427387904 (-51) (by omega) h2 (by omega) (hv (by omega)) read_two (by omega)
        rw [show q - -51 - 52 = q - 1 by omega] at this
        exact fl_ok this
    refine Ev.step (fun k => by rw [spec_FloatOf.l1, if_pos (by omega), if_pos e.1, e.2, show wrap64 (-((d + 1 : Nat) : Int) + 1) = -(d : Int) by unfold wrap64; omega]) ?_
    exact ih (q - 1) (by omega) (by omega) (fun h => by have := hv h; omega)
theorem up_l (a : Nat) (ha : a < 2 ^ 64) (N : Nat) (h1 : 0 < N) (h2 : N < 2 ^ 53) (b : Nat) (hb : b = a % 9223372036854775808) (hx : b < 9218868437227405312) (z : Int) (hz : fl N z = b) (hzl : -1074 ≤ z) (hv : z + N.log2 ≤ 1023) (d : Nat) : ∀ (q : Int), d ≤ 2000 → -1074 ≤ q → q + d = z →
    Ev (fun k => spec_FloatOf.l0 k (a : Int) (fl N q) (d : Int)) a := by
  induction d with
  | zero =>
    intro q _ _ hq
    refine Ev.step (fun k => by rw [spec_FloatOf.l0, if_neg (by omega)]) ?_
    exact down_l a ha N h2 b hb hx z hz hzl 0 q (by omega) (by omega) (fun _ => by omega)
  | succ d ih =>
    intro q hd hl hq
    have e : fok .mul (fl N q) 4611686018427387904 = true ∧ fval .mul (fl N q) 4611686018427387904 = fl N (q + 1) := by
      have := mul_pow N q 4611686018427387904 (-51) h1 h2 hl (by omega) read_two (by omega)
      rw [show q + -51 + 52 = q + 1 by omega] at this
      exact fl_ok this
    refine Ev.step (fun k => by rw [spec_FloatOf.l0, if_pos (by omega), if_pos e.1, e.2, show wrap64 (((d + 1 : Nat) : Int) - 1) = (d : Int) by unfold wrap64; omega]) ?_
    exact ih (q + 1) (by omega) (by omega) (by omega)
theorem loop_f (a : Nat) (ha : a < 2 ^ 64) (N : Nat) (h1 : 0 < N) (h2 : N < 2 ^ 53) (b : Nat) (hb : b = a % 9223372036854775808) (hx : b < 9218868437227405312) (z : Int) (hz : fl N z = b) (hzl : -1074 ≤ z) (hv : z + N.log2 ≤ 1023) (m q : Int) (hm : -2000 ≤ m ∧ m ≤ 2000) (hq : q + m = z) (hql : -1074 ≤ q) (hqv : q + N.log2 ≤ 1023) :
    Ev (fun k => spec_FloatOf.j0 k (a : Int) (fl N q) m) a := by
  refine Ev.step (fun k => by rw [spec_FloatOf.j0]) ?_
  by_cases h : 0 ≤ m
  · obtain ⟨d, rfl⟩ : ∃ d : Nat, m = d := ⟨m.toNat, by omega⟩
    exact up_l a ha N h1 h2 b hb hx z hz hzl hv d q (by omega) hql hq
  · obtain ⟨d, rfl⟩ : ∃ d : Nat, m = -(d : Int) := ⟨(-m).toNat, by omega⟩
    refine Ev.step (fun k => by rw [spec_FloatOf.l0, if_neg (by omega)]) ?_
    exact down_l a ha N h2 b hb hx z hz hzl d q (by omega) (by omega) (fun _ => hqv)
theorem spec_FloatOf_f (a : Nat) (ha : a < 2 ^ 64) (hn : nanB a = false) : Ev (fun k => spec_FloatOf.f k (a : Int)) a := by
  have hn2 : ((a : Int) % 9223372036854775808) ≤ 9218868437227405312 := by
    unfold nanB at hn
    have := of_decide_eq_false hn
    omega
  unfold spec_FloatOf.f
  have m1 : Go.bits .and .u64 (a : Int) 4503599627370495 = ((a % 4503599627370496 : Nat) : Int) := by
    have := maskU (a : Int) 52 (by omega) (by omega) (by omega)
    rw [show ((2 : Int) ^ 52 - 1) = 4503599627370495 by decide] at this
    rw [this]
    omega
  have m2 : Go.bits .and .u64 ((a : Int) / 4503599627370496) 2047 = ((a / 4503599627370496 % 2048 : Nat) : Int) := by
    have := maskU ((a : Int) / 4503599627370496) 11 (by omega) (by omega) (by omega)
    rw [show ((2 : Int) ^ 11 - 1) = 2047 by decide] at this
    rw [this]
    omega
  rw [m1, m2]
  obtain ⟨F, hF⟩ : ∃ F, F = a % 4503599627370496 := ⟨_, rfl⟩
  obtain ⟨E, hE⟩ : ∃ E, E = a / 4503599627370496 % 2048 := ⟨_, rfl⟩
  rw [← hF, ← hE]
  have hb : E * 4503599627370496 + F = a % 9223372036854775808 := by omega
  have hFl : F < 4503599627370496 := by omega
  have w1 : wrap64 ((E : Nat) : Int) = (E : Int) := by unfold wrap64; omega
  have q1 : fok .quo (fofi ((F : Nat) : Int)) 4841369599423283200 = true ∧ fval .quo (fofi ((F : Nat) : Int)) 4841369599423283200 = fl F (-52) := by
    rw [fofi_fl]
    by_cases h0 : F = 0
    · rw [h0, fl_zero, fl_zero]
      exact fl_ok (quo_zero _ _ read_wide)
    · have hlog : F.log2 < 52 := (Nat.log2_lt (by omega)).2 hFl
      have := quo_pow F 0 4841369599423283200 0 (by omega) (by omega) (by omega) (by omega) read_wide (by omega)
      exact fl_ok this
  refine ev_pos q1.1 ?_
  rw [w1, q1.2]
  by_cases hinf : (E : Int) = 2047
  · refine ev_pos hinf ?_
    refine ev_pos (by omega) ?_
    have hd : fok .quo 4607182418800017408 0 = true ∧ fval .quo 4607182418800017408 0 = 9218868437227405312 := fl_ok (show floatBits .quo .f64 4607182418800017408 0 = some 9218868437227405312 from by
      show double.div 4607182418800017408 0 = some 9218868437227405312
      unfold Format.div
      rw [read_zero, read_one]
      rfl)
    refine ev_pos hd.1 ?_
    rw [hd.2, sign_f a ha 9218868437227405312 (by omega) 0 (by omega)]
    exact Ev.now _
  · refine ev_neg hinf ?_
    by_cases h0 : (E : Int) = 0
    · refine ev_pos h0 ?_
      by_cases hz : F = 0
      · refine Ev.step (fun k => by rw [spec_FloatOf.j0]) ?_
        refine Ev.step (fun k => by rw [spec_FloatOf.l0, if_neg (by omega)]) ?_
        exact down_l a ha F (by omega) (a % 9223372036854775808) rfl (by omega) (-1074) (by rw [hz, fl_zero]; omega) (by omega) 1022 (-52) (by omega) (by omega) (fun h => by omega)
      · have hlog : F.log2 < 52 := (Nat.log2_lt (by omega)).2 hFl
        have eta := fl_eta F (by omega) (by omega)
        rw [show mg F = F from if_pos hFl, show pl F = -1074 from if_pos hFl] at eta
        exact loop_f a ha F (by omega) (by omega) (a % 9223372036854775808) rfl (by omega) (-1074) (by rw [eta]; omega) (by omega) (by omega) (-1022) (-52) (by omega) (by omega) (by omega) (by omega)
    · refine ev_neg h0 ?_
      have add : fok .add (fl F (-52)) 4607182418800017408 = true ∧ fval .add (fl F (-52)) 4607182418800017408 = fl (4503599627370496 + F) (-52) := by
        by_cases hz : F = 0
        · rw [hz, fl_zero, Nat.add_zero, fl_one]
          exact fl_ok one_of_zero
        · exact fl_ok (add_one F (by omega) hFl)
      refine ev_pos add.1 ?_
      rw [add.2, show wrap64 ((E : Int) - 1023) = (E : Int) - 1023 by unfold wrap64; omega]
      have hlog : (4503599627370496 + F).log2 = 52 := (Nat.log2_eq_iff (by omega)).2 (by constructor <;> omega)
      have eta := fl_eta (E * 4503599627370496 + F) (by omega) (by omega)
      rw [show mg (E * 4503599627370496 + F) = 4503599627370496 + F from by unfold mg; rw [if_neg (by omega)]; omega, show pl (E * 4503599627370496 + F) = (E : Int) - 1075 from by unfold pl; rw [if_neg (by omega)]; omega] at eta
      exact loop_f a ha (4503599627370496 + F) (by omega) (by omega) (a % 9223372036854775808) rfl (by omega) ((E : Int) - 1075) (by rw [eta, hb]) (by omega) (by rw [hlog]; omega) ((E : Int) - 1023) (-52) (by omega) (by omega) (by omega) (by rw [hlog]; omega)
theorem nanC_of (a : Nat) (ha : a < 2 ^ 64) (hn : isn a = true) : spec_FloatOf.nanC (a : Int) := by
  have hn2 : 9218868437227405312 < a % 9223372036854775808 := of_decide_eq_true hn
  have m1 : Go.bits .and .u64 (a : Int) 4503599627370495 = ((a % 4503599627370496 : Nat) : Int) := by
    have := maskU (a : Int) 52 (by omega) (by omega) (by omega)
    rw [show ((2 : Int) ^ 52 - 1) = 4503599627370495 by decide] at this
    rw [this]
    omega
  have m2 : Go.bits .and .u64 ((a : Int) / 4503599627370496) 2047 = ((a / 4503599627370496 % 2048 : Nat) : Int) := by
    have := maskU ((a : Int) / 4503599627370496) 11 (by omega) (by omega) (by omega)
    rw [show ((2 : Int) ^ 11 - 1) = 2047 by decide] at this
    rw [this]
    omega
  unfold spec_FloatOf.nanC
  rw [m1, m2]
  have hF0 : 0 < a % 4503599627370496 := by omega
  have hE : a / 4503599627370496 % 2048 = 2047 := by omega
  have hFl : a % 4503599627370496 < 4503599627370496 := by omega
  generalize a % 4503599627370496 = F at *
  refine ⟨?_, ?_, ?_, ?_⟩
  · rw [fofi_fl]
    have hlog : F.log2 < 52 := (Nat.log2_lt (by omega)).2 hFl
    have t := quo_pow F 0 4841369599423283200 0 (by omega) (by omega) (by omega) (by omega) read_wide (by omega)
    exact (fl_ok (o := .quo) (a := fl F 0) (b := 4841369599423283200) t).1
  · rw [hE]
    unfold wrap64
    omega
  · omega
  · show (floatBits .quo .f64 0 0).isSome = false
    have : floatBits .quo .f64 0 0 = none := by
      show double.div 0 0 = none
      unfold Format.div
      rw [read_zero]
      rfl
    rw [this]
    rfl
theorem nanC_none (a : Int) (h : spec_FloatOf.nanC a) (k : Nat) : spec_FloatOf.f k a = none := by
  obtain ⟨h1, h2, h3, h4⟩ := h
  unfold spec_FloatOf.f
  rw [if_pos h1, if_pos h2, if_neg h3, if_neg (by rw [h4]; decide)]
theorem nanB_isn (a : Nat) : nanB (a : Int) = isn a := by
  unfold nanB isn
  exact decide_eq_decide.2 (by omega)
/-- the bits that FloatUnrank hands to FloatOf -/
def spec_FloatUnrank.b (a0 : Int) : Int := if a0 = 18446744073709551615 then 9221120237041090560 else if a0 / 9223372036854775808 = 1 then Go.bits .and .u64 a0 9223372036854775807 else Go.bits .xor .u64 IntKind.u64.max a0
/-- the bits whose rank n would be -/
def bU (n : Nat) : Nat := if n = 18446744073709551615 then 9221120237041090560 else if n / 9223372036854775808 = 1 then n - 9223372036854775808 else 18446744073709551615 - n
theorem bU_lt (n : Nat) (h : n < 2 ^ 64) : bU n < 2 ^ 64 := by
  unfold bU
  split
  · omega
  · split <;> omega
theorem b_eq (n : Nat) (h : n < 2 ^ 64) : spec_FloatUnrank.b (n : Int) = (bU n : Int) := by
  unfold spec_FloatUnrank.b bU
  by_cases h1 : n = 18446744073709551615
  · rw [if_pos h1, if_pos (by omega)]
    rfl
  · rw [if_neg h1, if_neg (by omega)]
    by_cases h2 : n / 9223372036854775808 = 1
    · rw [if_pos h2, if_pos (by omega)]
      have := maskU (n : Int) 63 (by omega) (by omega) (by omega)
      rw [show ((2 : Int) ^ 63 - 1) = 9223372036854775807 by decide] at this
      rw [this]
      omega
    · rw [if_neg h2, if_neg (by omega), u64_not n h]
      omega
theorem spec_FloatUnrank_b (n : Int) (k : Nat) : spec_FloatUnrank.f k n = spec_FloatUnrank.j0 k n (spec_FloatUnrank.b n) := by
  unfold spec_FloatUnrank.f spec_FloatUnrank.b
  split
  · rfl
  · split <;> rfl
/-- what both answer where the bits stand for a number -/
def unrank (n : Nat) : Nat × Bool := if rankOf (bU n) = (n : Int) then (bU n, true) else (0, false)
theorem impl_bits (n : Nat) (h : n < 2 ^ 64) (h1 : n ≠ 18446744073709551615) (k : Nat) : impl_FloatUnrank.f k (n : Int) = impl_FloatUnrank.j0 k (n : Int) (bU n : Int) := by
  unfold impl_FloatUnrank.f bU
  rw [if_neg h1]
  by_cases h2 : n / 9223372036854775808 = 1
  · have e : Go.bits .andNot .u64 (n : Int) 9223372036854775808 = ((n - 9223372036854775808 : Nat) : Int) := by
      have := u64_andNot_nat n 9223372036854775808 (by omega) (by omega)
      rw [show 18446744073709551615 - 9223372036854775808 = 2 ^ 63 - 1 by omega, Nat.and_two_pow_sub_one_eq_mod] at this
      rw [show (9223372036854775808 : Int) = ((9223372036854775808 : Nat) : Int) by omega, this]
      omega
    rw [if_pos h2, if_neg (by omega), e]
  · have e : Go.bits .xor .u64 IntKind.u64.max (n : Int) = ((18446744073709551615 - n : Nat) : Int) := by
      rw [u64_not n h]
      omega
    rw [if_neg h2, if_pos (by omega), e]
theorem impl_FloatUnrank_f (n : Nat) (h : n < 2 ^ 64) (h1 : n ≠ 18446744073709551615) (k : Nat) : impl_FloatUnrank.f (k + 1) (n : Int) = some (if isn (bU n) then (0, false) else unrank n) := by
  rw [impl_bits n h h1, impl_FloatUnrank.j0, if_neg (by omega), Int.toNat_natCast, feq_self _ (bU_lt n h)]
  cases hn : isn (bU n) with
  | true => rfl
  | false =>
    rw [if_pos (show (!false) = true from rfl), impl_FloatRank_f _ (bU_lt n h)]
    unfold unrank
    show (if rankOf (bU n) = (n : Int) then some (bU n, true) else some (0, false)) = _
    rw [if_neg Bool.false_ne_true]
    split <;> rfl
theorem impl_FloatUnrank_max (k : Nat) : impl_FloatUnrank.f (k + 1) ((18446744073709551615 : Nat) : Int) = some (9221120237041090561, true) := by
  unfold impl_FloatUnrank.f
  rw [if_neg (by omega), impl_FloatUnrank.j0, if_pos (by omega)]
  rfl
/-- the number that bytes are, high first, on a number that is there -/
def lowN : List Int → Int → Int
  | [], x => x
  | c :: l, x => lowN l (Go.bits .or .u64 (IntKind.u64.wrap (x * 256)) (IntKind.u64.wrap c))
theorem u64_in (n : Int) : 0 ≤ IntKind.u64.wrap n ∧ IntKind.u64.wrap n < 18446744073709551616 := by
  have h : IntKind.u64.wrap n = n % 18446744073709551616 := by simp [IntKind.wrap, IntKind.bits, IntKind.signed]
  rw [h]
  omega
theorem lowN_in (l : List Int) : ∀ x, 0 ≤ x ∧ x < 18446744073709551616 → 0 ≤ lowN l x ∧ lowN l x < 18446744073709551616 := by
  induction l with
  | nil => intro x h; exact h
  | cons c l ih => intro x _; exact ih _ (u64_in _)
theorem drop_cons_rd (l : List Int) (i : Nat) (h : i < l.length) : l.drop i = rd l (i : Int) :: l.drop (i + 1) := by
  rw [rd_nat l i h]
  exact List.drop_eq_getElem_cons h
theorem l3low_l (l : List Int) (hl : l.length ≤ 1048576) (d : Nat) : ∀ (i : Nat) (x : Int), i + d = l.length → Ev (fun k => spec_l3low.l0 k l x (i : Int)) (lowN (l.drop i) x) := by
  induction d with
  | zero =>
    intro i x hi
    rw [List.drop_of_length_le (by omega)]
    exact Ev.step (fun k => by rw [spec_l3low.l0, if_neg (by omega)]; rfl) (Ev.now _)
  | succ d ih =>
    intro i x hi
    rw [drop_cons_rd l i (by omega)]
    refine Ev.step (fun k => by rw [spec_l3low.l0, if_pos (by omega), if_pos (by omega), w64 (by omega) (by omega)]) ?_
    exact ih (i + 1) _ (by omega)
theorem l3low_f (l : List Int) (hl : l.length ≤ 1048576) : Ev (fun k => spec_l3low.f k l) (lowN l 0) := l3low_l l hl l.length 0 0 (by omega)
theorem fromHigh_l (l : List Int) (hl : l.length ≤ 1048576) (d : Nat) : ∀ (i : Nat) (x : Int), i + d = l.length → Ev (fun k => impl_fromHigh.l0 k x l (l.length : Int) (i : Int)) (lowN (l.drop i) x) := by
  induction d with
  | zero =>
    intro i x hi
    rw [List.drop_of_length_le (by omega)]
    exact Ev.step (fun k => by rw [impl_fromHigh.l0, if_neg (by omega)]; rfl) (Ev.now _)
  | succ d ih =>
    intro i x hi
    rw [drop_cons_rd l i (by omega)]
    refine Ev.step (fun k => by rw [impl_fromHigh.l0, if_pos (by omega), if_pos (by omega), if_pos (by omega), w64 (by omega) (by omega)]) ?_
    exact ih (i + 1) _ (by omega)
theorem fromHigh_f (l : List Int) (hl : l.length ≤ 1048576) : Ev (fun k => impl_fromHigh.f k l) (lowN l 0) := fromHigh_l l hl l.length 0 0 (by omega)
theorem turn_xor (x : Int) (h0 : 0 ≤ x) (h1 : x < 18446744073709551616) : Go.bits .xor .u64 x 9223372036854775808 = subSign x := by
  have h := turn_spec x
  rw [wrap_u64 h0 h1] at h
  rw [h]
  unfold turned subSign
  rw [wrap_mod]
  omega
theorem str_length (l : List Int) : (strOfNums l).toList.length = l.length := by
  rw [Lib.strOfNums_toList]
  simp [Lib.bytesOf]
theorem str_ne {a b : List Int} (h : a.length ≠ b.length) : ¬ (strOfNums a).toList = (strOfNums b).toList := fun e => h (by rw [← str_length a, ← str_length b, e])
theorem FloatOf_c (n : Int) (h0 : 0 ≤ n) (h1 : n < 18446744073709551616) : Ev (fun k => spec_FloatOf.c k n) (cn n.toNat) := by
  obtain ⟨a, rfl⟩ := Int.eq_ofNat_of_zero_le h0
  rw [Int.toNat_natCast]
  have ha : a < 2 ^ 64 := by omega
  unfold spec_FloatOf.c
  by_cases hn : nanw a
  · rw [cn_nan hn]
    exact ev_pos (nanC_of a ha hn.2) (Ev.now _)
  · rw [cn_num hn]
    have hf : isn a = false := by
      cases h : isn a with
      | true => exact absurd ⟨ha, h⟩ hn
      | false => rfl
    have e := spec_FloatOf_f a ha (by rw [nanB_isn]; exact hf)
    have hc : ¬ spec_FloatOf.nanC (a : Int) := by
      intro h
      obtain ⟨k2, hk2⟩ := Ev.rounds e
      rw [nanC_none _ h] at hk2
      cases hk2
    refine ev_neg hc (Ev.bind e ?_)
    exact ev_pos ⟨hn, ha⟩ (Ev.now _)
theorem cn_none : cn 0 = 0 := cn_num (fun h => absurd h.2 (by decide))
theorem rank_cn (b : Nat) (hb : b < 2 ^ 64) : rankOf (cn b) = rankOf b := by
  by_cases hn : nanw b
  · rw [cn_nan hn]
    unfold rankOf
    rw [hn.2, show isn 9221120237041090560 = true by decide, if_pos rfl, if_pos rfl]
  · rw [cn_num hn]
theorem keyBytesOf_cn (kd n : Int) (b : Nat) (hb : b < 2 ^ 64) (t : List Int) : keyBytesOf kd n (cn b) t = keyBytesOf kd n b t := by
  have hr := rank_cn b hb
  by_cases hn : nanw b
  · rw [cn_nan hn] at hr ⊢
    have h1 : keyOkP kd n 9221120237041090560 t = keyOkP kd n b t := by
      unfold keyOkP itemOkP
      have h0 : b ≠ 0 := by
        rintro rfl
        exact absurd hn.2 (by decide)
      have h2 : b ≠ 9223372036854775808 := by
        rintro rfl
        exact absurd hn.2 (by decide)
      simp [h0, h2]
    unfold keyBytesOf
    rw [h1, hr]
  · rw [cn_num hn]
/-- what FloatUnrank answers -/
def unr (n : Nat) : Nat × Bool := if n = 18446744073709551615 then (9221120237041090561, true) else if isn (bU n) then (0, false) else unrank n
theorem unr_lt (n : Nat) (h : n < 2 ^ 64) : (unr n).1 < 2 ^ 64 := by
  have := bU_lt n h
  unfold unr unrank
  repeat' split
  all_goals first | exact this | decide
theorem spec_Unrank_f (n : Nat) (h : n < 2 ^ 64) : Ev (fun k => spec_FloatUnrank.f k (n : Int)) (cn (unr n).1, (unr n).2) := by
  have hb := bU_lt n h
  refine Ev.congr (fun k => by rw [spec_FloatUnrank_b, b_eq n h]) ?_
  refine Ev.step (fun k => by rw [spec_FloatUnrank.j0]) ?_
  refine Ev.bind (FloatOf_c (bU n : Int) (by omega) (by omega)) ?_
  rw [Int.toNat_natCast]
  refine Ev.bind (spec_FloatRank_f (cn (bU n)) (cn_lt hb)) ?_
  rw [rank_cn _ hb]
  have key : (if rankOf (bU n) = (n : Int) then ((cn (bU n), true) : Nat × Bool) else (0, false)) = (cn (unr n).1, (unr n).2) := by
    unfold unr unrank
    by_cases h1 : n = 18446744073709551615
    · subst h1
      decide
    · rw [if_neg h1]
      cases hn : isn (bU n) with
      | true =>
        have hr : rankOf (bU n) = 18446744073709551615 := by unfold rankOf; rw [if_pos hn]
        rw [if_neg (by omega), if_pos rfl, cn_none]
      | false =>
        rw [if_neg Bool.false_ne_true]
        split
        · rfl
        · rw [cn_none]
  rw [← key]
  by_cases hc : rankOf (bU n) = (n : Int)
  · rw [if_pos hc, if_pos hc]
    exact Ev.now _
  · rw [if_neg hc, if_neg hc]
    exact Ev.now _
theorem KeyRead_1_f (n : Nat) (h : n < 2 ^ 64) : Ev (fun k => impl_KeyRead_1.f k (n : Int)) (unr n).1 := by
  unfold impl_KeyRead_1.f
  refine Ev.bind (a := unr n) ?_ (Ev.now _)
  unfold unr
  by_cases h1 : n = 18446744073709551615
  · subst h1
    rw [if_pos rfl]
    exact Ev.step (fun k => impl_FloatUnrank_max k) (Ev.now _)
  · rw [if_neg h1]
    exact Ev.step (fun k => impl_FloatUnrank_f n h h1 k) (Ev.now _)
/-- the number and the float that bytes are -/
def numOf (l : List Int) : Int := wrap64 (subSign (lowN (l.drop 1) 0))
def fltOf (l : List Int) : Nat := (unr (lowN (l.drop 1) 0).toNat).1
def zItem : Int × Int × Nat × List Int × Bool := (0, 0, 0, [], false)
/-- the item with some bytes, if it has just these -/
def readOf (l : List Int) (kd n : Int) (b : Nat) (t : List Int) : Int × Int × Nat × List Int × Bool := if (strOfNums (keyBytesOf kd n b t)).toList = (strOfNums l).toList then (kd, n, b, t, true) else zItem
/-- the value with some bytes -/
def vrOf (l : List Int) : Int × Int × Nat × List Int × Bool :=
  if l.length = 0 ∨ 41 < l.length then zItem
  else if rd l 0 = 3 then readOf l 3 0 0 (l.drop 1)
  else if l.length ≠ 9 then zItem
  else if rd l 0 = 1 then readOf l 1 (numOf l) 0 []
  else if rd l 0 = 2 then readOf l 2 0 (fltOf l) []
  else zItem
/-- as it is told: with one word of no number -/
def tell (r : Int × Int × Nat × List Int × Bool) : Int × Int × Nat × List Int × Bool := (r.1, r.2.1, cn r.2.2.1, r.2.2.2.1, r.2.2.2.2)
theorem fltOf_lt (l : List Int) : fltOf l < 2 ^ 64 := by
  have := lowN_in (l.drop 1) 0 (by omega)
  exact unr_lt _ (by omega)
theorem spec_KeyRead_f (l : List Int) (hb : IsBytes l) (hl : l.length ≤ 1048576) : Ev (fun k => spec_KeyRead.f k l) (tell (vrOf l)) := by
  have hz : tell zItem = zItem := by unfold tell zItem; rw [cn_none]
  unfold spec_KeyRead.f
  by_cases h0 : l.length = 0
  · have : vrOf l = zItem := by unfold vrOf; rw [if_pos (Or.inl h0)]
    rw [this, hz]
    exact ev_pos (by omega) (Ev.step (fun k => by rw [spec_KeyRead.j0, if_pos rfl]; rfl) (Ev.now _))
  refine ev_neg (by omega) ?_
  by_cases h41 : 41 < l.length
  · have : vrOf l = zItem := by unfold vrOf; rw [if_pos (Or.inr h41)]
    rw [this, hz, decide_eq_true (show (l.length : Int) > 41 by omega)]
    exact Ev.step (fun k => by rw [spec_KeyRead.j0, if_pos rfl]; rfl) (Ev.now _)
  rw [decide_eq_false (show ¬ (l.length : Int) > 41 by omega)]
  have hk := rd_byte hb 0
  have hw : wrap64 (rd l 0) = rd l 0 := w64 (by omega) (by omega)
  have hd : (l.drop 1).length = l.length - 1 := List.length_drop
  have hx := lowN_in (l.drop 1) 0 (by omega)
  refine Ev.step (fun k => by rw [spec_KeyRead.j0, if_neg Bool.false_ne_true, if_pos (by omega), hw]) ?_
  have fin : ∀ (kd n : Int) (b : Nat) (t : List Int), b < 2 ^ 64 → ∀ R, R = readOf l kd n b t → Ev (fun k => if (strOfNums (keyBytesOf kd n b t)).toList = (strOfNums l).toList then some (kd, n, cn b, t, true) else some (0, 0, 0, ([] : List Int), false)) (tell R) := by
    intro kd n b t _ R hR
    subst hR
    unfold readOf
    by_cases he : (strOfNums (keyBytesOf kd n b t)).toList = (strOfNums l).toList
    · rw [if_pos he, if_pos he]
      exact Ev.now _
    · rw [if_neg he, if_neg he, hz]
      exact Ev.now _
  have long : ∀ (kd n : Int) (b : Nat), (l.length ≠ 9 ∨ ¬ (kd = 1 ∨ kd = 2)) → (kd ≠ 3) → ¬ (strOfNums (keyBytesOf kd n b [])).toList = (strOfNums l).toList := by
    intro kd n b hkd h3
    refine str_ne ?_
    unfold keyBytesOf
    split
    · rename_i hq
      have h1 := hq
      simp only [keyOkP, itemOkP, Bool.and_eq_true, decide_eq_true_eq] at h1
      rcases hkd with h9 | hk2
      · unfold itemBytesOf
        by_cases hk1 : kd = 1
        · rw [if_pos hk1, List.length_cons, hi_length]; omega
        · rw [if_neg hk1]
          by_cases hk2 : kd = 2
          · rw [if_pos hk2, List.length_cons, hi_length]; omega
          · omega
      · omega
    · rw [List.length_nil]; omega
  by_cases k1 : rd l 0 = 1
  · refine ev_pos k1 (ev_pos (by omega) (Ev.bind (l3low_f _ (by omega)) ?_))
    rw [turn_xor _ hx.1 hx.2, k1]
    refine Ev.bind (spec_KeyBytes_f 1 (numOf l) 0 [] (by decide) (by simp)) ?_
    by_cases h9 : l.length = 9
    · have hv : vrOf l = readOf l 1 (numOf l) 0 [] := by unfold vrOf; rw [if_neg (by omega), if_neg (by omega), if_neg (by omega), if_pos k1]
      have := fin 1 (numOf l) 0 [] (by decide) _ hv
      rw [cn_none] at this
      exact this
    · have hv : vrOf l = zItem := by unfold vrOf; rw [if_neg (by omega), if_neg (by omega), if_pos h9]
      rw [hv, hz]
      exact ev_neg (long 1 (numOf l) 0 (Or.inl h9) (by omega)) (Ev.now _)
  refine ev_neg k1 ?_
  by_cases k2 : rd l 0 = 2
  · refine ev_pos k2 (ev_pos (by omega) (Ev.bind (l3low_f _ (by omega)) ?_))
    obtain ⟨m, em⟩ := Int.eq_ofNat_of_zero_le hx.1
    have hm : fltOf l = (unr m).1 := by unfold fltOf; rw [em, Int.toNat_natCast]
    rw [em]
    refine Ev.bind (spec_Unrank_f m (by omega)) ?_
    rw [k2, ← hm]
    have hf := fltOf_lt l
    refine Ev.bind (spec_KeyBytes_f 2 0 (cn (fltOf l)) [] (cn_lt hf) (by simp)) ?_
    rw [keyBytesOf_cn 2 0 (fltOf l) hf]
    by_cases h9 : l.length = 9
    · have hv : vrOf l = readOf l 2 0 (fltOf l) [] := by unfold vrOf; rw [if_neg (by omega), if_neg (by omega), if_neg (by omega), if_neg k1, if_pos k2]
      exact fin 2 0 (fltOf l) [] hf _ hv
    · have hv : vrOf l = zItem := by unfold vrOf; rw [if_neg (by omega), if_neg (by omega), if_pos h9]
      rw [hv, hz]
      exact ev_neg (long 2 0 (fltOf l) (Or.inl h9) (by omega)) (Ev.now _)
  refine ev_neg k2 ?_
  by_cases k3 : rd l 0 = 3
  · refine ev_pos k3 (ev_bind0 rfl (ev_pos (by omega) (ev_pos (by rw [List.length_nil]; omega) (ev_bind0 rfl ?_))))
    rw [k3, List.nil_append]
    refine Ev.bind (spec_KeyBytes_f 3 0 0 (l.drop 1) (by decide) (by omega)) ?_
    have hv : vrOf l = readOf l 3 0 0 (l.drop 1) := by unfold vrOf; rw [if_neg (by omega), if_pos k3]
    have := fin 3 0 0 (l.drop 1) (by decide) _ hv
    rw [cn_none] at this
    exact this
  · refine ev_neg k3 (Ev.bind (spec_KeyBytes_f (rd l 0) 0 0 [] (by decide) (by simp)) ?_)
    have hv : vrOf l = zItem := by
      unfold vrOf
      rw [if_neg (by omega), if_neg k3]
      by_cases h9 : l.length = 9
      · rw [if_neg (by omega), if_neg k1, if_neg k2]
      · rw [if_pos h9]
    rw [hv, hz]
    exact ev_neg (long (rd l 0) 0 0 (Or.inr (by omega)) k3) (Ev.now _)
theorem impl_KeyRead_f (l : List Int) (hb : IsBytes l) (hl : l.length ≤ 1048576) : Ev (fun k => impl_KeyRead.f k l) (vrOf l) := by
  unfold impl_KeyRead.f
  have hk := rd_byte hb 0
  have hw : wrap64 (rd l 0) = rd l 0 := w64 (by omega) (by omega)
  have hd : (l.drop 1).length = l.length - 1 := List.length_drop
  have hx := lowN_in (l.drop 1) 0 (by omega)
  have none_ : Ev (fun k => (impl_KeyOk.f 0 0 0 []).bind fun t223 => (if t223 = true then ((impl_KeyBytes.f k 0 0 0 []).bind fun t224 => ((bytes_Equal.f t224 l).bind fun t227 => (if t227 = true then (some ((0 : Int), (0 : Int), (0 : Nat), ([] : List Int), true)) else (some zItem)))) else (some zItem))) zItem := by
    refine ev_bind0 (impl_KeyOk_f 0 0 0 [] (by decide)) (ev_neg (by decide) (Ev.now _))
  have some_ : ∀ (kd n : Int) (b : Nat) (t : List Int), b < 2 ^ 64 → t.length ≤ 1048576 → (keyOkP kd n b t = false → readOf l kd n b t = zItem) → Ev (fun k => (impl_KeyOk.f kd n b t).bind fun t223 => (if t223 = true then ((impl_KeyBytes.f k kd n b t).bind fun t224 => ((bytes_Equal.f t224 l).bind fun t227 => (if t227 = true then (some (kd, n, b, t, true)) else (some (0, 0, 0, ([] : List Int), false))))) else (some (0, 0, 0, ([] : List Int), false)))) (readOf l kd n b t) := by
    intro kd n b t hb2 ht hbad
    refine ev_bind0 (impl_KeyOk_f kd n b t hb2) ?_
    cases hq : keyOkP kd n b t with
    | false => rw [hbad hq]; exact ev_neg Bool.false_ne_true (Ev.now _)
    | true =>
      refine ev_pos rfl (Ev.bind (impl_KeyBytes_f kd n b t hb2 ht) (ev_bind0 rfl ?_))
      unfold readOf
      by_cases he : (strOfNums (keyBytesOf kd n b t)).toList = (strOfNums l).toList
      · rw [if_pos he]
        exact ev_pos (beq_iff_eq.mpr he) (Ev.now _)
      · rw [if_neg he]
        exact ev_neg (fun h => he (beq_iff_eq.mp h)) (Ev.now _)
  have empty : ∀ (kd n : Int) (b : Nat) (t : List Int), l.length ≠ 0 → keyOkP kd n b t = false → readOf l kd n b t = zItem := by
    intro kd n b t h0 hq
    unfold readOf
    rw [if_neg (str_ne ?_)]
    unfold keyBytesOf
    rw [hq, if_neg Bool.false_ne_true, List.length_nil]
    omega
  by_cases h0 : l.length = 0
  · have : vrOf l = zItem := by unfold vrOf; rw [if_pos (Or.inl h0)]
    rw [this]
    refine Ev.bind (r := zItem) (show Ev (fun k => impl_readItem.f k l) (0, 0, 0, []) from ?_) none_
    unfold impl_readItem.f
    exact ev_pos (by omega) (Ev.now _)
  have hv0 : ¬ l.length = 0 := h0
  by_cases k3 : rd l 0 = 3
  · refine Ev.bind (show Ev (fun k => impl_readItem.f k l) (3, 0, 0, l.drop 1) from ?_) ?_
    · unfold impl_readItem.f
      refine ev_neg (by omega) (ev_pos (by omega) (ev_pos (by omega) ?_))
      rw [hw]
      refine ev_pos k3 (ev_bind0 (cloneByte_f _ (by omega)) ?_)
      rw [k3]
      exact Ev.now _
    · have hv : vrOf l = readOf l 3 0 0 (l.drop 1) := by
        unfold vrOf
        by_cases h41 : 41 < l.length
        · rw [if_pos (Or.inr h41), empty 3 0 0 (l.drop 1) h0]
          simp [keyOkP, itemOkP]
          omega
        · rw [if_neg (by omega), if_pos k3]
      rw [hv]
      exact some_ 3 0 0 (l.drop 1) (by decide) (by omega) (empty 3 0 0 (l.drop 1) h0)
  by_cases h9 : l.length = 9
  · by_cases k1 : rd l 0 = 1
    · refine Ev.bind (show Ev (fun k => impl_readItem.f k l) (1, numOf l, 0, []) from ?_) ?_
      · unfold impl_readItem.f
        refine ev_neg (by omega) (ev_pos (by omega) (ev_pos (by omega) ?_))
        rw [hw]
        refine ev_neg k3 (ev_pos (by omega) (ev_pos k1 (Ev.bind (fromHigh_f _ (by omega)) ?_)))
        rw [k1]
        exact Ev.now _
      · have hv : vrOf l = readOf l 1 (numOf l) 0 [] := by unfold vrOf; rw [if_neg (by omega), if_neg k3, if_neg (by omega), if_pos k1]
        rw [hv]
        exact some_ 1 (numOf l) 0 [] (by decide) (by simp) (empty 1 (numOf l) 0 [] h0)
    by_cases k2 : rd l 0 = 2
    · refine Ev.bind (show Ev (fun k => impl_readItem.f k l) (2, 0, fltOf l, []) from ?_) ?_
      · unfold impl_readItem.f
        refine ev_neg (by omega) (ev_pos (by omega) (ev_pos (by omega) ?_))
        rw [hw]
        refine ev_neg k3 (ev_pos (by omega) (ev_neg k1 (ev_pos k2 (Ev.bind (fromHigh_f _ (by omega)) ?_))))
        obtain ⟨m, em⟩ := Int.eq_ofNat_of_zero_le hx.1
        have hm : fltOf l = (unr m).1 := by unfold fltOf; rw [em, Int.toNat_natCast]
        rw [em]
        refine Ev.bind (KeyRead_1_f m (by omega)) ?_
        rw [k2, ← hm]
        exact Ev.now _
      · have hv : vrOf l = readOf l 2 0 (fltOf l) [] := by unfold vrOf; rw [if_neg (by omega), if_neg k3, if_neg (by omega), if_neg k1, if_pos k2]
        rw [hv]
        exact some_ 2 0 (fltOf l) [] (fltOf_lt l) (by simp) (empty 2 0 (fltOf l) [] h0)
    · have hv : vrOf l = zItem := by unfold vrOf; rw [if_neg (by omega), if_neg k3, if_neg (by omega), if_neg k1, if_neg k2]
      refine Ev.bind (show Ev (fun k => impl_readItem.f k l) (rd l 0, 0, 0, []) from ?_) ?_
      · unfold impl_readItem.f
        refine ev_neg (by omega) (ev_pos (by omega) (ev_pos (by omega) ?_))
        rw [hw]
        exact ev_neg k3 (ev_pos (by omega) (ev_neg k1 (ev_neg k2 (Ev.now _))))
      · rw [hv]
        refine ev_bind0 (impl_KeyOk_f (rd l 0) 0 0 [] (by decide)) (ev_neg ?_ (Ev.now _))
        simp [keyOkP, itemOkP]
        omega
  · have hv : vrOf l = zItem := by
      unfold vrOf
      by_cases h41 : l.length = 0 ∨ 41 < l.length
      · rw [if_pos h41]
      · rw [if_neg h41, if_neg k3, if_pos h9]
    rw [hv]
    refine Ev.bind (show Ev (fun k => impl_readItem.f k l) (0, 0, 0, []) from ?_) none_
    unfold impl_readItem.f
    refine ev_neg (by omega) (ev_pos (by omega) (ev_pos (by omega) ?_))
    rw [hw]
    exact ev_neg k3 (ev_neg (by omega) (Ev.now _))
theorem vrOf_small (l : List Int) : (vrOf l).2.2.2.1.length ≤ l.length ∧ (vrOf l).2.2.1 < 2 ^ 64 := by
  have hf := fltOf_lt l
  have hr : ∀ (kd n : Int) (b : Nat) (t : List Int), t.length ≤ l.length → b < 2 ^ 64 → (readOf l kd n b t).2.2.2.1.length ≤ l.length ∧ (readOf l kd n b t).2.2.1 < 2 ^ 64 := by
    intro kd n b t h1 h2
    unfold readOf
    split
    · exact ⟨h1, h2⟩
    · exact ⟨Nat.zero_le _, by decide⟩
  unfold vrOf
  repeat' split
  all_goals first | exact ⟨Nat.zero_le _, by decide⟩ | exact hr _ _ _ _ (by simp) (by decide) | exact hr _ _ _ _ (by simp) hf
theorem same_cn (a b : Nat) (ha : a < 2 ^ 64) (hb : b < 2 ^ 64) (h : cn b = cn a) : SameF a b := by
  by_cases na : nanw a
  · rw [cn_nan na] at h
    by_cases nb : nanw b
    · exact Or.inr ⟨na.2, nb.2⟩
    · rw [cn_num nb] at h
      subst h
      exact absurd nanw_one nb
  · rw [cn_num na] at h
    by_cases nb : nanw b
    · rw [cn_nan nb] at h
      subst h
      exact absurd nanw_one na
    · rw [cn_num nb] at h
      exact Or.inl h.symm
theorem valueBytesOf_cn (kd n : Int) (b : Nat) (hb : b < 2 ^ 64) (t : List Int) : valueBytesOf kd n (cn b) t = valueBytesOf kd n b t := by
  by_cases hn : nanw b
  · rw [cn_nan hn]
    have h1 : itemOkP kd n 9221120237041090560 t = itemOkP kd n b t := by
      unfold itemOkP
      have h0 : b ≠ 0 := by
        rintro rfl
        exact absurd hn.2 (by decide)
      simp [h0]
    unfold valueBytesOf
    rw [h1, hn.2, show isn 9221120237041090560 = true by decide]
    simp
  · rw [cn_num hn]
def flV (l : List Int) : Nat := (lowN (l.drop 1) 0).toNat
/-- the item with some bytes, if it has just these -/
def rdV (l : List Int) (kd n : Int) (b : Nat) (t : List Int) : Int × Int × Nat × List Int × Bool := if (strOfNums (valueBytesOf kd n b t)).toList = (strOfNums l).toList then (kd, n, b, t, true) else zItem
/-- the value with some bytes -/
def vrV (l : List Int) : Int × Int × Nat × List Int × Bool :=
  if l.length = 0 ∨ 41 < l.length then zItem
  else if rd l 0 = 3 then rdV l 3 0 0 (l.drop 1)
  else if l.length ≠ 9 then zItem
  else if rd l 0 = 1 then rdV l 1 (numOf l) 0 []
  else if rd l 0 = 2 then rdV l 2 0 (flV l) []
  else zItem
theorem flV_lt (l : List Int) : flV l < 2 ^ 64 := by
  have := lowN_in (l.drop 1) 0 (by omega)
  unfold flV
  omega
theorem spec_ValueRead_f (l : List Int) (hb : IsBytes l) (hl : l.length ≤ 1048576) : Ev (fun k => spec_ValueRead.f k l) (tell (vrV l)) := by
  have hz : tell zItem = zItem := by unfold tell zItem; rw [cn_none]
  unfold spec_ValueRead.f
  by_cases h0 : l.length = 0
  · have : vrV l = zItem := by unfold vrV; rw [if_pos (Or.inl h0)]
    rw [this, hz]
    exact ev_pos (by omega) (Ev.step (fun k => by rw [spec_ValueRead.j0, if_pos rfl]; rfl) (Ev.now _))
  refine ev_neg (by omega) ?_
  by_cases h41 : 41 < l.length
  · have : vrV l = zItem := by unfold vrV; rw [if_pos (Or.inr h41)]
    rw [this, hz, decide_eq_true (show (l.length : Int) > 41 by omega)]
    exact Ev.step (fun k => by rw [spec_ValueRead.j0, if_pos rfl]; rfl) (Ev.now _)
  rw [decide_eq_false (show ¬ (l.length : Int) > 41 by omega)]
  have hk := rd_byte hb 0
  have hw : wrap64 (rd l 0) = rd l 0 := w64 (by omega) (by omega)
  have hd : (l.drop 1).length = l.length - 1 := List.length_drop
  have hx := lowN_in (l.drop 1) 0 (by omega)
  refine Ev.step (fun k => by rw [spec_ValueRead.j0, if_neg Bool.false_ne_true, if_pos (by omega), hw]) ?_
  have fin : ∀ (kd n : Int) (b : Nat) (t : List Int), b < 2 ^ 64 → ∀ R, R = rdV l kd n b t → Ev (fun k => if (strOfNums (valueBytesOf kd n b t)).toList = (strOfNums l).toList then some (kd, n, cn b, t, true) else some (0, 0, 0, ([] : List Int), false)) (tell R) := by
    intro kd n b t _ R hR
    subst hR
    unfold rdV
    by_cases he : (strOfNums (valueBytesOf kd n b t)).toList = (strOfNums l).toList
    · rw [if_pos he, if_pos he]
      exact Ev.now _
    · rw [if_neg he, if_neg he, hz]
      exact Ev.now _
  have long : ∀ (kd n : Int) (b : Nat), (l.length ≠ 9 ∨ ¬ (kd = 1 ∨ kd = 2)) → (kd ≠ 3) → ¬ (strOfNums (valueBytesOf kd n b [])).toList = (strOfNums l).toList := by
    intro kd n b hkd h3
    refine str_ne ?_
    unfold valueBytesOf
    split
    · rename_i hq
      have h1 := hq.1
      simp only [itemOkP, decide_eq_true_eq] at h1
      rcases hkd with h9 | hk2
      · unfold itemBytesOf
        by_cases hk1 : kd = 1
        · rw [if_pos hk1, List.length_cons, hi_length]; omega
        · rw [if_neg hk1]
          by_cases hk2 : kd = 2
          · rw [if_pos hk2, List.length_cons, hi_length]; omega
          · omega
      · omega
    · rw [List.length_nil]; omega
  by_cases k1 : rd l 0 = 1
  · refine ev_pos k1 (ev_pos (by omega) (Ev.bind (l3low_f _ (by omega)) ?_))
    rw [turn_xor _ hx.1 hx.2, k1]
    refine Ev.bind (spec_ValueBytes_f 1 (numOf l) 0 [] (by decide) (by simp)) ?_
    by_cases h9 : l.length = 9
    · have hv : vrV l = rdV l 1 (numOf l) 0 [] := by unfold vrV; rw [if_neg (by omega), if_neg (by omega), if_neg (by omega), if_pos k1]
      have := fin 1 (numOf l) 0 [] (by decide) _ hv
      rw [cn_none] at this
      exact this
    · have hv : vrV l = zItem := by unfold vrV; rw [if_neg (by omega), if_neg (by omega), if_pos h9]
      rw [hv, hz]
      exact ev_neg (long 1 (numOf l) 0 (Or.inl h9) (by omega)) (Ev.now _)
  refine ev_neg k1 ?_
  by_cases k2 : rd l 0 = 2
  · refine ev_pos k2 (ev_pos (by omega) (Ev.bind (l3low_f _ (by omega)) (Ev.bind (FloatOf_c _ hx.1 hx.2) ?_)))
    rw [k2]
    have hf := flV_lt l
    refine Ev.bind (spec_ValueBytes_f 2 0 (cn (flV l)) [] (cn_lt hf) (by simp)) ?_
    rw [valueBytesOf_cn 2 0 (flV l) hf]
    by_cases h9 : l.length = 9
    · have hv : vrV l = rdV l 2 0 (flV l) [] := by unfold vrV; rw [if_neg (by omega), if_neg (by omega), if_neg (by omega), if_neg k1, if_pos k2]
      exact fin 2 0 (flV l) [] hf _ hv
    · have hv : vrV l = zItem := by unfold vrV; rw [if_neg (by omega), if_neg (by omega), if_pos h9]
      rw [hv, hz]
      exact ev_neg (long 2 0 (flV l) (Or.inl h9) (by omega)) (Ev.now _)
  refine ev_neg k2 ?_
  by_cases k3 : rd l 0 = 3
  · refine ev_pos k3 (ev_bind0 rfl (ev_pos (by omega) (ev_pos (by rw [List.length_nil]; omega) (ev_bind0 rfl ?_))))
    rw [k3, List.nil_append]
    refine Ev.bind (spec_ValueBytes_f 3 0 0 (l.drop 1) (by decide) (by omega)) ?_
    have hv : vrV l = rdV l 3 0 0 (l.drop 1) := by unfold vrV; rw [if_neg (by omega), if_pos k3]
    have := fin 3 0 0 (l.drop 1) (by decide) _ hv
    rw [cn_none] at this
    exact this
  · refine ev_neg k3 (Ev.bind (spec_ValueBytes_f (rd l 0) 0 0 [] (by decide) (by simp)) ?_)
    have hv : vrV l = zItem := by
      unfold vrV
      rw [if_neg (by omega), if_neg k3]
      by_cases h9 : l.length = 9
      · rw [if_neg (by omega), if_neg k1, if_neg k2]
      · rw [if_pos h9]
    rw [hv, hz]
    exact ev_neg (long (rd l 0) 0 0 (Or.inr (by omega)) k3) (Ev.now _)
theorem impl_ValueRead_f (l : List Int) (hb : IsBytes l) (hl : l.length ≤ 1048576) : Ev (fun k => impl_ValueRead.f k l) (vrV l) := by
  unfold impl_ValueRead.f
  have hk := rd_byte hb 0
  have hw : wrap64 (rd l 0) = rd l 0 := w64 (by omega) (by omega)
  have hd : (l.drop 1).length = l.length - 1 := List.length_drop
  have hx := lowN_in (l.drop 1) 0 (by omega)
  have none_ : Ev (fun k => (impl_ItemOk.f 0 0 0 []).bind fun t223 => (if t223 = true then (if (0 : Int) = 0 then (some zItem) else ((impl_ValueBytes.f k 0 0 0 []).bind fun t224 => ((bytes_Equal.f t224 l).bind fun t227 => (if t227 = true then (some ((0 : Int), (0 : Int), (0 : Nat), ([] : List Int), true)) else (some zItem))))) else (some zItem))) zItem := by
    refine ev_bind0 (impl_ItemOk_f 0 0 0 []) (ev_pos (by decide) (ev_pos rfl (Ev.now _)))
  have some_ : ∀ (kd n : Int) (b : Nat) (t : List Int), b < 2 ^ 64 → t.length ≤ 1048576 → kd ≠ 0 → (itemOkP kd n b t = false → rdV l kd n b t = zItem) → Ev (fun k => (impl_ItemOk.f kd n b t).bind fun t223 => (if t223 = true then (if kd = 0 then (some (0, 0, 0, ([] : List Int), false)) else ((impl_ValueBytes.f k kd n b t).bind fun t224 => ((bytes_Equal.f t224 l).bind fun t227 => (if t227 = true then (some (kd, n, b, t, true)) else (some (0, 0, 0, ([] : List Int), false)))))) else (some (0, 0, 0, ([] : List Int), false)))) (rdV l kd n b t) := by
    intro kd n b t hb2 ht h0 hbad
    refine ev_bind0 (impl_ItemOk_f kd n b t) ?_
    cases hq : itemOkP kd n b t with
    | false => rw [hbad hq]; exact ev_neg Bool.false_ne_true (Ev.now _)
    | true =>
      refine ev_pos rfl (ev_neg h0 (Ev.bind (impl_ValueBytes_f kd n b t hb2 ht) (ev_bind0 rfl ?_)))
      unfold rdV
      by_cases he : (strOfNums (valueBytesOf kd n b t)).toList = (strOfNums l).toList
      · rw [if_pos he]
        exact ev_pos (beq_iff_eq.mpr he) (Ev.now _)
      · rw [if_neg he]
        exact ev_neg (fun h => he (beq_iff_eq.mp h)) (Ev.now _)
  have empty : ∀ (kd n : Int) (b : Nat) (t : List Int), l.length ≠ 0 → itemOkP kd n b t = false → rdV l kd n b t = zItem := by
    intro kd n b t h0 hq
    unfold rdV
    rw [if_neg (str_ne ?_)]
    unfold valueBytesOf
    rw [hq, if_neg (by simp), List.length_nil]
    omega
  by_cases h0 : l.length = 0
  · have : vrV l = zItem := by unfold vrV; rw [if_pos (Or.inl h0)]
    rw [this]
    refine Ev.bind (r := zItem) (show Ev (fun k => impl_readItem_V.f k l) (0, 0, 0, []) from ?_) none_
    unfold impl_readItem_V.f
    exact ev_pos (by omega) (Ev.now _)
  have hv0 : ¬ l.length = 0 := h0
  by_cases k3 : rd l 0 = 3
  · refine Ev.bind (show Ev (fun k => impl_readItem_V.f k l) (3, 0, 0, l.drop 1) from ?_) ?_
    · unfold impl_readItem_V.f
      refine ev_neg (by omega) (ev_pos (by omega) (ev_pos (by omega) ?_))
      rw [hw]
      refine ev_pos k3 (ev_bind0 (cloneByte_f _ (by omega)) ?_)
      rw [k3]
      exact Ev.now _
    · have hv : vrV l = rdV l 3 0 0 (l.drop 1) := by
        unfold vrV
        by_cases h41 : 41 < l.length
        · rw [if_pos (Or.inr h41), empty 3 0 0 (l.drop 1) h0]
          simp [itemOkP]
          omega
        · rw [if_neg (by omega), if_pos k3]
      rw [hv]
      exact some_ 3 0 0 (l.drop 1) (by decide) (by omega) (by omega) (empty 3 0 0 (l.drop 1) h0)
  by_cases h9 : l.length = 9
  · by_cases k1 : rd l 0 = 1
    · refine Ev.bind (show Ev (fun k => impl_readItem_V.f k l) (1, numOf l, 0, []) from ?_) ?_
      · unfold impl_readItem_V.f
        refine ev_neg (by omega) (ev_pos (by omega) (ev_pos (by omega) ?_))
        rw [hw]
        refine ev_neg k3 (ev_pos (by omega) (ev_pos k1 (Ev.bind (fromHigh_f _ (by omega)) ?_)))
        rw [k1]
        exact Ev.now _
      · have hv : vrV l = rdV l 1 (numOf l) 0 [] := by unfold vrV; rw [if_neg (by omega), if_neg k3, if_neg (by omega), if_pos k1]
        rw [hv]
        exact some_ 1 (numOf l) 0 [] (by decide) (by simp) (by omega) (empty 1 (numOf l) 0 [] h0)
    by_cases k2 : rd l 0 = 2
    · refine Ev.bind (show Ev (fun k => impl_readItem_V.f k l) (2, 0, flV l, []) from ?_) ?_
      · unfold impl_readItem_V.f
        refine ev_neg (by omega) (ev_pos (by omega) (ev_pos (by omega) ?_))
        rw [hw]
        refine ev_neg k3 (ev_pos (by omega) (ev_neg k1 (ev_pos k2 (Ev.bind (fromHigh_f _ (by omega)) (ev_bind0 rfl ?_)))))
        rw [k2]
        exact Ev.now _
      · have hv : vrV l = rdV l 2 0 (flV l) [] := by unfold vrV; rw [if_neg (by omega), if_neg k3, if_neg (by omega), if_neg k1, if_pos k2]
        rw [hv]
        exact some_ 2 0 (flV l) [] (flV_lt l) (by simp) (by omega) (empty 2 0 (flV l) [] h0)
    · have hv : vrV l = zItem := by unfold vrV; rw [if_neg (by omega), if_neg k3, if_neg (by omega), if_neg k1, if_neg k2]
      refine Ev.bind (show Ev (fun k => impl_readItem_V.f k l) (rd l 0, 0, 0, []) from ?_) ?_
      · unfold impl_readItem_V.f
        refine ev_neg (by omega) (ev_pos (by omega) (ev_pos (by omega) ?_))
        rw [hw]
        exact ev_neg k3 (ev_pos (by omega) (ev_neg k1 (ev_neg k2 (Ev.now _))))
      · rw [hv]
        refine ev_bind0 (impl_ItemOk_f (rd l 0) 0 0 []) ?_
        by_cases kz : rd l 0 = 0
        · refine ev_pos (by rw [kz]; decide) (ev_pos kz (Ev.now _))
        · refine ev_neg ?_ (Ev.now _)
          simp [itemOkP]
          omega
  · have hv : vrV l = zItem := by
      unfold vrV
      by_cases h41 : l.length = 0 ∨ 41 < l.length
      · rw [if_pos h41]
      · rw [if_neg h41, if_neg k3, if_pos h9]
    rw [hv]
    refine Ev.bind (show Ev (fun k => impl_readItem_V.f k l) (0, 0, 0, []) from ?_) none_
    unfold impl_readItem_V.f
    refine ev_neg (by omega) (ev_pos (by omega) (ev_pos (by omega) ?_))
    rw [hw]
    exact ev_neg k3 (ev_neg (by omega) (Ev.now _))
theorem vrV_small (l : List Int) : (vrV l).2.2.2.1.length ≤ l.length ∧ (vrV l).2.2.1 < 2 ^ 64 := by
  have hf := flV_lt l
  have hr : ∀ (kd n : Int) (b : Nat) (t : List Int), t.length ≤ l.length → b < 2 ^ 64 → (rdV l kd n b t).2.2.2.1.length ≤ l.length ∧ (rdV l kd n b t).2.2.1 < 2 ^ 64 := by
    intro kd n b t h1 h2
    unfold rdV
    split
    · exact ⟨h1, h2⟩
    · exact ⟨Nat.zero_le _, by decide⟩
  unfold vrV
  repeat' split
  all_goals first | exact ⟨Nat.zero_le _, by decide⟩ | exact hr _ _ _ _ (by simp) (by decide) | exact hr _ _ _ _ (by simp) hf
theorem heldItem_f (kd n : Int) (b : Nat) (q : Nat) (hq : q ≤ 1048576) (m : Int) (h0 : 0 ≤ m) (h1 : m ≤ 1000000000000) : Ev (fun k => laws_heldItem.f k kd n b (marksB m q) m) (m + q) := by
  unfold laws_heldItem.f
  refine Ev.bind (heldByteS_f q hq m h0 h1) ?_
  exact ev_neg (by omega) (Ev.now _)
/-- The pure statement. -/
def Stmt : Prop := ∀ (l0 : List (Int)), ((fun xs => xs.length ≤ 9223372036854775807 ∧ ∀ x ∈ xs, (fun n => (Lit.int .u8 n).wf = true) x) l0) → laws_FnExactTupleRead.H l0
theorem itemOkP_cn (kd n : Int) (b : Nat) (t : List Int) : itemOkP kd n (cn b) t = itemOkP kd n b t := by
  by_cases hn : nanw b
  · have h0 : b ≠ 0 := by
      rintro rfl
      exact absurd hn.2 (by decide)
    rw [cn_nan hn]
    unfold itemOkP
    simp [h0]
  · rw [cn_num hn]
theorem keyOkP_cn (kd n : Int) (b : Nat) (t : List Int) : keyOkP kd n (cn b) t = keyOkP kd n b t := by
  by_cases hn : nanw b
  · have h0 : b ≠ 0 := by
      rintro rfl
      exact absurd hn.2 (by decide)
    have h2 : b ≠ 9223372036854775808 := by
      rintro rfl
      exact absurd hn.2 (by decide)
    rw [cn_nan hn]
    unfold keyOkP itemOkP
    simp [h0, h2]
  · rw [cn_num hn]
theorem tupleBytesOf_cn (x y ka kb : Int) (kf : Nat) (kt : List Int) (va vb : Int) (vf : Nat) (vt : List Int) (h1 : kf < 2 ^ 64) (h2 : vf < 2 ^ 64) : tupleBytesOf x y ka kb (cn kf) kt va vb (cn vf) vt = tupleBytesOf x y ka kb kf kt va vb vf vt := by
  unfold tupleBytesOf tupleOkP
  rw [keyOkP_cn, itemOkP_cn, keyBytesOf_cn ka kb kf h1, valueBytesOf_cn va vb vf h2]
theorem key_len (kd n : Int) (b : Nat) (t : List Int) : (keyBytesOf kd n b t).length ≤ 41 := by
  unfold keyBytesOf
  split
  · rename_i hq
    have h1 := hq
    simp only [keyOkP, itemOkP, Bool.and_eq_true, decide_eq_true_eq] at h1
    unfold itemBytesOf
    by_cases hk1 : kd = 1
    · rw [if_pos hk1, List.length_cons, hi_length]; omega
    · rw [if_neg hk1]
      by_cases hk2 : kd = 2
      · rw [if_pos hk2, List.length_cons, hi_length]; omega
      · rw [if_neg hk2, List.length_cons]; omega
  · rw [List.length_nil]; omega
theorem value_len (kd n : Int) (b : Nat) (t : List Int) : (valueBytesOf kd n b t).length ≤ 41 := by
  unfold valueBytesOf
  split
  · rename_i hq
    have h1 := hq.1
    simp only [itemOkP, Bool.and_eq_true, decide_eq_true_eq] at h1
    unfold itemBytesOf
    by_cases hk1 : kd = 1
    · rw [if_pos hk1, List.length_cons, hi_length]; omega
    · rw [if_neg hk1]
      by_cases hk2 : kd = 2
      · rw [if_pos hk2, List.length_cons, hi_length]; omega
      · rw [if_neg hk2, List.length_cons]; omega
  · rw [List.length_nil]; omega
theorem pn_four (n : Int) : (pn n 4).length ≤ 4 := by
  unfold pn
  split
  · rw [le_length]
    decide
  · simp
theorem tuple_len (x y ka kb : Int) (kf : Nat) (kt : List Int) (va vb : Int) (vf : Nat) (vt : List Int) : (tupleBytesOf x y ka kb kf kt va vb vf vt).length ≤ 92 := by
  have l1 := pn_four x
  have l2 := pn_four y
  have l3 := key_len ka kb kf kt
  have l4 := value_len va vb vf vt
  unfold tupleBytesOf
  split
  · simp only [List.length_append, List.length_cons, List.length_nil]
    omega
  · exact Nat.zero_le _
theorem tuple_bad (x y ka kb : Int) (kf : Nat) (kt : List Int) (va vb : Int) (vf : Nat) (vt : List Int) (h : tupleOkP x y ka kb kf kt va vb vf vt = false) : (tupleBytesOf x y ka kb kf kt va vb vf vt).length = 0 := by
  unfold tupleBytesOf
  rw [h]
  rfl
/-- the bytes of the key, and those of the value -/
def kyB (l : List Int) : List Int := (l.take (9 + rd l 8).toNat).drop 9
def vlB (l : List Int) : List Int := l.drop (10 + rd l 8).toNat
abbrev TR := Int × Int × Int × Int × Nat × List Int × Int × Int × Nat × List Int × Bool
def zT : TR := (0, 0, 0, 0, 0, [], 0, 0, 0, [], false)
def mkT (x y : Int) (K V : Int × Int × Nat × List Int × Bool) (ok : Bool) : TR := (x, y, K.1, K.2.1, K.2.2.1, K.2.2.2.1, V.1, V.2.1, V.2.2.1, V.2.2.2.1, ok)
def bytesT (x y : Int) (K V : Int × Int × Nat × List Int × Bool) : List Int := tupleBytesOf x y K.1 K.2.1 K.2.2.1 K.2.2.2.1 V.1 V.2.1 V.2.2.1 V.2.2.2.1
def restT (l : List Int) (x y : Int) (K V : Int × Int × Nat × List Int × Bool) : TR :=
  if K.2.2.2.2 = true ∧ V.2.2.2.2 = true ∧ (strOfNums (bytesT x y K V)).toList = (strOfNums l).toList then mkT x y K V true else zT
/-- the tuple with some bytes -/
def trOf (l : List Int) : TR :=
  if l.length < 10 ∨ 92 < l.length then zT else if rd l 8 > (l.length : Int) - 10 then zT
  else restT l (gv l 0 4) (gv l 4 4) (vrOf (kyB l)) (vrV (vlB l))
/-- as it is told -/
def tellT (r : TR) : TR := (r.1, r.2.1, r.2.2.1, r.2.2.2.1, cn r.2.2.2.2.1, r.2.2.2.2.2.1, r.2.2.2.2.2.2.1, r.2.2.2.2.2.2.2.1, cn r.2.2.2.2.2.2.2.2.1, r.2.2.2.2.2.2.2.2.2.1, r.2.2.2.2.2.2.2.2.2.2)
theorem tellT_z : tellT zT = zT := by unfold tellT zT; rw [cn_none]
theorem gn_four (l : List Int) (hb : IsBytes l) (p : Int) (h0 : 0 ≤ p) (h1 : p + 4 ≤ l.length) : gn l p 4 = (gv l p 4, true) := by
  have := gv_small hb 4 (by decide) p
  unfold gn GnOk
  rw [if_pos ⟨⟨by omega, by omega, by omega⟩, by show gv l p 4 < 9223372036854775808; omega⟩]
  rfl
theorem isB_sub {l m : List Int} (hb : IsBytes l) (h : ∀ x, x ∈ m → x ∈ l) : IsBytes m := fun x hx => hb x (h x hx)
theorem spec_TupleRead_f (l : List Int) (hb : IsBytes l) (hl : l.length ≤ 1048576) : Ev (fun k => spec_TupleRead.f k l) (tellT (trOf l)) := by
  unfold spec_TupleRead.f
  by_cases h0 : l.length < 10
  · have : trOf l = zT := by unfold trOf; rw [if_pos (Or.inl h0)]
    rw [this, tellT_z]
    exact ev_pos (by omega) (Ev.step (fun k => by rw [spec_TupleRead.j0, if_pos rfl]; rfl) (Ev.now _))
  refine ev_neg (by omega) ?_
  by_cases h9 : 92 < l.length
  · have : trOf l = zT := by unfold trOf; rw [if_pos (Or.inr h9)]
    rw [this, tellT_z, decide_eq_true (show (l.length : Int) > 92 by omega)]
    exact Ev.step (fun k => by rw [spec_TupleRead.j0, if_pos rfl]; rfl) (Ev.now _)
  rw [decide_eq_false (show ¬ (l.length : Int) > 92 by omega)]
  have hk := rd_byte hb 8
  have w8 : wrap64 (rd l 8) = rd l 8 := w64 (by omega) (by omega)
  have w9 : wrap64 (9 + rd l 8) = 9 + rd l 8 := w64 (by omega) (by omega)
  have w10 : wrap64 (10 + rd l 8) = 10 + rd l 8 := w64 (by omega) (by omega)
  have wl : wrap64 ((l.length : Int) - 10) = (l.length : Int) - 10 := w64 (by omega) (by omega)
  refine Ev.step (fun k => by rw [spec_TupleRead.j0, if_neg Bool.false_ne_true, w8, w9, w10, wl]) ?_
  have e1 := spec_GetNum_f l hb hl 0 4 (by decide) (by decide)
  have e2 := spec_GetNum_f l hb hl 4 4 (by decide) (by decide)
  rw [gn_four l hb 0 (by omega) (by omega)] at e1
  rw [gn_four l hb 4 (by omega) (by omega)] at e2
  refine Ev.bind e1 (Ev.bind e2 (ev_pos (by omega) ?_))
  by_cases hn : rd l 8 > (l.length : Int) - 10
  · have : trOf l = zT := by unfold trOf; rw [if_neg (by omega), if_pos hn]
    rw [this, tellT_z]
    exact ev_pos hn (Ev.now _)
  have ht : trOf l = restT l (gv l 0 4) (gv l 4 4) (vrOf (kyB l)) (vrV (vlB l)) := by unfold trOf; rw [if_neg (by omega), if_neg hn]
  rw [ht]
  have lk : (kyB l).length ≤ 1048576 := by unfold kyB; rw [List.length_drop, List.length_take]; omega
  have lv : (vlB l).length ≤ 1048576 := by unfold vlB; rw [List.length_drop]; omega
  have bk : IsBytes (kyB l) := isB_sub hb (fun x hx => List.mem_of_mem_take (List.mem_of_mem_drop hx))
  have bv : IsBytes (vlB l) := isB_sub hb (fun x hx => List.mem_of_mem_drop hx)
  refine ev_neg hn (ev_pos (by omega) (ev_pos (by omega) (Ev.bind (spec_KeyRead_f (kyB l) bk lk) (ev_pos (by omega) (ev_pos (by omega) (Ev.bind (spec_ValueRead_f (vlB l) bv lv) ?_))))))
  have sk := vrOf_small (kyB l)
  have sv := vrV_small (vlB l)
  generalize vrOf (kyB l) = K at sk ⊢
  generalize vrV (vlB l) = V at sv ⊢
  obtain ⟨ka, kb, kf, kt, ko⟩ := K
  obtain ⟨va, vb, vf, vt, vo⟩ := V
  dsimp only [tell] at sk sv ⊢
  cases ko with
  | false => rw [(show restT l (gv l 0 4) (gv l 4 4) (ka, kb, kf, kt, false) (va, vb, vf, vt, vo) = zT from if_neg (fun h => absurd h.1 Bool.false_ne_true)), tellT_z]; exact ev_neg Bool.false_ne_true (Ev.now _)
  | true =>
    refine ev_pos rfl ?_
    cases vo with
    | false => rw [(show restT l (gv l 0 4) (gv l 4 4) (ka, kb, kf, kt, true) (va, vb, vf, vt, false) = zT from if_neg (fun h => absurd h.2.1 Bool.false_ne_true)), tellT_z]; exact ev_neg Bool.false_ne_true (Ev.now _)
    | true =>
      have g1 := gv_small hb 4 (by decide) 0
      have g2 := gv_small hb 4 (by decide) 4
      refine ev_pos rfl (Ev.bind (spec_TupleBytes_f (gv l 0 4) (gv l 4 4) ka kb (cn kf) kt va vb (cn vf) vt (cn_lt sk.2) (cn_lt sv.2) (by omega) (by omega) (by omega) (by omega)) ?_)
      rw [tupleBytesOf_cn _ _ _ _ _ _ _ _ _ _ sk.2 sv.2]
      by_cases he : (strOfNums (tupleBytesOf (gv l 0 4) (gv l 4 4) ka kb kf kt va vb vf vt)).toList = (strOfNums l).toList
      · rw [(show restT l (gv l 0 4) (gv l 4 4) (ka, kb, kf, kt, true) (va, vb, vf, vt, true) = mkT (gv l 0 4) (gv l 4 4) (ka, kb, kf, kt, true) (va, vb, vf, vt, true) true from if_pos ⟨rfl, rfl, he⟩)]
        exact ev_pos he (Ev.now _)
      · rw [(show restT l (gv l 0 4) (gv l 4 4) (ka, kb, kf, kt, true) (va, vb, vf, vt, true) = zT from if_neg (fun h => he h.2.2)), tellT_z]
        exact ev_neg he (Ev.now _)
theorem impl_TupleRead_f (l : List Int) (hb : IsBytes l) (hl : l.length ≤ 1048576) : Ev (fun k => impl_TupleRead.f k l) (trOf l) := by
  unfold impl_TupleRead.f
  have bad : ∀ x y : Int, Ev (fun k => impl_TupleRead.j0 k l x y true) zT := fun x y => Ev.step (fun k => by rw [impl_TupleRead.j0, if_pos rfl]; rfl) (Ev.now _)
  refine Ev.bind (impl_GetNum_f l hb hl 0 4) (Ev.bind (impl_GetNum_f l hb hl 4 4) ?_)
  by_cases h9 : l.length < 9
  · have : trOf l = zT := by unfold trOf; rw [if_pos (Or.inl (by omega))]
    rw [this]
    by_cases c1 : (gn l 0 4).2 = true
    · by_cases c2 : (gn l 4 4).2 = true
      · exact ev_pos c1 (ev_pos c2 (ev_pos (by omega) (bad _ _)))
      · exact ev_pos c1 (ev_neg c2 (bad _ _))
    · exact ev_neg c1 (bad _ _)
  rw [gn_four l hb 0 (by omega) (by omega), gn_four l hb 4 (by omega) (by omega)]
  refine ev_pos rfl (ev_pos rfl (ev_neg (by omega) (ev_pos (by omega) ?_)))
  have hk := rd_byte hb 8
  have w8 : wrap64 (rd l 8) = rd l 8 := w64 (by omega) (by omega)
  have w9 : wrap64 (9 + rd l 8) = 9 + rd l 8 := w64 (by omega) (by omega)
  have w10 : wrap64 (10 + rd l 8) = 10 + rd l 8 := w64 (by omega) (by omega)
  have w11 : wrap64 (9 + rd l 8 + 1) = 10 + rd l 8 := by rw [w64 (by omega) (by omega)]; omega
  rw [w8, w10]
  by_cases hn : (l.length : Int) < 10 + rd l 8
  · have : trOf l = zT := by
      unfold trOf
      by_cases h : l.length < 10 ∨ 92 < l.length
      · rw [if_pos h]
      · rw [if_neg h, if_pos (by omega)]
    rw [this, decide_eq_true hn]
    exact bad _ _
  rw [decide_eq_false hn]
  refine Ev.step (fun k => by rw [impl_TupleRead.j0, if_neg Bool.false_ne_true, w8, w9, w11]) ?_
  have lk : (kyB l).length ≤ 1048576 := by unfold kyB; rw [List.length_drop, List.length_take]; omega
  have lv : (vlB l).length ≤ 1048576 := by unfold vlB; rw [List.length_drop]; omega
  have bk : IsBytes (kyB l) := isB_sub hb (fun x hx => List.mem_of_mem_take (List.mem_of_mem_drop hx))
  have bv : IsBytes (vlB l) := isB_sub hb (fun x hx => List.mem_of_mem_drop hx)
  refine ev_pos (by omega) (ev_pos (by omega) (ev_pos (by omega) (Ev.bind (impl_KeyRead_f (kyB l) bk lk) (ev_pos (by omega) (ev_pos (by omega) (Ev.bind (impl_ValueRead_f (vlB l) bv lv) ?_))))))
  have sk := vrOf_small (kyB l)
  have sv := vrV_small (vlB l)
  have ht : trOf l = restT l (gv l 0 4) (gv l 4 4) (vrOf (kyB l)) (vrV (vlB l)) := by
    unfold trOf
    by_cases h : 92 < l.length
    · rw [if_pos (Or.inr h)]
      unfold restT
      rw [if_neg (fun hq => str_ne (show (bytesT (gv l 0 4) (gv l 4 4) (vrOf (kyB l)) (vrV (vlB l))).length ≠ l.length from by have := tuple_len (gv l 0 4) (gv l 4 4) (vrOf (kyB l)).1 (vrOf (kyB l)).2.1 (vrOf (kyB l)).2.2.1 (vrOf (kyB l)).2.2.2.1 (vrV (vlB l)).1 (vrV (vlB l)).2.1 (vrV (vlB l)).2.2.1 (vrV (vlB l)).2.2.2.1; unfold bytesT; omega) hq.2.2)]
    · rw [if_neg (by omega), if_neg (by omega)]
  rw [ht]
  generalize vrOf (kyB l) = K at sk ⊢
  generalize vrV (vlB l) = V at sv ⊢
  obtain ⟨ka, kb, kf, kt, ko⟩ := K
  obtain ⟨va, vb, vf, vt, vo⟩ := V
  dsimp only at sk sv ⊢
  cases ko with
  | false => rw [(show restT l (gv l 0 4) (gv l 4 4) (ka, kb, kf, kt, false) (va, vb, vf, vt, vo) = zT from if_neg (fun h => absurd h.1 Bool.false_ne_true))]; exact ev_neg Bool.false_ne_true (Ev.now _)
  | true =>
    refine ev_pos rfl ?_
    cases vo with
    | false => rw [(show restT l (gv l 0 4) (gv l 4 4) (ka, kb, kf, kt, true) (va, vb, vf, vt, false) = zT from if_neg (fun h => absurd h.2.1 Bool.false_ne_true))]; exact ev_neg Bool.false_ne_true (Ev.now _)
    | true =>
      have g1 := gv_small hb 4 (by decide) 0
      have g2 := gv_small hb 4 (by decide) 4
      refine ev_pos rfl (ev_bind0 (impl_TupleOk_f (gv l 0 4) (gv l 4 4) ka kb kf kt va vb vf vt sk.2) ?_)
      cases hq : tupleOkP (gv l 0 4) (gv l 4 4) ka kb kf kt va vb vf vt with
      | false =>
        rw [(show restT l (gv l 0 4) (gv l 4 4) (ka, kb, kf, kt, true) (va, vb, vf, vt, true) = zT from if_neg (fun h => str_ne (fun e => by have hz := tuple_bad _ _ _ _ _ _ _ _ _ _ hq; have e2 : (tupleBytesOf (gv l 0 4) (gv l 4 4) ka kb kf kt va vb vf vt).length = l.length := e; omega) h.2.2))]
        exact ev_neg Bool.false_ne_true (Ev.now _)
      | true =>
        refine ev_pos rfl (Ev.bind (impl_TupleBytes_f (gv l 0 4) (gv l 4 4) ka kb kf kt va vb vf vt sk.2 sv.2 (by omega) (by omega) (by omega) (by omega)) (ev_bind0 rfl ?_))
        by_cases he : (strOfNums (tupleBytesOf (gv l 0 4) (gv l 4 4) ka kb kf kt va vb vf vt)).toList = (strOfNums l).toList
        · rw [(show restT l (gv l 0 4) (gv l 4 4) (ka, kb, kf, kt, true) (va, vb, vf, vt, true) = mkT (gv l 0 4) (gv l 4 4) (ka, kb, kf, kt, true) (va, vb, vf, vt, true) true from if_pos ⟨rfl, rfl, he⟩)]
          exact ev_pos (beq_iff_eq.mpr he) (Ev.now _)
        · rw [(show restT l (gv l 0 4) (gv l 4 4) (ka, kb, kf, kt, true) (va, vb, vf, vt, true) = zT from if_neg (fun h => he h.2.2))]
          exact ev_neg (fun h => he (beq_iff_eq.mp h)) (Ev.now _)
theorem trOf_small (l : List Int) (hl : l.length ≤ 1048576) : (trOf l).2.2.2.2.2.1.length ≤ 1048576 ∧ (trOf l).2.2.2.2.2.2.2.2.2.1.length ≤ 1048576 ∧ (trOf l).2.2.2.2.1 < 2 ^ 64 ∧ (trOf l).2.2.2.2.2.2.2.2.1 < 2 ^ 64 := by
  have z : zT.2.2.2.2.2.1.length ≤ 1048576 ∧ zT.2.2.2.2.2.2.2.2.2.1.length ≤ 1048576 ∧ zT.2.2.2.2.1 < 2 ^ 64 ∧ zT.2.2.2.2.2.2.2.2.1 < 2 ^ 64 := ⟨Nat.zero_le _, Nat.zero_le _, by decide, by decide⟩
  have sk := vrOf_small (kyB l)
  have sv := vrV_small (vlB l)
  have lk : (kyB l).length ≤ 1048576 := by unfold kyB; rw [List.length_drop, List.length_take]; omega
  have lv : (vlB l).length ≤ 1048576 := by unfold vlB; rw [List.length_drop]; omega
  unfold trOf restT
  repeat' split
  · exact z
  · exact z
  · exact ⟨Nat.le_trans sk.1 lk, Nat.le_trans sv.1 lv, sk.2, sv.2⟩
  · exact z
theorem main : Stmt := by
  intro l ⟨_, hw⟩
  have hb := isBytes_of hw
  unfold laws_FnExactTupleRead.H
  by_cases h : (1048576 : Int) < (l.length : Int)
  · exact Or.inl h
  refine Or.inr ⟨h, ?_⟩
  have hn : l.length ≤ 1048576 := by omega
  have sp := spec_TupleRead_f l hb hn
  have im := impl_TupleRead_f l hb hn
  have hs := trOf_small l hn
  generalize trOf l = r at sp im hs
  obtain ⟨x, y, ka, kb, kf, kt, va, vb, vf, vt, ok⟩ := r
  dsimp only [tellT] at sp hs
  obtain ⟨s1, s2, s3, s4⟩ := hs
  obtain ⟨k1, h1⟩ := Ev.rounds (toByteS_f l hn)
  obtain ⟨k2, h2⟩ := Ev.rounds sp
  refine ⟨k1, _, h1, k2, _, _, _, _, _, _, _, _, _, _, _, h2, fun b hb1 hl1 b' hb2 hl2 => ?_⟩
  have e1 := same_cn kf b s3 hl1 hb1
  have e2 := same_cn vf b' s4 hl2 hb2
  obtain ⟨k3, h3⟩ := Ev.rounds im
  obtain ⟨k4, h4⟩ := Ev.rounds (eqTuple_f x y ka kb kf b kt va vb vf b' vt s1 s2 s3 hl1 s4 hl2 e1 e2)
  obtain ⟨k5, h5⟩ := Ev.rounds (eqByteS_same l hn)
  obtain ⟨k6, h6⟩ := Ev.rounds (markByteS_f l hn 1 (by omega) (by omega))
  obtain ⟨k7, h7⟩ := Ev.rounds (markTuple_f x y ka kb kf kt va vb vf vt s1 s2)
  obtain ⟨k8, h8⟩ := Ev.rounds (show Ev (fun k => laws_heldTuple.f k x y ka kb kf (marksB 1 kt.length) va vb vf (marksB (1 + kt.length) vt.length) 1) (1 + kt.length + vt.length) from by
    unfold laws_heldTuple.f
    exact Ev.bind (heldItem_f ka kb kf kt.length s1 1 (by omega) (by omega)) (Ev.bind (heldItem_f va vb vf vt.length s2 (1 + kt.length) (by omega) (by omega)) (Ev.now _)))
  exact ⟨k1, _, h1, k3, _, _, h3, k4, h4, k1, _, h1, k5, h5, k6, _, _, h6, by omega, k4, h4, k7, _, _, _, h7, by omega, k8, h8, k1, _, h1, k3, _, _, h3, k4, h4, k8, h8, trivial⟩
end Go.Proofs.Ytjjkhlphdbmdfaa.Pure.ofFnExactTupleRead
namespace Go.Proofs.Ytjjkhlphdbmdfaa.PrintWords
end Go.Proofs.Ytjjkhlphdbmdfaa.PrintWords
namespace Go.Proofs.Ytjjkhlphdbmdfaa.Pure
open Go.Proofs.Ytjjkhlphdbmdfaa.PFnExactTupleRead
theorem FnExactTupleRead : ofFnExactTupleRead.Stmt := ofFnExactTupleRead.main
end Go.Proofs.Ytjjkhlphdbmdfaa.Pure
