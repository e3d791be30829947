/-
The law FnSpans answers true: for all bytes a drawn key lies in the span of two others just if its bytes lie between theirs, and the span of one key has this one alone.
Conditions: none beyond the bounds of the statement itself.
-/
import Derived.Test.YtcjeokkhpjppaaaZFnSpans39
import Derived.Test.YtcjeokkhpjppaaaZFnSpans40
import Derived.Test.YtcjeokkhpjppaaaZFnSpans18
set_option linter.unusedVariables false
set_option linter.unusedSimpArgs false
namespace Go.Proofs.Ytcjeokkhpjppaaa.Pure.ofFnSpans
open Go.Proofs.YtcjeokkhpjppaaaX
open Go.RowKit Go.Proofs.Ytcjeokkhpjppaaa.PFnSpans Go.Proofs.YtcjeokkhpjppaaaW.PrintWords Go.Proofs.YtcjeokkhpjppaaaW.PrintLast Go.Proofs.YtcjeokkhpjppaaaW.PrintMore
theorem ev_pos {α : Type} {c : Prop} [Decidable c] {A B : Nat → Option α} {r : α} (hc : c) (h : Ev A r) : Ev (fun k => if c then A k else B k) r := by
  refine Ev.congr (fun k => ?_) h
  rw [if_pos hc]
theorem ev_neg {α : Type} {c : Prop} [Decidable c] {A B : Nat → Option α} {r : α} (hc : ¬ c) (h : Ev B r) : Ev (fun k => if c then A k else B k) r := by
  refine Ev.congr (fun k => ?_) h
  rw [if_neg hc]
theorem ev_bind0 {α β : Type} {g : Option α} {f : Nat → α → Option β} {a : α} {r : β} (h : g = some a) (k : Ev (fun n => f n a) r) : Ev (fun n => g.bind (f n)) r := by
  refine Ev.congr (fun n => ?_) k
  rw [h]; rfl
theorem w64 {x : Int} (h0 : -9223372036854775808 ≤ x) (h1 : x ≤ 9223372036854775807) : wrap64 x = x := by
  unfold wrap64; omega
theorem u64_or_add (i : Nat) {x y : Int} (hx0 : 0 ≤ x) (hx : x % 2 ^ i = 0) (hx1 : x < 18446744073709551616) (hy0 : 0 ≤ y) (hy : y < 2 ^ i) (hy1 : y < 18446744073709551616) : Go.bits .or .u64 x y = x + y :=
  bits_join .u64 64 (by decide) (fun n a b => by simp [IntKind.wrap, IntKind.bits, IntKind.signed]; omega) i x y hx0 hx hx1 hy0 hy hy1
theorem fival_u64 (a : Nat) (n : Int) (h : (Ieee.double.read a).toInt .zero = some n) (h0 : 0 ≤ n) (h1 : n < 18446744073709551616) : fiok .u64 a = true ∧ fival .u64 a = n := by
  have e : floatToIntVal .f64 a .u64 = some n := by
    unfold floatToIntVal
    have : FloatKind.decode .f64 a = Ieee.double.read a := rfl
    rw [this, h]
    have e1 : IntKind.u64.min = 0 := by rfl
    have e2 : IntKind.u64.max = 18446744073709551615 := by rfl
    exact if_pos ⟨by omega, by omega⟩
  unfold fiok fival
  rw [e]
  exact ⟨rfl, rfl⟩
theorem fls_nat (a b : Nat) (ha : a ≤ 9218868437227405312) (hb : b ≤ 9218868437227405312) : fls a b = decide (a < b) := by
  rw [fls_key a b (by omega) (by omega) (isn_pos a ha) (isn_pos b hb), fkey_pos a (by omega), fkey_pos b (by omega)]
  exact decide_eq_decide.2 (by omega)
theorem fge_nat (a b : Nat) (ha : a ≤ 9218868437227405312) (hb : b ≤ 9218868437227405312) : fge a b = decide (b ≤ a) := by
  rw [fge_key a b (by omega) (by omega) (isn_pos a ha) (isn_pos b hb), fkey_pos a (by omega), fkey_pos b (by omega)]
  exact decide_eq_decide.2 (by omega)
theorem fgt_nat (a b : Nat) (ha : a ≤ 9218868437227405312) (hb : b ≤ 9218868437227405312) : fgt a b = decide (b < a) := by
  rw [fgt_key a b (by omega) (by omega) (isn_pos a ha) (isn_pos b hb), fkey_pos a (by omega), fkey_pos b (by omega)]
  exact decide_eq_decide.2 (by omega)
theorem feq_nat (a b : Nat) (ha : a ≤ 9218868437227405312) (hb : b ≤ 9218868437227405312) : feq a b = decide (a = b) := by
  rw [feq_key a b (by omega) (by omega) (isn_pos a ha) (isn_pos b hb), fkey_pos a (by omega), fkey_pos b (by omega)]
  exact decide_eq_decide.2 (by omega)
theorem lt_one (N : Nat) (q : Int) (h : 0 < N) (h2 : N < 2 ^ 53) (hq : -1074 ≤ q) (hv : q + N.log2 ≤ 1023) : fls (fl N q) 4607182418800017408 = decide (q + N.log2 < 0) := by
  rw [fls_nat _ _ (fl_lt N q h h2 hq).2 (by omega)]
  have := fl_below N q h h2 hq hv 1022 (by omega)
  exact decide_eq_decide.2 (by omega)
theorem ge_two (N : Nat) (q : Int) (h : 0 < N) (h2 : N < 2 ^ 53) (hq : -1074 ≤ q) (hv : q + N.log2 ≤ 1023) : fge (fl N q) 4611686018427387904 = decide (1 ≤ q + N.log2) := by
  rw [fge_nat _ _ (fl_lt N q h h2 hq).2 (by omega)]
  have := fl_below N q h h2 hq hv 1023 (by omega)
  exact decide_eq_decide.2 (by omega)
/-- the last step where the float stands in [1, 2) -/
theorem bits_unit (S : Int) (hS : S = 0 ∨ S = 9223372036854775808) (N : Nat) (q : Int) (h : 0 < N) (h2 : N < 2 ^ 53) (hq : -1074 ≤ q) (hv : q + N.log2 ≤ 1023) (E : Int) (hE : -1022 ≤ E) (hE2 : q + N.log2 = E) : Ev (fun k => spec_FloatBits.l1 k S (fl N (q - E)) E) (S + (fl N q : Nat)) := by
  have hlog := log2_le N h h2
  have hfin := fl_finite N q h h2 hq hv
  have hself : 2 ^ N.log2 ≤ N := Nat.log2_self_le (by omega)
  have hup : N < 2 ^ (N.log2 + 1) := Nat.lt_log2_self
  have hL : lastOf N q = E - 52 := by unfold lastOf; omega
  rw [hL] at hfin
  have hsub := sub_one N h h2
  rw [show q - E = -(N.log2 : Int) by omega]
  refine Ev.step (fun k => by rw [spec_FloatBits.l1, if_neg (by rw [lt_one N _ h h2 (by omega) (by omega), decide_eq_false (by omega)]; exact Bool.false_ne_true)]) ?_
  have hs := fl_ok (o := .sub) hsub
  refine ev_pos hs.1 ?_
  rw [hs.2]
  have key : fok .mul (if N = 2 ^ N.log2 then 0 else fl (N - 2 ^ N.log2) (-(N.log2 : Int))) 4841369599423283200 = true ∧ fiok .u64 (fval .mul (if N = 2 ^ N.log2 then 0 else fl (N - 2 ^ N.log2) (-(N.log2 : Int))) 4841369599423283200) = true ∧ fival .u64 (fval .mul (if N = 2 ^ N.log2 then 0 else fl (N - 2 ^ N.log2) (-(N.log2 : Int))) 4841369599423283200) = ((N - 2 ^ N.log2) * 2 ^ (52 - N.log2) : Nat) := by
    have hb : (N - 2 ^ N.log2) * 2 ^ (52 - N.log2) < 4503599627370496 := by
      have h3 : N - 2 ^ N.log2 < 2 ^ N.log2 := by rw [Nat.pow_succ] at hup; omega
      have h4 : (N - 2 ^ N.log2) * 2 ^ (52 - N.log2) < 2 ^ N.log2 * 2 ^ (52 - N.log2) := Nat.mul_lt_mul_of_pos_right h3 (Nat.two_pow_pos _)
      rw [← Nat.pow_add, show N.log2 + (52 - N.log2) = 52 by omega] at h4
      exact h4
    by_cases hz : N = 2 ^ N.log2
    · rw [if_pos hz, show N - 2 ^ N.log2 = 0 by omega, Nat.zero_mul]
      have hm := fl_ok (o := .mul) (a := 0) (b := 4841369599423283200) (r := 0) (by
        show Ieee.double.mul 0 4841369599423283200 = some 0
        unfold Ieee.Format.mul
        rw [read_zero, read_wide]
        show some (Ieee.double.write (.number false (0 * 4503599627370496) _)) = _
        rw [Nat.zero_mul, write_zero, word_false])
      rw [hm.2]
      exact ⟨hm.1, fival_u64 0 0 toInt_zero (by omega) (by omega)⟩
    · rw [if_neg hz]
      have hlt : N - 2 ^ N.log2 < 2 ^ 53 := Nat.lt_of_le_of_lt (Nat.sub_le _ _) h2
      have hlog' := log2_le (N - 2 ^ N.log2) (by omega) hlt
      have hm := fl_ok (o := .mul) (mul_pow (N - 2 ^ N.log2) (-(N.log2 : Int)) 4841369599423283200 0 (by omega) hlt (by omega) (by omega) read_wide (by omega))
      rw [hm.2, show -(N.log2 : Int) + 0 + 52 = ((52 - N.log2 : Nat) : Int) by omega]
      exact ⟨hm.1, fival_u64 _ _ (toInt_fl (N - 2 ^ N.log2) (52 - N.log2) (by omega) hlt (by omega)) (by omega) (by omega)⟩
  refine ev_pos key.1 ?_
  refine ev_pos key.2.1 ?_
  rw [key.2.2, hfin.1]
  have hmul : N * 2 ^ (52 - N.log2) = (N - 2 ^ N.log2) * 2 ^ (52 - N.log2) + 4503599627370496 := by
    have h1 : (4503599627370496 : Nat) = 2 ^ N.log2 * 2 ^ (52 - N.log2) := by rw [← Nat.pow_add, show N.log2 + (52 - N.log2) = 52 by omega]
    rw [h1, ← Nat.add_mul, show N - 2 ^ N.log2 + 2 ^ N.log2 = N by omega]
  have hb : (N - 2 ^ N.log2) * 2 ^ (52 - N.log2) < 4503599627370496 := by
    have h3 : N - 2 ^ N.log2 < 2 ^ N.log2 := by rw [Nat.pow_succ] at hup; omega
    have h4 : (N - 2 ^ N.log2) * 2 ^ (52 - N.log2) < 2 ^ N.log2 * 2 ^ (52 - N.log2) := Nat.mul_lt_mul_of_pos_right h3 (Nat.two_pow_pos _)
    rw [← Nat.pow_add, show N.log2 + (52 - N.log2) = 52 by omega] at h4
    exact h4
  rw [show (q - (E - 52)).toNat = 52 - N.log2 by omega, hmul]
  generalize (N - 2 ^ N.log2) * 2 ^ (52 - N.log2) = F at hb
  rw [w64 (by omega) (by omega)]
  have e1 : IntKind.u64.wrap (E + 1023) = E + 1023 := by simp [IntKind.wrap, IntKind.bits, IntKind.signed]; omega
  have e2 : IntKind.u64.wrap ((E + 1023) * 4503599627370496) = (E + 1023) * 4503599627370496 := by simp [IntKind.wrap, IntKind.bits, IntKind.signed]; omega
  rw [e1, e2, u64_or_add 63 (x := S) (y := (E + 1023) * 4503599627370496) (by omega) (by rcases hS with rfl | rfl <;> rfl) (by omega) (by omega) (show _ < (9223372036854775808 : Int) by omega) (by omega)]
  rw [u64_or_add 52 (by omega) (show _ % (4503599627370496 : Int) = 0 by omega) (by omega) (by omega) (show _ < (4503599627370496 : Int) by omega) (by omega)]
  have e3 : S + (E + 1023) * 4503599627370496 + (F : Int) = S + (((E - 52 + 1074).toNat * 4503599627370496 + (F + 4503599627370496) : Nat) : Int) := by omega
  rw [e3]
  exact Ev.now _
/-- the last step: the bits of what is left, E places below -/
theorem bits_l1 (S : Int) (hS : S = 0 ∨ S = 9223372036854775808) (N : Nat) (q : Int) (h : 0 < N) (h2 : N < 2 ^ 53) (hq : -1074 ≤ q) (hv : q + N.log2 ≤ 1023) : ∀ (n : Nat) (E : Int), E ≤ 1023 → -1022 ≤ E → q + N.log2 ≤ E → -1074 ≤ q - E → (n : Int) = E + 1022 → Ev (fun k => spec_FloatBits.l1 k S (fl N (q - E)) E) (S + (fl N q : Nat)) := by
  have hlog := log2_le N h h2
  have hl := last_le N q h h2 hq
  have hm := mag_bound N q h h2 hq
  have hfin := fl_finite N q h h2 hq hv
  have hself : 2 ^ N.log2 ≤ N := Nat.log2_self_le (by omega)
  have hup : N < 2 ^ (N.log2 + 1) := Nat.lt_log2_self
  intro n
  induction n with
  | zero =>
    intro E hE1 hE2 hE3 hE4 hn
    have hE : E = -1022 := by omega
    subst hE
    by_cases hz : q + N.log2 = -1022
    · exact bits_unit S hS N q h h2 hq hv _ (by omega) (by omega)
    · have hL : lastOf N q = -1074 := by unfold lastOf; omega
      rw [hL] at hm hfin
      have hsmall : N * 2 ^ (q - -1074).toNat < 9007199254740992 := hm.2.1
      refine Ev.step (fun k => by rw [spec_FloatBits.l1, if_pos (by rw [lt_one N _ h h2 (by omega) (by omega)]; exact decide_eq_true (by omega)), if_neg (by omega)]) ?_
      have hmul := fl_ok (o := .mul) (mul_pow N (q - -1022) 4841369599423283200 0 h h2 (by omega) (by omega) read_wide (by omega))
      have hq2 : q - -1022 + 0 + 52 = ((q - -1074).toNat : Int) := by omega
      rw [hq2] at hmul
      have hi := fival_u64 _ _ (toInt_fl N (q - -1074).toNat h h2 (by omega)) (by omega) (by omega)
      refine ev_pos hmul.1 ?_
      rw [hmul.2]
      refine ev_pos hi.1 ?_
      rw [hi.2, hfin.1]
      rw [show (-1074 + 1074 : Int).toNat = 0 by omega, Nat.zero_mul, Nat.zero_add]
      have hlt : N * 2 ^ (q - -1074).toNat < 9007199254740992 := hm.2.1
      rw [u64_or_add 53 (by omega) (by rcases hS with rfl | rfl <;> rfl) (by omega) (by omega) (show _ < (9007199254740992 : Int) by omega) (by omega)]
      exact Ev.now _
  | succ n ih =>
    intro E hE1 hE2 hE3 hE4 hn
    by_cases hz : q + N.log2 = E
    · exact bits_unit S hS N q h h2 hq hv _ (by omega) (by omega)
    · refine Ev.step (fun k => by rw [spec_FloatBits.l1, if_pos (by rw [lt_one N _ h h2 (by omega) (by omega)]; exact decide_eq_true (by omega)), if_pos (by omega)]) ?_
      have hmul := fl_ok (o := .mul) (mul_pow N (q - E) 4611686018427387904 (-51) h h2 (by omega) (by omega) read_two (by omega))
      refine ev_pos hmul.1 ?_
      rw [hmul.2, w64 (by omega) (by omega), show q - E + -51 + 52 = q - (E - 1) by omega]
      exact ih (E - 1) (by omega) (by omega) (by omega) (by omega) (by omega)
/-- halving while the float is two or more -/
theorem bits_l0 (S : Int) (hS : S = 0 ∨ S = 9223372036854775808) (N : Nat) (q : Int) (h : 0 < N) (h2 : N < 2 ^ 53) (hq : -1074 ≤ q) (hv : q + N.log2 ≤ 1023) : ∀ (n : Nat) (E : Int), 0 ≤ E → (E = 0 ∨ E ≤ q + N.log2) → (n : Int) = 1023 - E → Ev (fun k => spec_FloatBits.l0 k S (fl N (q - E)) E) (S + (fl N q : Nat)) := by
  have hlog := log2_le N h h2
  intro n
  induction n with
  | zero =>
    intro E h0 hE hn
    refine Ev.step (fun k => by rw [spec_FloatBits.l0, if_neg (by rw [ge_two N _ h h2 (by omega) (by omega), decide_eq_false (by omega)]; exact Bool.false_ne_true)]) ?_
    exact bits_l1 S hS N q h h2 hq hv (E + 1022).toNat E (by omega) (by omega) (by omega) (by omega) (by omega)
  | succ n ih =>
    intro E h0 hE hn
    by_cases hz : q + N.log2 ≤ E
    · refine Ev.step (fun k => by rw [spec_FloatBits.l0, if_neg (by rw [ge_two N _ h h2 (by omega) (by omega), decide_eq_false (by omega)]; exact Bool.false_ne_true)]) ?_
      exact bits_l1 S hS N q h h2 hq hv (E + 1022).toNat E (by omega) (by omega) (by omega) (by omega) (by omega)
    · refine Ev.step (fun k => by rw [spec_FloatBits.l0, if_pos (by rw [ge_two N _ h h2 (by omega) (by omega)]; exact decide_eq_true (by omega))]) ?_
      have hquo := fl_ok (o := .quo) (quo_pow N (q - E) 4611686018427387904 (-51) h h2 (by omega) (by omega) read_two (by omega))
      refine ev_pos hquo.1 ?_
      rw [hquo.2, w64 (by omega) (by omega), show q - E - -51 - 52 = q - (E + 1) by omega]
      exact ih (E + 1) (by omega) (by omega) (by omega)
theorem bits_j1 (S : Int) (hS : S = 0 ∨ S = 9223372036854775808) (c : Nat) (hc : c ≤ 9218868437227405312) : Ev (fun k => spec_FloatBits.j1 k S c) (S + (c : Nat)) := by
  by_cases h0 : c = 0
  · subst h0
    refine Ev.step (fun k => by rw [spec_FloatBits.j1, if_pos (by rw [feq_nat _ _ (by omega) (by omega)]; rfl)]) ?_
    rw [show S + ((0 : Nat) : Int) = S by omega]
    exact Ev.now _
  by_cases hi : c = 9218868437227405312
  · subst hi
    refine Ev.step (fun k => by rw [spec_FloatBits.j1, if_neg (by rw [feq_nat _ _ (by omega) (by omega), decide_eq_false (by omega)]; exact Bool.false_ne_true), if_pos (by rw [fgt_nat _ _ (by omega) (by omega)]; exact decide_eq_true (by omega))]) ?_
    rw [u64_or_add 63 (by omega) (by rcases hS with rfl | rfl <;> rfl) (by omega) (by omega) (show _ < (9223372036854775808 : Int) by omega) (by omega)]
    exact Ev.now _
  · obtain ⟨a1, a2, a3, a4⟩ := log2_mg c (by omega) (by omega)
    obtain ⟨e, hp, hp2, hm, hn⟩ := mg_pl c (by omega)
    refine Ev.step (fun k => by rw [spec_FloatBits.j1, if_neg (by rw [feq_nat _ _ (by omega) (by omega)]; simp [h0]), if_neg (by rw [fgt_nat _ _ (by omega) (by omega), decide_eq_false (by omega)]; exact Bool.false_ne_true)]) ?_
    have := bits_l0 S hS (mg c) (pl c) a1 a2 hp a4 1023 0 (by omega) (Or.inl rfl) (by omega)
    rw [show pl c - 0 = pl c by omega, fl_eta c (by omega) (by omega)] at this
    exact this
/-- THE REFERENCE's BITS: the float's own, of every NaN one -/
theorem spec_FloatBits_f (a : Nat) (ha : a < 2 ^ 64) : Ev (fun k => spec_FloatBits.f k a) (if isn a then 9221120237041090560 else (a : Int)) := by
  unfold spec_FloatBits.f
  cases hn : isn a with
  | true =>
    refine ev_neg (by rw [feq_self a ha, hn]; simp) ?_
    exact Ev.now _
  | false =>
    refine ev_pos (by rw [feq_self a ha, hn]; rfl) ?_
    rw [if_neg (by simp)]
    have hz : isn 0 = false := isn_pos 0 (by omega)
    have low : ∀ c, c ≤ 9218868437227405312 → a = c → Ev (fun k => if fls a 0 = true then spec_FloatBits.j0 k a 0 a true else if feq a 0 = true then if fok .quo 4607182418800017408 a = true then spec_FloatBits.j0 k a 0 a (fls (fval .quo 4607182418800017408 a) 0) else none else spec_FloatBits.j0 k a 0 a false) (a : Int) := by
      intro c hc hac
      subst hac
      have fin : Ev (fun k => spec_FloatBits.j0 k a 0 a false) (a : Int) := by
        refine Ev.step (fun k => by rw [spec_FloatBits.j0, if_neg (by simp)]) ?_
        have := bits_j1 0 (Or.inl rfl) a hc
        rw [Int.zero_add] at this
        exact this
      refine ev_neg (by rw [fls_nat a 0 hc (by omega)]; simp) ?_
      by_cases h0 : a = 0
      · subst h0
        refine ev_pos (by rw [feq_nat 0 0 (by omega) (by omega)]; rfl) ?_
        have hq := fl_ok (o := .quo) (a := 4607182418800017408) (b := 0) (r := 9218868437227405312) (by
          show Ieee.double.div 4607182418800017408 0 = some 9218868437227405312
          unfold Ieee.Format.div
          rw [read_zero, read_one]
          rfl)
        refine ev_pos hq.1 ?_
        rw [hq.2, fls_nat _ _ (by omega) (by omega)]
        exact fin
      · refine ev_neg (by rw [feq_nat a 0 hc (by omega)]; simp [h0]) ?_
        exact fin
    have high : ∀ c, c ≤ 9218868437227405312 → a = 9223372036854775808 + c → Ev (fun k => if fls a 0 = true then spec_FloatBits.j0 k a 0 a true else if feq a 0 = true then if fok .quo 4607182418800017408 a = true then spec_FloatBits.j0 k a 0 a (fls (fval .quo 4607182418800017408 a) 0) else none else spec_FloatBits.j0 k a 0 a false) (a : Int) := by
      intro c hc hac
      have fin : Ev (fun k => spec_FloatBits.j0 k a 0 a true) (a : Int) := by
        refine Ev.step (fun k => by rw [spec_FloatBits.j0, if_pos rfl]) ?_
        have := bits_j1 9223372036854775808 (Or.inr rfl) c hc
        rw [hac, fneg_neg c (by omega)]
        rw [show ((9223372036854775808 + c : Nat) : Int) = 9223372036854775808 + (c : Int) by omega]
        exact this
      have hk := fkey_neg c a hac
      have hk0 : fkey 0 = 0 := fkey_pos 0 (by omega)
      by_cases h0 : c = 0
      · subst h0
        refine ev_neg (by rw [fls_key a 0 ha (by omega) hn hz, hk, hk0]; simp) ?_
        refine ev_pos (by rw [feq_key a 0 ha (by omega) hn hz, hk, hk0]; rfl) ?_
        have hq := fl_ok (o := .quo) (a := 4607182418800017408) (b := 9223372036854775808) (r := 18442240474082181120) (by
          show Ieee.double.div 4607182418800017408 9223372036854775808 = some 18442240474082181120
          unfold Ieee.Format.div
          rw [read_nzero, read_one]
          rfl)
        rw [Nat.add_zero] at hac
        rw [hac] at fin ⊢
        refine ev_pos hq.1 ?_
        rw [hq.2]
        have e : fls 18442240474082181120 0 = true := by
          rw [fls_key _ 0 (by omega) (by omega) (isn_neg 9218868437227405312 (by omega)) hz, hk0, fkey_neg 9218868437227405312 18442240474082181120 rfl]
          exact decide_eq_true (by omega)
        rw [e]
        exact fin
      · refine ev_pos (by rw [fls_key a 0 ha (by omega) hn hz, hk, hk0]; exact decide_eq_true (by omega)) ?_
        exact fin
    rcases word_real a ha hn with g | g | ⟨c, g, hc⟩ | g
    · exact low a (by omega) rfl
    · exact low a (by omega) rfl
    · exact high c (by omega) g
    · exact high 9218868437227405312 (by omega) g
theorem fkey_zero (a : Nat) (ha : a < 2 ^ 64) : fkey a = 0 ↔ a = 0 ∨ a = 9223372036854775808 := by
  unfold fkey
  split <;> omega
theorem feq_zero (a : Nat) (ha : a < 2 ^ 64) (hn : isn a = false) : feq a 0 = decide (a = 0 ∨ a = 9223372036854775808) := by
  rw [feq_key a 0 ha (by omega) hn (isn_pos 0 (by omega)), fkey_pos 0 (by omega)]
  exact decide_eq_decide.2 (fkey_zero a ha)
theorem fgt_zero (a : Nat) (ha : a < 2 ^ 64) (hn : isn a = false) : fgt a 0 = decide (0 < a ∧ a < 9223372036854775808) := by
  rw [fgt_key a 0 ha (by omega) hn (isn_pos 0 (by omega)), fkey_pos 0 (by omega)]
  refine decide_eq_decide.2 ?_
  unfold fkey
  split <;> omega
theorem bits_or_comm (k : IntKind) (x y : Int) : Go.bits .or k x y = Go.bits .or k y x := by
  unfold Go.bits
  dsimp only
  rw [BitVec.or_comm]
theorem u64_not (b : Nat) (h : b < 2 ^ 64) : Go.bits .xor .u64 IntKind.u64.max (b : Int) = 18446744073709551615 - (b : Int) := by
  have e1 : IntKind.u64.max = 18446744073709551615 := by rfl
  have e2 : Go.bits .xor .u64 IntKind.u64.max (b : Int) = IntKind.u64.wrap ((BitVec.ofInt 64 IntKind.u64.max ^^^ BitVec.ofInt 64 (b : Int)).toNat : Int) := rfl
  have e3 : BitVec.ofInt 64 (18446744073709551615 : Int) = BitVec.allOnes 64 := by rfl
  rw [e2, e1, e3, BitVec.allOnes_xor, BitVec.toNat_not, BitVec.ofInt_natCast, BitVec.toNat_ofNat, Nat.mod_eq_of_lt h]
  have e4 : ((2 ^ 64 - 1 - b : Nat) : Int) = 18446744073709551615 - (b : Int) := by omega
  rw [e4]
  simp [IntKind.wrap, IntKind.bits, IntKind.signed]
  omega
/-- a float's rank -/
def rankOf (a : Nat) : Int := if isn a then 18446744073709551615 else if a = 0 ∨ a = 9223372036854775808 then 9223372036854775808 else if a < 9223372036854775808 then 9223372036854775808 + (a : Int) else 18446744073709551615 - (a : Int)
theorem real_ne_nan (a : Nat) (hn : isn a = false) : (a : Int) ≠ 9221120237041090560 := by
  intro h
  have : a = 9221120237041090560 := by omega
  subst this
  exact absurd hn (by decide)
theorem or_sign (a : Nat) (h : a < 9223372036854775808) : Go.bits .or .u64 (a : Int) 9223372036854775808 = 9223372036854775808 + (a : Int) := by
  rw [bits_or_comm, u64_or_add 63 (by omega) (by rfl) (by omega) (by omega) (show _ < (9223372036854775808 : Int) by omega) (by omega)]
theorem spec_FloatRank_f (a : Nat) (ha : a < 2 ^ 64) : Ev (fun k => spec_FloatRank.f k a) (rankOf a) := by
  unfold spec_FloatRank.f rankOf
  refine Ev.bind (spec_FloatBits_f a ha) ?_
  cases hn : isn a with
  | true => exact ev_pos rfl (Ev.now _)
  | false =>
    simp only [Bool.false_eq_true, if_false]
    refine ev_neg (real_ne_nan a hn) ?_
    rw [feq_zero a ha hn]
    by_cases hz : a = 0 ∨ a = 9223372036854775808
    · rw [if_pos hz]
      exact ev_pos (decide_eq_true hz) (Ev.now _)
    · rw [if_neg hz]
      refine ev_neg (by rw [decide_eq_false hz]; exact Bool.false_ne_true) ?_
      by_cases hs : a < 9223372036854775808
      · rw [if_pos hs]
        refine ev_neg (by omega) ?_
        rw [or_sign a hs]
        exact Ev.now _
      · rw [if_neg hs]
        refine ev_pos (by omega) ?_
        rw [u64_not a ha]
        exact Ev.now _
theorem impl_FloatRank_f (a : Nat) (ha : a < 2 ^ 64) : impl_FloatRank.f a = some (rankOf a) := by
  unfold impl_FloatRank.f rankOf
  rw [feq_self a ha]
  cases hn : isn a with
  | true => rfl
  | false =>
    rw [if_pos (show (!false) = true from rfl), if_neg Bool.false_ne_true, feq_zero a ha hn, fgt_zero a ha hn]
    by_cases hz : a = 0 ∨ a = 9223372036854775808
    · rw [if_pos hz, decide_eq_true hz]
      rfl
    · rw [if_neg hz, decide_eq_false hz, if_neg Bool.false_ne_true]
      by_cases hs : a < 9223372036854775808
      · rw [if_pos hs, decide_eq_true (by omega), if_pos rfl, or_sign a hs]
      · rw [if_neg hs, decide_eq_false (by omega), if_neg Bool.false_ne_true, u64_not a ha]
def IsBytes (l : List Int) : Prop := ∀ x ∈ l, 0 ≤ x ∧ x ≤ 255
theorem isBytes_append {a b : List Int} (ha : IsBytes a) (hb : IsBytes b) : IsBytes (a ++ b) := by
  intro x hx
  rcases List.mem_append.1 hx with h | h
  · exact ha x h
  · exact hb x h
theorem isBytes_one {x : Int} (h : 0 ≤ x ∧ x ≤ 255) : IsBytes [x] := by
  intro y hy
  rw [List.mem_singleton.1 hy]
  exact h
theorem isBytes_nil : IsBytes [] := fun x hx => by cases hx
theorem impl_within_f (a b c : Int) : impl_within.f a b c = some (decide (b ≤ a ∧ a ≤ c)) := by
  unfold impl_within.f
  by_cases h : b ≤ a <;> simp [h]
theorem bits_xor_nat (k : IntKind) (j : Nat) (hj : j ≤ k.bits) (hk : ∀ n : Int, 0 ≤ n → n < 2 ^ j → k.wrap n = n) (a b : Nat) (ha : a < 2 ^ j) (hb : b < 2 ^ j) :
    Go.bits .xor k a b = ((a ^^^ b : Nat) : Int) := by
  have hp : 2 ^ j ≤ 2 ^ k.bits := Nat.pow_le_pow_right (by decide) hj
  have ha' : a % 2 ^ k.bits = a := Nat.mod_eq_of_lt (Nat.lt_of_lt_of_le ha hp)
  have hb' : b % 2 ^ k.bits = b := Nat.mod_eq_of_lt (Nat.lt_of_lt_of_le hb hp)
  have cast : ∀ n : Nat, n < 2 ^ j → ((n : Nat) : Int) < 2 ^ j := fun n h => by exact_mod_cast h
  simp only [Go.bits, BitVec.ofInt_natCast, BitVec.toNat_xor, BitVec.toNat_ofNat, ha', hb']
  exact hk _ (Int.natCast_nonneg _) (cast _ (Nat.xor_lt_two_pow ha hb))
/-- when an item is valid -/
def itemOkP (kd n : Int) (b : Nat) (t : List Int) : Bool := decide (0 ≤ kd ∧ kd ≤ 3 ∧ t.length ≤ 40 ∧ (kd = 1 ∨ n = 0) ∧ (kd = 2 ∨ b = 0) ∧ (kd = 3 ∨ t.length = 0))
theorem canon_zero (b : Nat) : (if isn b then 9221120237041090560 else (b : Int)) = 0 ↔ b = 0 := by
  cases hn : isn b with
  | true =>
    rw [if_pos rfl]
    constructor
    · omega
    · rintro rfl
      exact absurd hn (by decide)
  | false =>
    rw [if_neg Bool.false_ne_true]
    omega
theorem spec_ItemOk_j1 (x : Bool) (kd n : Int) (b : Nat) (t : List Int) (hb : b < 2 ^ 64) : Ev (fun k => spec_ItemOk.j1 k x kd n b t) (decide (x = false ∧ (kd = 2 ∨ b = 0) ∧ (kd = 3 ∨ t.length = 0))) := by
  cases x with
  | true =>
    refine Ev.step (fun k => by rw [spec_ItemOk.j1, if_pos rfl]) ?_
    rw [decide_eq_false (by simp)]
    exact Ev.now _
  | false =>
    refine Ev.step (fun k => by rw [spec_ItemOk.j1, if_neg Bool.false_ne_true]) ?_
    have fin : Ev (fun _ => if kd = 3 then some true else some ((t.length : Int) == 0)) (decide (kd = 3 ∨ t.length = 0)) := by
      by_cases h3 : kd = 3
      · refine ev_pos h3 ?_
        rw [decide_eq_true (Or.inl h3)]
        exact Ev.now _
      · refine ev_neg h3 ?_
        rw [show ((t.length : Int) == 0) = decide (kd = 3 ∨ t.length = 0) by rw [Bool.eq_iff_iff]; simp [h3]]
        exact Ev.now _
    by_cases h2 : kd = 2
    · refine ev_pos h2 ?_
      rw [show decide (false = false ∧ (kd = 2 ∨ b = 0) ∧ (kd = 3 ∨ t.length = 0)) = decide (kd = 3 ∨ t.length = 0) from decide_eq_decide.2 (by simp [h2])]
      exact fin
    · refine ev_neg h2 ?_
      refine Ev.bind (spec_FloatBits_f b hb) ?_
      by_cases h0 : b = 0
      · refine ev_pos ((canon_zero b).2 h0) ?_
        rw [show decide (false = false ∧ (kd = 2 ∨ b = 0) ∧ (kd = 3 ∨ t.length = 0)) = decide (kd = 3 ∨ t.length = 0) from decide_eq_decide.2 (by simp [h0])]
        exact fin
      · refine ev_neg (fun h => h0 ((canon_zero b).1 h)) ?_
        rw [decide_eq_false (by simp [h0, h2])]
        exact Ev.now _
theorem spec_ItemOk_j0 (x : Bool) (kd n : Int) (b : Nat) (t : List Int) (hb : b < 2 ^ 64) : Ev (fun k => spec_ItemOk.j0 k x kd n b t) (decide (x = false ∧ (kd = 1 ∨ n = 0) ∧ (kd = 2 ∨ b = 0) ∧ (kd = 3 ∨ t.length = 0))) := by
  cases x with
  | true =>
    refine Ev.step (fun k => by rw [spec_ItemOk.j0, if_pos rfl]) ?_
    rw [decide_eq_false (by simp)]
    exact Ev.now _
  | false =>
    refine Ev.step (fun k => by rw [spec_ItemOk.j0, if_neg Bool.false_ne_true]) ?_
    by_cases h1 : kd = 1
    · refine ev_pos h1 ?_
      rw [show decide (false = false ∧ (kd = 1 ∨ n = 0) ∧ (kd = 2 ∨ b = 0) ∧ (kd = 3 ∨ t.length = 0)) = decide (false = false ∧ (kd = 2 ∨ b = 0) ∧ (kd = 3 ∨ t.length = 0)) from decide_eq_decide.2 (by simp [h1])]
      exact spec_ItemOk_j1 false kd n b t hb
    · refine ev_neg h1 ?_
      rw [show decide (false = false ∧ (kd = 1 ∨ n = 0) ∧ (kd = 2 ∨ b = 0) ∧ (kd = 3 ∨ t.length = 0)) = decide ((n != 0) = false ∧ (kd = 2 ∨ b = 0) ∧ (kd = 3 ∨ t.length = 0)) from decide_eq_decide.2 (by simp [h1])]
      exact spec_ItemOk_j1 _ kd n b t hb
theorem spec_ItemOk_f (kd n : Int) (b : Nat) (t : List Int) (hb : b < 2 ^ 64) : Ev (fun k => spec_ItemOk.f k kd n b t) (itemOkP kd n b t) := by
  unfold spec_ItemOk.f itemOkP
  by_cases h1 : kd < 0
  · refine ev_pos h1 ?_
    rw [decide_eq_false (by omega)]
    have := spec_ItemOk_j0 true kd n b t hb
    rwa [decide_eq_false (by simp)] at this
  · refine ev_neg h1 ?_
    by_cases h2 : kd > 3
    · refine ev_pos h2 ?_
      rw [decide_eq_false (by omega)]
      have := spec_ItemOk_j0 true kd n b t hb
      rwa [decide_eq_false (by simp)] at this
    · refine ev_neg h2 ?_
      have := spec_ItemOk_j0 (decide ((t.length : Int) > 40)) kd n b t hb
      rwa [show decide (decide ((t.length : Int) > 40) = false ∧ (kd = 1 ∨ n = 0) ∧ (kd = 2 ∨ b = 0) ∧ (kd = 3 ∨ t.length = 0)) = decide (0 ≤ kd ∧ kd ≤ 3 ∧ t.length ≤ 40 ∧ (kd = 1 ∨ n = 0) ∧ (kd = 2 ∨ b = 0) ∧ (kd = 3 ∨ t.length = 0)) from decide_eq_decide.2 (by rw [decide_eq_false_iff_not]; omega)] at this
theorem impl_ItemOk_f (kd n : Int) (b : Nat) (t : List Int) : impl_ItemOk.f kd n b t = some (itemOkP kd n b t) := by
  unfold impl_ItemOk.f itemOkP
  rw [impl_within_f]
  simp only [Option.bind_some]
  repeat' split
  all_goals refine congrArg some ?_
  all_goals simp only [decide_eq_true_eq] at *
  all_goals first
    | (symm; rw [decide_eq_true_eq]; omega)
    | (symm; rw [decide_eq_false_iff_not]; omega)
    | (rw [decide_eq_decide]; omega)
theorem feq_zero_any (b : Nat) (hb : b < 2 ^ 64) : feq b 0 = decide (b = 0 ∨ b = 9223372036854775808) := by
  cases hn : isn b with
  | true =>
    rw [(cmp_nan b 0 (Or.inl ⟨hb, hn⟩)).1]
    symm
    refine decide_eq_false ?_
    rintro (rfl | rfl)
    · exact absurd hn (by decide)
    · exact absurd hn (by decide)
  | false => exact feq_zero b hb hn
/-- when an item can be a key -/
def keyOkP (kd n : Int) (b : Nat) (t : List Int) : Bool := itemOkP kd n b t && decide (kd ≠ 0 ∧ b ≠ 9223372036854775808)
theorem spec_KeyOk_f (kd n : Int) (b : Nat) (t : List Int) (hb : b < 2 ^ 64) : Ev (fun k => spec_KeyOk.f k kd n b t) (keyOkP kd n b t) := by
  unfold spec_KeyOk.f keyOkP
  refine Ev.bind (spec_ItemOk_f kd n b t hb) ?_
  cases itemOkP kd n b t with
  | false => exact ev_neg Bool.false_ne_true (Ev.now _)
  | true =>
    refine ev_pos rfl ?_
    by_cases h0 : kd = 0
    · refine ev_pos h0 ?_
      rw [decide_eq_false (by simp [h0])]
      exact Ev.now _
    · refine ev_neg h0 ?_
      rw [feq_zero_any b hb]
      by_cases hz : b = 0 ∨ b = 9223372036854775808
      · refine ev_pos (decide_eq_true hz) ?_
        refine Ev.bind (spec_FloatBits_f b hb) ?_
        have : (!((if isn b then 9221120237041090560 else (b : Int)) != 0)) = (true && decide (kd ≠ 0 ∧ b ≠ 9223372036854775808)) := by
          rcases hz with rfl | rfl
          · rw [(canon_zero 0).2 rfl, decide_eq_true ⟨h0, by omega⟩]
            rfl
          · rw [show isn 9223372036854775808 = false by decide, decide_eq_false (by simp)]
            rfl
        rw [this]
        exact Ev.now _
      · refine ev_neg (by rw [decide_eq_false hz]; exact Bool.false_ne_true) ?_
        rw [decide_eq_true ⟨h0, fun h => hz (Or.inr h)⟩]
        exact Ev.now _
theorem impl_KeyOk_f (kd n : Int) (b : Nat) (t : List Int) (hb : b < 2 ^ 64) : impl_KeyOk.f kd n b t = some (keyOkP kd n b t) := by
  unfold impl_KeyOk.f keyOkP
  rw [impl_ItemOk_f, feq_zero_any b hb]
  cases itemOkP kd n b t with
  | false => rfl
  | true =>
    simp only [Option.bind_some, if_true, Bool.true_and]
    repeat' split
    all_goals refine congrArg some ?_
    all_goals try simp only [decide_eq_true_eq] at *
    all_goals first
      | (symm; rw [decide_eq_true_eq]; omega)
      | (symm; rw [decide_eq_false_iff_not]; omega)
      | (rw [Bool.eq_iff_iff]; simp; omega)
/-- n bytes, high first -/
def hi (x : Int) : Nat → List Int
  | 0 => []
  | n + 1 => (x / 256 ^ n % 256) :: hi x n
theorem hi_length (x : Int) (n : Nat) : (hi x n).length = n := by
  induction n with
  | zero => rfl
  | succ n ih => simp [hi, ih]
theorem hi_bytes (x : Int) (n : Nat) : IsBytes (hi x n) := by
  induction n with
  | zero => exact isBytes_nil
  | succ n ih =>
    intro y hy
    rcases List.mem_cons.1 hy with rfl | h
    · omega
    · exact ih y h
theorem wrap_u64 {x : Int} (h0 : 0 ≤ x) (h1 : x < 18446744073709551616) : IntKind.u64.wrap x = x := by simp [IntKind.wrap, IntKind.bits, IntKind.signed]; omega
theorem shr_u64 (x : Int) (n : Nat) (h : n < 8) : shr .u64 x (8 * (n : Int)) = x / 256 ^ n := by
  unfold shr
  rw [show ((8 * (n : Int)).toNat) = 8 * n by omega, Nat.min_eq_left (by simp [IntKind.bits]; omega), Int.pow_mul]
  rfl
theorem mask255 (y : Int) (h0 : 0 ≤ y) (h1 : y < 18446744073709551616) : Go.bits .and .u64 y 255 = y % 256 :=
  bits_mask .u64 64 (by decide) (fun n a b => wrap_u64 a (by omega)) 8 (by omega) y h0 h1
theorem quot_pow (x : Int) (n : Nat) (h0 : 0 ≤ x) (h1 : x < 18446744073709551616) : 0 ≤ x / 256 ^ n ∧ x / 256 ^ n < 18446744073709551616 := by
  have hp : (0 : Int) < 256 ^ n := Int.pow_pos (by omega)
  have h2 : 0 ≤ x / 256 ^ n := Int.ediv_nonneg h0 (Int.le_of_lt hp)
  have h3 := Int.ediv_le_self (256 ^ n) h0
  omega
theorem l3high_l (x : Int) (h0 : 0 ≤ x) (h1 : x < 18446744073709551616) : ∀ (n : Nat) (acc : List Int), n ≤ 8 → acc.length ≤ 8 - n → Ev (fun k => spec_l3high.l0 k x acc ((n : Int) - 1)) (acc ++ hi x n)
  | 0, acc, _, _ => by
    refine Ev.step (fun k => by rw [spec_l3high.l0, if_neg (by omega)]) ?_
    rw [show acc ++ hi x 0 = acc by simp [hi]]
    exact Ev.now _
  | n + 1, acc, hn, ha => by
    have hq := quot_pow x n h0 h1
    have e : IntKind.u64.wrap (wrap64 (8 * (((n + 1 : Nat) : Int) - 1))) = 8 * (n : Int) := by rw [w64 (by omega) (by omega), wrap_u64 (by omega) (by omega)]; omega
    refine Ev.step (fun k => by rw [spec_l3high.l0, if_pos (by omega)]) ?_
    rw [e]
    refine ev_pos (by omega) (ev_pos (by omega) ?_)
    rw [shr_u64 x n (by omega), mask255 _ hq.1 hq.2, w64 (by omega) (by omega), show ((n + 1 : Nat) : Int) - 1 - 1 = (n : Int) - 1 by omega]
    have := l3high_l x h0 h1 n (acc ++ [x / 256 ^ n % 256 % 256]) (by omega) (by simp; omega)
    rw [show x / 256 ^ n % 256 % 256 = x / 256 ^ n % 256 by omega, List.append_assoc] at this
    rw [show x / 256 ^ n % 256 % 256 = x / 256 ^ n % 256 by omega]
    exact this
theorem spec_l3high_f (x : Int) (h0 : 0 ≤ x) (h1 : x < 18446744073709551616) : Ev (fun k => spec_l3high.f k x) (hi x 8) := by
  unfold spec_l3high.f
  exact l3high_l x h0 h1 8 [] (by omega) (by simp)
/-- a whole number's bits with the sign turned -/
def turned (n : Int) : Int := (n + 9223372036854775808) % 18446744073709551616
theorem turned_bound (n : Int) : 0 ≤ turned n ∧ turned n < 18446744073709551616 := by unfold turned; omega
theorem wrap_mod (n : Int) : IntKind.u64.wrap n = n % 18446744073709551616 := by simp [IntKind.wrap, IntKind.bits, IntKind.signed]
theorem turn_spec (n : Int) : Go.bits .xor .u64 (IntKind.u64.wrap n) 9223372036854775808 = turned n := by
  rw [wrap_mod]
  obtain ⟨m, hm⟩ : ∃ m : Nat, (m : Int) = n % 18446744073709551616 := ⟨(n % 18446744073709551616).toNat, by omega⟩
  have hlt : m < 18446744073709551616 := by omega
  rw [← hm]
  have h2 := bits_xor_nat .u64 64 (by decide) (fun n a b => wrap_u64 a (by omega)) m 9223372036854775808 (by omega) (by omega)
  rw [show Go.bits .xor .u64 (m : Int) 9223372036854775808 = Go.bits .xor .u64 (m : Int) ((9223372036854775808 : Nat) : Int) from rfl, h2]
  unfold turned
  by_cases hs : m < 9223372036854775808
  · have h3 := fneg_pos m hs
    rw [show m ^^^ 9223372036854775808 = 9223372036854775808 + m from h3]
    omega
  · obtain ⟨c, rfl⟩ := Nat.le.dest (Nat.le_of_not_lt hs)
    have h3 := fneg_neg c (by omega)
    rw [show (9223372036854775808 + c) ^^^ 9223372036854775808 = c from h3]
    omega
/-- an item's bytes, with these bits of its float -/
def itemBytesOf (kd n : Int) (t : List Int) (bits : Int) : List Int := (kd % 256) :: (if kd = 1 then hi (turned n) 8 else if kd = 2 then hi bits 8 else t)
theorem itemBytesOf_bytes (kd n : Int) (t : List Int) (bits : Int) (ht : IsBytes t) : IsBytes (itemBytesOf kd n t bits) := by
  have h1 : IsBytes ([kd % 256] ++ (if kd = 1 then hi (turned n) 8 else if kd = 2 then hi bits 8 else t)) := by
    refine isBytes_append (isBytes_one (by omega)) ?_
    split
    · exact hi_bytes _ _
    · split
      · exact hi_bytes _ _
      · exact ht
  exact h1
theorem spec_l3bytes_f (kd n : Int) (b : Nat) (t : List Int) (ht : t.length ≤ 1048576) (bits : Int) (h0 : 0 ≤ bits) (h1 : bits < 18446744073709551616) : Ev (fun k => spec_l3bytes.f k kd n b t bits) (itemBytesOf kd n t bits) := by
  unfold spec_l3bytes.f itemBytesOf
  refine ev_bind0 rfl ?_
  by_cases hk : kd = 1
  · rw [if_pos hk]
    refine ev_pos hk ?_
    rw [turn_spec]
    refine Ev.bind (spec_l3high_f _ (turned_bound n).1 (turned_bound n).2) ?_
    refine ev_pos (by rw [hi_length]; simp) ?_
    exact Ev.now _
  · rw [if_neg hk]
    refine ev_neg hk ?_
    by_cases hk2 : kd = 2
    · rw [if_pos hk2]
      refine ev_pos hk2 ?_
      refine Ev.bind (spec_l3high_f _ h0 h1) ?_
      refine ev_pos (by rw [hi_length]; simp) ?_
      exact Ev.now _
    · rw [if_neg hk2]
      refine ev_neg hk2 ?_
      refine ev_pos (by simp; omega) ?_
      exact Ev.now _
theorem rankOf_bound (a : Nat) (ha : a < 2 ^ 64) : 0 ≤ rankOf a ∧ rankOf a < 18446744073709551616 := by
  unfold rankOf
  repeat' split
  all_goals omega
def keyBytesOf (kd n : Int) (b : Nat) (t : List Int) : List Int := if keyOkP kd n b t = true then itemBytesOf kd n t (rankOf b) else []
theorem spec_KeyBytes_f (kd n : Int) (b : Nat) (t : List Int) (hb : b < 2 ^ 64) (ht : t.length ≤ 1048576) : Ev (fun k => spec_KeyBytes.f k kd n b t) (keyBytesOf kd n b t) := by
  unfold spec_KeyBytes.f keyBytesOf
  refine Ev.bind (spec_KeyOk_f kd n b t hb) ?_
  cases keyOkP kd n b t with
  | false => exact ev_neg Bool.false_ne_true (Ev.now _)
  | true =>
    refine ev_pos rfl ?_
    refine Ev.bind (spec_FloatRank_f b hb) ?_
    refine Ev.bind (spec_l3bytes_f kd n b t ht _ (rankOf_bound b hb).1 (rankOf_bound b hb).2) ?_
    exact Ev.now _
def cmp3 (a b : Int) : Int := if a < b then -1 else if a > b then 1 else 0
def lex : List Int → List Int → Int
  | [], [] => 0
  | [], _ :: _ => -1
  | _ :: _, [] => 1
  | a :: xs, b :: ys => if a < b then -1 else if a > b then 1 else lex xs ys
theorem lex_bytes : ∀ (a b : List Int), IsBytes a → IsBytes b → Lib.compareBytes (Lib.bytesOf a) (Lib.bytesOf b) = lex a b
  | [], [], _, _ => rfl
  | [], _ :: _, _, _ => rfl
  | _ :: _, [], _, _ => rfl
  | x :: a, y :: b, ha, hb => by
    have hx := ha x (List.mem_cons_self ..)
    have hy := hb y (List.mem_cons_self ..)
    have ih := lex_bytes a b (fun z hz => ha z (List.mem_cons_of_mem _ hz)) (fun z hz => hb z (List.mem_cons_of_mem _ hz))
    show Lib.compareBytes (UInt8.ofNat x.toNat :: Lib.bytesOf a) (UInt8.ofNat y.toNat :: Lib.bytesOf b) = _
    have lt : ∀ u v : Int, 0 ≤ u ∧ u ≤ 255 → 0 ≤ v ∧ v ≤ 255 → (UInt8.ofNat u.toNat < UInt8.ofNat v.toNat ↔ u < v) := by
      intro u v hu hv
      rw [UInt8.lt_iff_toNat_lt, UInt8.toNat_ofNat', UInt8.toNat_ofNat']
      omega
    rw [Lib.compareBytes, lex]
    by_cases h1 : x < y
    · rw [if_pos ((lt x y hx hy).2 h1), if_pos h1]
    · rw [if_neg (fun h => h1 ((lt x y hx hy).1 h)), if_neg h1]
      by_cases h2 : x > y
      · rw [if_pos ((lt y x hy hx).2 h2), if_pos h2]
      · rw [if_neg (fun h => h2 ((lt y x hy hx).1 h)), if_neg h2, ih]
/-- the order of valid items -/
def itemOrder (kd n : Int) (b : Nat) (t : List Int) (kd' n' : Int) (b' : Nat) (t' : List Int) : Int := if cmp3 kd kd' = 0 then if cmp3 n n' = 0 then if cmp3 (rankOf b) (rankOf b') = 0 then lex t t' else cmp3 (rankOf b) (rankOf b') else cmp3 n n' else cmp3 kd kd'
theorem cmp3_zero (a b : Int) : cmp3 a b = 0 ↔ a = b := by
  unfold cmp3
  split
  · omega
  · split <;> omega
theorem impl_FloatCompare_f (a b : Nat) (ha : a < 2 ^ 64) (hb : b < 2 ^ 64) : impl_FloatCompare.f a b = some (cmp3 (rankOf a) (rankOf b)) := by
  unfold impl_FloatCompare.f cmp3
  rw [impl_FloatRank_f a ha, impl_FloatRank_f b hb]
  simp only [Option.bind_some, cmp_Compare_uint64.f, cmp_isNaN_uint64.f, bne_self_eq_false, Bool.false_eq_true, if_false]
  split
  · rfl
  · split <;> rfl
theorem cmp_int_f (a b : Int) : cmp_Compare_int.f a b = some (cmp3 a b) := by
  unfold cmp3
  simp only [Option.bind_some, cmp_Compare_int.f, cmp_isNaN_int.f, bne_self_eq_false, Bool.false_eq_true, if_false]
  split
  · rfl
  · split <;> rfl
theorem cmp_or4 (a b c d : Int) : Ev (fun k => cmp_Or_int.f k [a, b, c, d]) (if a = 0 then if b = 0 then if c = 0 then d else c else b else a) := by
  unfold cmp_Or_int.f
  have r : ∀ (i : Nat) (x : Int), rd [a, b, c, d] (i : Int) = x → i < 4 → ∀ (A : Int), (x = 0 → Ev (fun k => cmp_Or_int.l0 k 0 [a, b, c, d] 4 ((i : Int) + 1)) A) → (x ≠ 0 → A = x) → Ev (fun k => cmp_Or_int.l0 k 0 [a, b, c, d] 4 (i : Int)) A := by
    intro i x hx hi A h1 h2
    refine Ev.step (fun k => by rw [cmp_Or_int.l0, if_pos (by omega)]) ?_
    refine ev_pos (by omega) (ev_pos (by simp; omega) ?_)
    rw [hx]
    by_cases h : x = 0
    · refine ev_pos h ?_
      rw [w64 (by omega) (by omega)]
      exact h1 h
    · rw [h2 h]
      exact ev_neg h (Ev.now _)
  show Ev (fun k => cmp_Or_int.l0 k 0 [a, b, c, d] 4 ((0 : Nat) : Int)) _
  refine r 0 a rfl (by omega) _ (fun h1 => ?_) (fun h1 => if_neg h1)
  rw [if_pos h1]
  refine r 1 b rfl (by omega) _ (fun h2 => ?_) (fun h2 => if_neg h2)
  rw [if_pos h2]
  refine r 2 c rfl (by omega) _ (fun h3 => ?_) (fun h3 => if_neg h3)
  rw [if_pos h3]
  refine r 3 d rfl (by omega) _ (fun h4 => ?_) (fun _ => rfl)
  refine Ev.step (fun k => by rw [cmp_Or_int.l0, if_neg (by omega)]) ?_
  rw [h4]
  exact Ev.now _
theorem impl_compareItems_f (kd n : Int) (b : Nat) (t : List Int) (kd' n' : Int) (b' : Nat) (t' : List Int) (hb : b < 2 ^ 64) (hb' : b' < 2 ^ 64) (ht : IsBytes t) (ht' : IsBytes t') : Ev (fun k => impl_compareItems.f k kd n b t kd' n' b' t') (itemOrder kd n b t kd' n' b' t') := by
  unfold impl_compareItems.f itemOrder
  refine ev_bind0 (cmp_int_f kd kd') (ev_bind0 (cmp_int_f n n') (ev_bind0 (impl_FloatCompare_f b b' hb hb') (ev_bind0 (show bytes_Compare.f t t' = some (lex t t') by unfold bytes_Compare.f; rw [lex_bytes t t' ht ht']) ?_)))
  refine Ev.bind (cmp_or4 _ _ _ _) ?_
  exact Ev.now _
/-- whether a key lies between two others -/
def inSpanP (k1 n1 : Int) (b1 : Nat) (t1 : List Int) (k2 n2 : Int) (b2 : Nat) (t2 : List Int) (k3 n3 : Int) (b3 : Nat) (t3 : List Int) : Bool :=
  if keyOkP k1 n1 b1 t1 = true then if keyOkP k2 n2 b2 t2 = true then if keyOkP k3 n3 b3 t3 = true then if itemOrder k1 n1 b1 t1 k3 n3 b3 t3 ≤ 0 then decide (itemOrder k3 n3 b3 t3 k2 n2 b2 t2 ≤ 0) else false else false else false else false
theorem impl_InSpan_f (k1 n1 : Int) (b1 : Nat) (t1 : List Int) (k2 n2 : Int) (b2 : Nat) (t2 : List Int) (k3 n3 : Int) (b3 : Nat) (t3 : List Int) (hb1 : b1 < 2 ^ 64) (hb2 : b2 < 2 ^ 64) (hb3 : b3 < 2 ^ 64)
    (ht1 : IsBytes t1) (ht2 : IsBytes t2) (ht3 : IsBytes t3) : Ev (fun k => impl_InSpan.f k k1 n1 b1 t1 k2 n2 b2 t2 k3 n3 b3 t3) (inSpanP k1 n1 b1 t1 k2 n2 b2 t2 k3 n3 b3 t3) := by
  unfold impl_InSpan.f inSpanP
  refine ev_bind0 (impl_KeyOk_f k1 n1 b1 t1 hb1) ?_
  by_cases h1 : keyOkP k1 n1 b1 t1 = true
  · rw [if_pos h1]
    refine ev_pos h1 ?_
    refine ev_bind0 (impl_KeyOk_f k2 n2 b2 t2 hb2) ?_
    by_cases h2 : keyOkP k2 n2 b2 t2 = true
    · rw [if_pos h2]
      refine ev_pos h2 ?_
      refine ev_bind0 (impl_KeyOk_f k3 n3 b3 t3 hb3) ?_
      by_cases h3 : keyOkP k3 n3 b3 t3 = true
      · rw [if_pos h3]
        refine ev_pos h3 ?_
        refine Ev.bind (impl_compareItems_f k1 n1 b1 t1 k3 n3 b3 t3 hb1 hb3 ht1 ht3) ?_
        by_cases h4 : itemOrder k1 n1 b1 t1 k3 n3 b3 t3 ≤ 0
        · rw [if_pos h4]
          refine ev_pos h4 ?_
          refine Ev.bind (impl_compareItems_f k3 n3 b3 t3 k2 n2 b2 t2 hb3 hb2 ht3 ht2) ?_
          exact Ev.now _
        · rw [if_neg h4]
          exact ev_neg h4 (Ev.now _)
      · rw [if_neg h3]
        exact ev_neg h3 (Ev.now _)
    · rw [if_neg h2]
      exact ev_neg h2 (Ev.now _)
  · rw [if_neg h1]
    exact ev_neg h1 (Ev.now _)
open Ieee
theorem maskU (y : Int) (n : Nat) (hn : n ≤ 64) (h0 : 0 ≤ y) (h1 : y < 18446744073709551616) : Go.bits .and .u64 y (2 ^ n - 1) = y % 2 ^ n :=
  bits_mask .u64 64 (by decide) (fun n a b => by simp [IntKind.wrap, IntKind.bits, IntKind.signed]; omega) n (by omega) y h0 h1
theorem fofi_fl (n : Nat) : fofi (n : Int) = fl n 0 := by
  unfold fofi fl floatOfInt FloatKind.nearest
  show double.write (.number (decide ((n : Int) < 0)) (n : Int).natAbs 0) = _
  rw [decide_eq_false (by omega), Int.natAbs_natCast]
  rfl
theorem fl_zero (q : Int) : fl 0 q = 0 := by
  unfold fl Format.nearest
  rw [if_pos rfl, word_false]
theorem quo_zero (d : Nat) (r : Int) (hd : double.read d = .number false 4503599627370496 r) : double.div 0 d = some 0 := by
  unfold Format.div
  rw [read_zero, hd]
  unfold Datum.quotient
  dsimp only
  rw [if_neg (by omega), Nat.zero_shiftLeft, Nat.zero_div, Nat.zero_mod]
  show some (double.write (.number false (2 * 0 + 0) _)) = some 0
  rw [write_zero, word_false]
theorem add_one (N : Nat) (h0 : 0 < N) (h : N < 4503599627370496) : double.add (fl N (-52)) 4607182418800017408 = some (fl (4503599627370496 + N) (-52)) := by
  have hlog : N.log2 < 52 := (Nat.log2_lt (by omega)).2 h
  obtain ⟨s, e, hs, _⟩ := fl_reads N (-52) h0 (by omega) (by omega) (by omega)
  unfold Format.add
  rw [e, read_one]
  unfold Datum.sum
  dsimp only
  rw [show min ((-52 : Int) - s) (-52) = -52 - s by omega, signed_false, signed_false, show ((-52 : Int) - s - (-52 - s)).toNat = 0 by omega, show ((-52 : Int) - (-52 - s)).toNat = s by omega, Nat.pow_zero, Nat.mul_one]
  have ht : ((N * 2 ^ s : Nat) : Int) + ((4503599627370496 * 2 ^ s : Nat) : Int) = (((4503599627370496 + N) * 2 ^ s : Nat) : Int) := by
    rw [← Int.natCast_add, ← Nat.add_mul, Nat.add_comm N]
  rw [ht]
  have hpos : 0 < (4503599627370496 + N) * 2 ^ s := Nat.mul_pos (by omega) (Nat.two_pow_pos s)
  rw [if_neg (by omega), decide_eq_false (by omega), Int.natAbs_natCast]
  refine congrArg some ?_
  exact nearest_fl (4503599627370496 + N) (-52) s _ _ (by omega) (by omega) (by omega) rfl rfl
theorem fl_one : fl 4503599627370496 (-52) = 4607182418800017408 := by
  have := fl_eta 4607182418800017408 (by omega) (by omega)
  exact this
theorem one_of_zero : double.add 0 4607182418800017408 = some 4607182418800017408 := by
  unfold Format.add
  rw [read_one, read_zero]
  unfold Datum.sum
  dsimp only
  rw [show min (-1074 : Int) (-52) = -1074 by omega, signed_false, signed_false, Nat.zero_mul]
  obtain ⟨n, hn⟩ : ∃ n : Nat, n = 1022 := ⟨_, rfl⟩
  rw [show ((-52 : Int) - -1074).toNat = n by omega]
  have hpos : 0 < 4503599627370496 * 2 ^ n := Nat.mul_pos (by omega) (Nat.two_pow_pos _)
  generalize hq : 4503599627370496 * 2 ^ n = Q at hpos
  rw [show (((0 : Nat) : Int) + ((Q : Nat) : Int)) = (Q : Int) by omega, if_neg (by omega), decide_eq_false (by omega), Int.natAbs_natCast]
  refine congrArg some ?_
  rw [← fl_one]
  exact nearest_fl 4503599627370496 (-52) n _ _ (by omega) (by omega) (by omega) hq.symm (by omega)
/-- bits that stand for no number -/
def nanB (a : Int) : Bool := decide (a % 9223372036854775808 > 9218868437227405312)
theorem sign_f (a : Nat) (ha : a < 2 ^ 64) (b : Nat) (hb : b = a % 9223372036854775808) (k : Nat) (hx : b ≤ 9218868437227405312) : (if ((a : Int) / 9223372036854775808) = 1 then some (fneg b) else some b) = some a := by
  by_cases h : (a : Int) / 9223372036854775808 = 1
  · rw [if_pos h, fneg_pos b (by omega)]
    congr 1
    omega
  · rw [if_neg h]
    congr 1
    omega
theorem down_l (a : Nat) (ha : a < 2 ^ 64) (N : Nat) (h2 : N < 2 ^ 53) (b : Nat) (hb : b = a % 9223372036854775808) (hx : b < 9218868437227405312) (z : Int) (hz : fl N z = b) (hzl : -1074 ≤ z) (d : Nat) : ∀ (q : Int), d ≤ 2000 → q - d = z → (0 < N → q + N.log2 ≤ 1023) →
    Ev (fun k => spec_FloatOf.l1 k (a : Int) (fl N q) (-(d : Int))) a := by
  induction d with
  | zero =>
    intro q _ hq _
    have e : q = z := by omega
    rw [e, hz]
    refine Ev.step (fun k => by rw [spec_FloatOf.l1, if_neg (by omega)]) ?_
    rw [sign_f a ha b hb 0 (by omega)]
    exact Ev.now _
  | succ d ih =>
    intro q hd hq hv
    have e : fok .quo (fl N q) 4611686018427387904 = true ∧ fval .quo (fl N q) 4611686018427387904 = fl N (q - 1) := by
      by_cases h0 : N = 0
      · rw [h0, fl_zero, fl_zero]
        exact fl_ok (quo_zero _ _ read_two)
      · have := quo_pow N q 4611686018427387904 (-51) (by omega) h2 (by omega) (hv (by omega)) read_two (by omega)
        rw [show q - -51 - 52 = q - 1 by omega] at this
        exact fl_ok this
    refine Ev.step (fun k => by rw [spec_FloatOf.l1, if_pos (by omega), if_pos e.1, e.2, show wrap64 (-((d + 1 : Nat) : Int) + 1) = -(d : Int) by unfold wrap64; omega]) ?_
    exact ih (q - 1) (by omega) (by omega) (fun h => by have := hv h; omega)
theorem up_l (a : Nat) (ha : a < 2 ^ 64) (N : Nat) (h1 : 0 < N) (h2 : N < 2 ^ 53) (b : Nat) (hb : b = a % 9223372036854775808) (hx : b < 9218868437227405312) (z : Int) (hz : fl N z = b) (hzl : -1074 ≤ z) (hv : z + N.log2 ≤ 1023) (d : Nat) : ∀ (q : Int), d ≤ 2000 → -1074 ≤ q → q + d = z →
    Ev (fun k => spec_FloatOf.l0 k (a : Int) (fl N q) (d : Int)) a := by
  induction d with
  | zero =>
    intro q _ _ hq
    refine Ev.step (fun k => by rw [spec_FloatOf.l0, if_neg (by omega)]) ?_
    exact down_l a ha N h2 b hb hx z hz hzl 0 q (by omega) (by omega) (fun _ => by omega)
  | succ d ih =>
    intro q hd hl hq
    have e : fok .mul (fl N q) 4611686018427387904 = true ∧ fval .mul (fl N q) 4611686018427387904 = fl N (q + 1) := by
      have := mul_pow N q 4611686018427387904 (-51) h1 h2 hl (by omega) read_two (by omega)
      rw [show q + -51 + 52 = q + 1 by omega] at this
      exact fl_ok this
    refine Ev.step (fun k => by rw [spec_FloatOf.l0, if_pos (by omega), if_pos e.1, e.2, show wrap64 (((d + 1 : Nat) : Int) - 1) = (d : Int) by unfold wrap64; omega]) ?_
    exact ih (q + 1) (by omega) (by omega) (by omega)
theorem loop_f (a : Nat) (ha : a < 2 ^ 64) (N : Nat) (h1 : 0 < N) (h2 : N < 2 ^ 53) (b : Nat) (hb : b = a % 9223372036854775808) (hx : b < 9218868437227405312) (z : Int) (hz : fl N z = b) (hzl : -1074 ≤ z) (hv : z + N.log2 ≤ 1023) (m q : Int) (hm : -2000 ≤ m ∧ m ≤ 2000) (hq : q + m = z) (hql : -1074 ≤ q) (hqv : q + N.log2 ≤ 1023) :
    Ev (fun k => spec_FloatOf.j0 k (a : Int) (fl N q) m) a := by
  refine Ev.step (fun k => by rw [spec_FloatOf.j0]) ?_
  by_cases h : 0 ≤ m
  · obtain ⟨d, rfl⟩ : ∃ d : Nat, m = d := ⟨m.toNat, by omega⟩
    exact up_l a ha N h1 h2 b hb hx z hz hzl hv d q (by omega) hql hq
  · obtain ⟨d, rfl⟩ : ∃ d : Nat, m = -(d : Int) := ⟨(-m).toNat, by omega⟩
    refine Ev.step (fun k => by rw [spec_FloatOf.l0, if_neg (by omega)]) ?_
    exact down_l a ha N h2 b hb hx z hz hzl d q (by omega) (by omega) (fun _ => hqv)
theorem spec_FloatOf_f (a : Nat) (ha : a < 2 ^ 64) (hn : nanB a = false) : Ev (fun k => spec_FloatOf.f k (a : Int)) a := by
  have hn2 : ((a : Int) % 9223372036854775808) ≤ 9218868437227405312 := by
    unfold nanB at hn
    have := of_decide_eq_false hn
    omega
  unfold spec_FloatOf.f
  have m1 : Go.bits .and .u64 (a : Int) 4503599627370495 = ((a % 4503599627370496 : Nat) : Int) := by
    have := maskU (a : Int) 52 (by omega) (by omega) (by omega)
    rw [show ((2 : Int) ^ 52 - 1) = 4503599627370495 by decide] at this
    rw [this]
    omega
  have m2 : Go.bits .and .u64 ((a : Int) / 4503599627370496) 2047 = ((a / 4503599627370496 % 2048 : Nat) : Int) := by
    have := maskU ((a : Int) / 4503599627370496) 11 (by omega) (by omega) (by omega)
    rw [show ((2 : Int) ^ 11 - 1) = 2047 by decide] at this
    rw [this]
    omega
  rw [m1, m2]
  obtain ⟨F, hF⟩ : ∃ F, F = a % 4503599627370496 := ⟨_, rfl⟩
  obtain ⟨E, hE⟩ : ∃ E, E = a / 4503599627370496 % 2048 := ⟨_, rfl⟩
  rw [← hF, ← hE]
  have hb : E * 4503599627370496 + F = a % 9223372036854775808 := by omega
  have hFl : F < 4503599627370496 := by omega
  have w1 : wrap64 ((E : Nat) : Int) = (E : Int) := by unfold wrap64; omega
  have q1 : fok .quo (fofi ((F : Nat) : Int)) 4841369599423283200 = true ∧ fval .quo (fofi ((F : Nat) : Int)) 4841369599423283200 = fl F (-52) := by
    rw [fofi_fl]
    by_cases h0 : F = 0
    · rw [h0, fl_zero, fl_zero]
      exact fl_ok (quo_zero _ _ read_wide)
    · have hlog : F.log2 < 52 := (Nat.log2_lt (by omega)).2 hFl
      have := quo_pow F 0 4841369599423283200 0 (by omega) (by omega) (by omega) (by omega) read_wide (by omega)
      exact fl_ok this
  refine ev_pos q1.1 ?_
  rw [w1, q1.2]
  by_cases hinf : (E : Int) = 2047
  · refine ev_pos hinf ?_
    refine ev_pos (by omega) ?_
    have hd : fok .quo 4607182418800017408 0 = true ∧ fval .quo 4607182418800017408 0 = 9218868437227405312 := fl_ok (show floatBits .quo .f64 4607182418800017408 0 = some 9218868437227405312 from by
      show double.div 4607182418800017408 0 = some 9218868437227405312
      unfold Format.div
      rw [read_zero, read_one]
      rfl)
    refine ev_pos hd.1 ?_
    rw [hd.2, sign_f a ha 9218868437227405312 (by omega) 0 (by omega)]
    exact Ev.now _
  · refine ev_neg hinf ?_
    by_cases h0 : (E : Int) = 0
    · refine ev_pos h0 ?_
      by_cases hz : F = 0
      · refine Ev.step (fun k => by rw [spec_FloatOf.j0]) ?_
        refine Ev.step (fun k => by rw [spec_FloatOf.l0, if_neg (by omega)]) ?_
        exact down_l a ha F (by omega) (a % 9223372036854775808) rfl (by omega) (-1074) (by rw [hz, fl_zero]; omega) (by omega) 1022 (-52) (by omega) (by omega) (fun h => by omega)
      · have hlog : F.log2 < 52 := (Nat.log2_lt (by omega)).2 hFl
        have eta := fl_eta F (by omega) (by omega)
        rw [show mg F = F from if_pos hFl, show pl F = -1074 from if_pos hFl] at eta
        exact loop_f a ha F (by omega) (by omega) (a % 9223372036854775808) rfl (by omega) (-1074) (by rw [eta]; omega) (by omega) (by omega) (-1022) (-52) (by omega) (by omega) (by omega) (by omega)
    · refine ev_neg h0 ?_
      have add : fok .add (fl F (-52)) 4607182418800017408 = true ∧ fval .add (fl F (-52)) 4607182418800017408 = fl (4503599627370496 + F) (-52) := by
        by_cases hz : F = 0
        · rw [hz, fl_zero, Nat.add_zero, fl_one]
          exact fl_ok one_of_zero
        · exact fl_ok (add_one F (by omega) hFl)
      refine ev_pos add.1 ?_
      rw [add.2, show wrap64 ((E : Int) - 1023) = (E : Int) - 1023 by unfold wrap64; omega]
      have hlog : (4503599627370496 + F).log2 = 52 := (Nat.log2_eq_iff (by omega)).2 (by constructor <;> omega)
      have eta := fl_eta (E * 4503599627370496 + F) (by omega) (by omega)
      rw [show mg (E * 4503599627370496 + F) = 4503599627370496 + F from by unfold mg; rw [if_neg (by omega)]; omega, show pl (E * 4503599627370496 + F) = (E : Int) - 1075 from by unfold pl; rw [if_neg (by omega)]; omega] at eta
      exact loop_f a ha (4503599627370496 + F) (by omega) (by omega) (a % 9223372036854775808) rfl (by omega) ((E : Int) - 1075) (by rw [eta, hb]) (by omega) (by rw [hlog]; omega) ((E : Int) - 1023) (-52) (by omega) (by omega) (by omega) (by rw [hlog]; omega)
theorem nanC_of (a : Nat) (ha : a < 2 ^ 64) (hn : isn a = true) : spec_FloatOf.nanC (a : Int) := by
  have hn2 : 9218868437227405312 < a % 9223372036854775808 := of_decide_eq_true hn
  have m1 : Go.bits .and .u64 (a : Int) 4503599627370495 = ((a % 4503599627370496 : Nat) : Int) := by
    have := maskU (a : Int) 52 (by omega) (by omega) (by omega)
    rw [show ((2 : Int) ^ 52 - 1) = 4503599627370495 by decide] at this
    rw [this]
    omega
  have m2 : Go.bits .and .u64 ((a : Int) / 4503599627370496) 2047 = ((a / 4503599627370496 % 2048 : Nat) : Int) := by
    have := maskU ((a : Int) / 4503599627370496) 11 (by omega) (by omega) (by omega)
    rw [show ((2 : Int) ^ 11 - 1) = 2047 by decide] at this
    rw [this]
    omega
  unfold spec_FloatOf.nanC
  rw [m1, m2]
  have hF0 : 0 < a % 4503599627370496 := by omega
  have hE : a / 4503599627370496 % 2048 = 2047 := by omega
  have hFl : a % 4503599627370496 < 4503599627370496 := by omega
  generalize a % 4503599627370496 = F at *
  refine ⟨?_, ?_, ?_, ?_⟩
  · rw [fofi_fl]
    have hlog : F.log2 < 52 := (Nat.log2_lt (by omega)).2 hFl
    have t := quo_pow F 0 4841369599423283200 0 (by omega) (by omega) (by omega) (by omega) read_wide (by omega)
    exact (fl_ok (o := .quo) (a := fl F 0) (b := 4841369599423283200) t).1
  · rw [hE]
    unfold wrap64
    omega
  · omega
  · show (floatBits .quo .f64 0 0).isSome = false
    have : floatBits .quo .f64 0 0 = none := by
      show double.div 0 0 = none
      unfold Format.div
      rw [read_zero]
      rfl
    rw [this]
    rfl
theorem nanC_none (a : Int) (h : spec_FloatOf.nanC a) (k : Nat) : spec_FloatOf.f k a = none := by
  obtain ⟨h1, h2, h3, h4⟩ := h
  unfold spec_FloatOf.f
  rw [if_pos h1, if_pos h2, if_neg h3, if_neg (by rw [h4]; decide)]
theorem nanB_isn (a : Nat) : nanB (a : Int) = isn a := by
  unfold nanB isn
  exact decide_eq_decide.2 (by omega)
theorem i64_and255 (n : Int) : Go.bits .and .i64 n 255 = n % 256 := by
  have h127 : (BitVec.ofInt 64 255).toNat = 2 ^ 8 - 1 := by decide
  have key : (BitVec.ofInt 64 n &&& BitVec.ofInt 64 255).toNat = (n % ((2 ^ 64 : Nat) : Int)).toNat % 2 ^ 8 := by
    rw [BitVec.toNat_and, BitVec.toNat_ofInt, h127, Nat.and_two_pow_sub_one_eq_mod]
  show IntKind.i64.wrap ((BitVec.ofInt 64 n &&& BitVec.ofInt 64 255).toNat : Nat) = n % 256
  rw [key, IntKind.wrap_i64]
  omega
theorem u64_range (n : Int) : 0 ≤ IntKind.u64.wrap n ∧ IntKind.u64.wrap n < 18446744073709551616 := by
  have h : IntKind.u64.wrap n = n % 18446744073709551616 := by simp [IntKind.wrap, IntKind.bits, IntKind.signed]
  rw [h]
  omega
theorem or_range (x y : Int) : 0 ≤ Go.bits .or .u64 x y ∧ Go.bits .or .u64 x y < 18446744073709551616 := u64_range _
theorem byte_f (b : List Int) (hb : b.length ≤ 1048576) (i h : Int) (hi : 0 ≤ i) : ∃ x i' h', spec_l1Byte.f b i h = some (x, i', h') ∧ 0 ≤ x ∧ x ≤ 255 ∧ 0 ≤ i' := by
  unfold spec_l1Byte.f
  by_cases h1 : i < (b.length : Int)
  · rw [if_pos h1, if_pos hi]
    exact ⟨_, _, _, rfl, by rw [i64_and255]; omega, by rw [i64_and255]; omega, by rw [w64 (by omega) (by omega)]; omega⟩
  · rw [if_neg h1]
    exact ⟨_, _, _, rfl, by rw [i64_and255]; omega, by rw [i64_and255]; omega, hi⟩
theorem tmod_range (x n : Int) (hx : 0 ≤ x) (hn : 0 < n) : 0 ≤ Int.tmod x n ∧ Int.tmod x n < n := by
  rw [Int.tmod_eq_emod_of_nonneg hx]
  exact ⟨Int.emod_nonneg _ (by omega), Int.emod_lt_of_pos _ hn⟩
theorem below_f (b : List Int) (hb : b.length ≤ 1048576) (i h : Int) (hi : 0 ≤ i) (n : Int) : ∃ x i' h', spec_l1Below.f b i h n = some (x, i', h') ∧ 0 ≤ x ∧ (0 < n → x < n) ∧ 0 ≤ i' := by
  unfold spec_l1Below.f
  by_cases h1 : n ≤ 0
  · rw [if_pos h1]
    exact ⟨_, _, _, rfl, by omega, by omega, hi⟩
  rw [if_neg h1]
  by_cases h2 : n ≤ 256
  · rw [if_pos h2]
    obtain ⟨x, i1, h1', e1, x0, x1, q1⟩ := byte_f b hb i h hi
    rw [e1, Option.bind_some, if_neg (by omega)]
    have := tmod_range x n x0 (by omega)
    exact ⟨_, _, _, rfl, this.1, fun _ => this.2, q1⟩
  · rw [if_neg h2]
    obtain ⟨x, i1, g1, e1, x0, x1, q1⟩ := byte_f b hb i h hi
    obtain ⟨y, i2, g2, e2, y0, y1, q2⟩ := byte_f b hb i1 g1 q1
    obtain ⟨z, i3, g3, e3, z0, z1, q3⟩ := byte_f b hb i2 g2 q2
    obtain ⟨v, i4, g4, e4, v0, v1, q4⟩ := byte_f b hb i3 g3 q3
    simp only [e1, e2, e3, e4, Option.bind_some]
    rw [if_neg (by omega), w64 (x := x * 16777216) (by omega) (by omega), w64 (x := y * 65536) (by omega) (by omega), w64 (x := z * 256) (by omega) (by omega), w64 (x := x * 16777216 + y * 65536) (by omega) (by omega), w64 (x := x * 16777216 + y * 65536 + z * 256) (by omega) (by omega), w64 (by omega) (by omega)]
    have := tmod_range (x * 16777216 + y * 65536 + z * 256 + v) n (by omega) (by omega)
    exact ⟨_, _, _, rfl, this.1, fun _ => this.2, q4⟩
theorem l1New_l (l : List Int) (hl : l.length ≤ 1048576) (d : Nat) : ∀ (i : Nat) (x : Int), i + d = l.length → ∃ h, Ev (fun k => spec_l1New.l0 k l x (i : Int)) (l, 0, h) := by
  induction d with
  | zero =>
    intro i x hi
    exact ⟨x, Ev.step (fun k => by rw [spec_l1New.l0, if_neg (by omega)]) (Ev.now _)⟩
  | succ d ih =>
    intro i x hi
    by_cases h4 : (i : Int) < 4000
    · obtain ⟨h, hh⟩ := ih (i + 1) (Go.bits .and .i64 (wrap64 ((wrap64 ((wrap64 (x * 131)) + (wrap64 (rd l (i : Int))))) + 7)) 1073741823) (by omega)
      refine ⟨h, Ev.step (fun k => by rw [spec_l1New.l0, if_pos (by omega), if_pos h4, if_pos (by omega), w64 (x := (i : Int) + 1) (by omega) (by omega)]) ?_⟩
      exact hh
    · exact ⟨x, Ev.step (fun k => by rw [spec_l1New.l0, if_pos (by omega), if_neg h4]) (Ev.now _)⟩
theorem l1New_f (l : List Int) (hl : l.length ≤ 1048576) : ∃ h, Ev (fun k => spec_l1New.f k l) (l, 0, h) := by
  obtain ⟨h, hh⟩ := l1New_l l hl l.length 0 (wrap64 (25252 + (l.length : Int))) (by omega)
  refine ⟨h, ?_⟩
  unfold spec_l1New.f
  exact hh
theorem fofi_small : ∀ m : Fin 21, fofi ((m.val : Int) - 10) < 2 ^ 64 := by decide
theorem bits_total (a : Nat) (ha : a < 2 ^ 64) : ∃ r, Ev (fun k => spec_FloatBits.f k a) r ∧ 0 ≤ r ∧ r < 18446744073709551616 := by
  refine ⟨_, spec_FloatBits_f a ha, ?_, ?_⟩ <;> split <;> omega
theorem l2bits_end (b : List Int) (hb : b.length ≤ 1048576) (x : Int) (hx : 0 ≤ x ∧ x < 18446744073709551616) (i h : Int) (hi : 0 ≤ i) : ∃ r i' h', Ev (fun k => spec_l2bits.l0 k x 8 b i h) (r, i', h') ∧ 0 ≤ r ∧ r < 18446744073709551616 ∧ 0 ≤ i' := by
  obtain ⟨y, i1, h1, e1, y0, y1, q1⟩ := below_f b hb i h hi 9
  obtain ⟨z, i2, h2, e2, z0, z1, q2⟩ := below_f b hb i1 h1 q1 2
  obtain ⟨v, i3, h3, e3, v0, v1, q3⟩ := below_f b hb i2 h2 q2 3
  obtain ⟨z', i2', h2', e2', z0', z1', q2'⟩ := below_f b hb i1 h1 q1 12
  obtain ⟨v', i3', h3', e3', v0', v1', q3'⟩ := below_f b hb i2' h2' q2' 16
  obtain ⟨u, i4, h4, e4, u0, u1, q4⟩ := below_f b hb i1 h1 q1 21
  have y1' := y1 (by omega)
  have u1' := u1 (by omega)
  rcases (show y = 0 ∨ y = 1 ∨ y = 2 ∨ y = 3 ∨ y = 4 ∨ y = 5 ∨ (6 ≤ y) by omega) with rfl | rfl | rfl | rfl | rfl | rfl | h6
  · refine ⟨_, i3, h3, Ev.step (fun k => by rw [spec_l2bits.l0, if_neg (by omega), e1, Option.bind_some, if_pos rfl, e2, Option.bind_some, e3, Option.bind_some]) (Ev.now _), (or_range _ _).1, (or_range _ _).2, q3⟩
  · refine ⟨_, i3, h3, Ev.step (fun k => by rw [spec_l2bits.l0, if_neg (by omega), e1, Option.bind_some, if_neg (by omega), if_pos rfl, e2, Option.bind_some, e3, Option.bind_some]) (Ev.now _), (or_range _ _).1, (or_range _ _).2, q3⟩
  · refine ⟨_, i2, h2, Ev.step (fun k => by rw [spec_l2bits.l0, if_neg (by omega), e1, Option.bind_some, if_neg (by omega), if_neg (by omega), if_pos rfl, e2, Option.bind_some]) (Ev.now _), (or_range _ _).1, (or_range _ _).2, q2⟩
  · refine ⟨_, i3, h3, Ev.step (fun k => by rw [spec_l2bits.l0, if_neg (by omega), e1, Option.bind_some, if_neg (by omega), if_neg (by omega), if_neg (by omega), if_pos rfl, e2, Option.bind_some, e3, Option.bind_some]) (Ev.now _), (or_range _ _).1, (or_range _ _).2, q3⟩
  · refine ⟨_, i3', h3', Ev.step (fun k => by rw [spec_l2bits.l0, if_neg (by omega), e1, Option.bind_some, if_neg (by omega), if_neg (by omega), if_neg (by omega), if_neg (by omega), if_pos rfl, e2', Option.bind_some, e3', Option.bind_some]) (Ev.now _), (or_range _ _).1, (or_range _ _).2, q3'⟩
  · have hf := fofi_small ⟨u.toNat, by omega⟩
    rw [show (((⟨u.toNat, by omega⟩ : Fin 21).val : Int) - 10) = u - 10 by show ((u.toNat : Nat) : Int) - 10 = u - 10; omega] at hf
    obtain ⟨r, hr, r0, r1⟩ := bits_total _ hf
    refine ⟨r, i4, h4, Ev.step (fun k => by rw [spec_l2bits.l0, if_neg (by omega), e1, Option.bind_some, if_neg (by omega), if_neg (by omega), if_neg (by omega), if_neg (by omega), if_neg (by omega), if_pos rfl, e4, Option.bind_some, w64 (by omega) (by omega)]) (Ev.bind hr (Ev.now _)), r0, r1, q4⟩
  · exact ⟨x, i1, h1, Ev.step (fun k => by rw [spec_l2bits.l0, if_neg (by omega), e1, Option.bind_some, if_neg (by omega), if_neg (by omega), if_neg (by omega), if_neg (by omega), if_neg (by omega), if_neg (by omega)]) (Ev.now _), hx.1, hx.2, q1⟩
theorem l2bits_l (b : List Int) (hb : b.length ≤ 1048576) (d : Nat) (hd : d ≤ 8) : ∀ (x i h : Int), 0 ≤ x ∧ x < 18446744073709551616 → 0 ≤ i → ∃ r i' h', Ev (fun k => spec_l2bits.l0 k x (8 - (d : Int)) b i h) (r, i', h') ∧ 0 ≤ r ∧ r < 18446744073709551616 ∧ 0 ≤ i' := by
  induction d with
  | zero => intro x i h hx hi; exact l2bits_end b hb x hx i h hi
  | succ d ih =>
    intro x i h hx hi
    obtain ⟨y, i1, h1, e1, y0, y1, q1⟩ := byte_f b hb i h hi
    obtain ⟨r, i2, h2, e2, r0, r1, q2⟩ := ih (by omega) (IntKind.u64.wrap ((IntKind.u64.wrap (x * 256)) + (IntKind.u64.wrap y))) i1 h1 (u64_range _) q1
    refine ⟨r, i2, h2, Ev.step (fun k => by rw [spec_l2bits.l0, if_pos (by omega), e1, Option.bind_some, w64 (by omega) (by omega), show 8 - ((d + 1 : Nat) : Int) + 1 = 8 - (d : Int) by omega]) ?_, r0, r1, q2⟩
    exact e2
theorem l2bits_f (b : List Int) (hb : b.length ≤ 1048576) (i h : Int) (hi : 0 ≤ i) : ∃ r i' h', Ev (fun k => spec_l2bits.f k b i h) (r, i', h') ∧ 0 ≤ r ∧ r < 18446744073709551616 ∧ 0 ≤ i' := by
  unfold spec_l2bits.f
  exact l2bits_l b hb 8 (by omega) 0 i h (by omega) hi
/-- a float's word as it is told -/
def told (r : Nat) : Prop := r < 2 ^ 64 ∧ (isn r = true → r = 9221120237041090560)
theorem FloatOf_c (n : Int) (h0 : 0 ≤ n) (h1 : n < 18446744073709551616) : ∃ r, Ev (fun k => spec_FloatOf.c k n) r ∧ told r := by
  obtain ⟨a, rfl⟩ := Int.eq_ofNat_of_zero_le h0
  have ha : a < 2 ^ 64 := by omega
  cases hn : isn a with
  | true =>
    refine ⟨9221120237041090560, ?_, by decide, fun _ => rfl⟩
    unfold spec_FloatOf.c
    exact ev_pos (nanC_of a ha hn) (Ev.now _)
  | false =>
    have e := spec_FloatOf_f a ha (by rw [nanB_isn]; exact hn)
    have hc : ¬ spec_FloatOf.nanC (a : Int) := by
      intro h
      obtain ⟨k2, hk2⟩ := Ev.rounds e
      rw [nanC_none _ h] at hk2
      cases hk2
    refine ⟨a, ?_, ha, fun h => by rw [hn] at h; cases h⟩
    unfold spec_FloatOf.c
    refine ev_neg hc (Ev.bind e ?_)
    exact ev_pos ⟨(fun h => by have q := h.2; rw [hn] at q; cases q), ha⟩ (Ev.now _)
theorem l2float_f (b : List Int) (hb : b.length ≤ 1048576) (i h : Int) (hi : 0 ≤ i) : ∃ r i' h', Ev (fun k => spec_l2float.f k b i h) (r, i', h') ∧ told r ∧ 0 ≤ i' := by
  obtain ⟨x, i1, h1, e1, x0, x1, q1⟩ := l2bits_f b hb i h hi
  obtain ⟨r, e2, hr⟩ := FloatOf_c x x0 x1
  refine ⟨r, i1, h1, ?_, hr, q1⟩
  unfold spec_l2float.f
  exact Ev.bind e1 (Ev.bind e2 (Ev.now _))
/-- it comes to something that is so -/
def Rp {α : Type} (P : α → Prop) (g : Nat → Option α) : Prop := ∃ r, Ev g r ∧ P r
theorem Rp.now {α : Type} {P : α → Prop} {r : α} (h : P r) : Rp P (fun _ => some r) := ⟨r, Ev.now _, h⟩
theorem Rp.bind {α β : Type} {P : β → Prop} {g : Nat → Option α} {f : Nat → α → Option β} {a : α} (h : Ev g a) (k : Rp P (fun n => f n a)) : Rp P (fun n => (g n).bind (f n)) := by
  obtain ⟨r, e, p⟩ := k
  exact ⟨r, Ev.bind h e, p⟩
theorem Rp.bind0 {α β : Type} {P : β → Prop} {g : Option α} {f : Nat → α → Option β} {a : α} (h : g = some a) (k : Rp P (fun n => f n a)) : Rp P (fun n => g.bind (f n)) := by
  obtain ⟨r, e, p⟩ := k
  exact ⟨r, ev_bind0 h e, p⟩
theorem Rp.thn {α β : Type} {Q : α → Prop} {P : β → Prop} {g : Nat → Option α} {f : Nat → α → Option β} (h : Rp Q g) (k : ∀ a, Q a → Rp P (fun n => f n a)) : Rp P (fun n => (g n).bind (f n)) := by
  obtain ⟨a, e, q⟩ := h
  exact Rp.bind e (k a q)
theorem Rp.pos {α : Type} {P : α → Prop} {c : Prop} [Decidable c] {A B : Nat → Option α} (hc : c) (h : Rp P A) : Rp P (fun k => if c then A k else B k) := by
  obtain ⟨r, e, p⟩ := h
  exact ⟨r, ev_pos hc e, p⟩
theorem Rp.neg {α : Type} {P : α → Prop} {c : Prop} [Decidable c] {A B : Nat → Option α} (hc : ¬ c) (h : Rp P B) : Rp P (fun k => if c then A k else B k) := by
  obtain ⟨r, e, p⟩ := h
  exact ⟨r, ev_neg hc e, p⟩
theorem Rp.both {α : Type} {P : α → Prop} {c : Prop} [Decidable c] {A B : Nat → Option α} (h1 : c → Rp P A) (h2 : ¬ c → Rp P B) : Rp P (fun k => if c then A k else B k) := by
  by_cases hc : c
  · exact Rp.pos hc (h1 hc)
  · exact Rp.neg hc (h2 hc)
theorem Rp.step {α : Type} {P : α → Prop} {g f : Nat → Option α} (h : ∀ k, g (k + 1) = f k) (k : Rp P f) : Rp P g := by
  obtain ⟨r, e, p⟩ := k
  exact ⟨r, Ev.step h e, p⟩
theorem Rp.mono {α : Type} {P Q : α → Prop} {g : Nat → Option α} (h : Rp P g) (k : ∀ a, P a → Q a) : Rp Q g := by
  obtain ⟨r, e, p⟩ := h
  exact ⟨r, e, k r p⟩
def IsI64 (n : Int) : Prop := -9223372036854775808 ≤ n ∧ n ≤ 9223372036854775807
theorem i64_max : IsI64 9223372036854775807 := by unfold IsI64; decide
theorem i64_min : IsI64 (-9223372036854775808) := by unfold IsI64; decide
theorem i64_three : IsI64 3 := by unfold IsI64; decide
theorem i64_zero : IsI64 0 := by unfold IsI64; decide
theorem w64_in (n : Int) : IsI64 (wrap64 n) := by unfold IsI64 wrap64; omega
/-- an item as it is told, of so many bytes at most -/
def WI (kd n : Int) (b : Nat) (t : List Int) : Prop := IsI64 kd ∧ IsI64 n ∧ told b ∧ IsBytes t ∧ t.length ≤ 110
def WR (M : Nat) (r : Int × Int × Nat × List Int × Int × Int) : Prop := (WI r.1 r.2.1 r.2.2.1 r.2.2.2.1 ∧ r.2.2.2.1.length ≤ M) ∧ 0 ≤ r.2.2.2.2.1
theorem told_zero : told 0 := ⟨by decide, fun h => absurd h (by decide)⟩
theorem told_nzero : told (fneg 0) := ⟨by decide, fun h => absurd h (by decide)⟩
theorem told_cn {b : Nat} (h : b < 2 ^ 64) : told (cn b) := by
  refine ⟨cn_lt h, fun q => ?_⟩
  by_cases hn : nanw b
  · exact cn_nan hn
  · rw [cn_num hn] at q
    exact absurd ⟨h, q⟩ hn
theorem isB_nil : IsBytes [] := fun x hx => by cases hx
theorem isB_app {a b : List Int} (ha : IsBytes a) (hb : IsBytes b) : IsBytes (a ++ b) := fun x hx => by
  rcases List.mem_append.1 hx with h | h
  · exact ha x h
  · exact hb x h
theorem isB_one (x : Int) : IsBytes [x % 256] := fun y hy => by
  rcases List.mem_cons.1 hy with rfl | h
  · omega
  · cases h
theorem once_f (b : List Int) (hb : b.length ≤ 1048576) (i h : Int) (hi : 0 ≤ i) (n : Int) : ∃ x i' h', spec_l1Once.f b i h n = some (x, i', h') ∧ 0 ≤ i' := by
  obtain ⟨x, i1, h1, e1, x0, x1, q1⟩ := below_f b hb i h hi n
  unfold spec_l1Once.f
  exact ⟨_, _, _, by rw [e1, Option.bind_some], q1⟩
theorem some_l (l : List Int) (hl : l.length ≤ 1048576) (M : Nat) (hM : M ≤ 60) (m : Int) (hm : m ≤ 60) (d : Nat) : ∀ (x : List Int) (j c h : Int), 0 ≤ c → 0 ≤ j → m - j ≤ d → IsBytes x → x.length + d ≤ M → Rp (fun r => (IsBytes r.1 ∧ r.1.length ≤ M) ∧ 0 ≤ r.2.1) (fun k => spec_l1some.l0 k x m j l c h) := by
  induction d with
  | zero =>
    intro x j c h hc hj hd hx hn
    exact Rp.step (fun k => by rw [spec_l1some.l0, if_neg (by omega)]) (Rp.now ⟨⟨hx, by show x.length ≤ M; omega⟩, hc⟩)
  | succ d ih =>
    intro x j c h hc hj hd hx hn
    by_cases h4 : j < m
    · obtain ⟨y, c1, h1, e1, y0, y1, q1⟩ := byte_f l hl c h hc
      refine Rp.step (fun k => by rw [spec_l1some.l0, if_pos h4]) (Rp.bind0 e1 ?_)
      refine Rp.pos (show x.length < 140737488355328 by omega) ?_
      rw [w64 (x := j + 1) (by omega) (by omega)]
      exact ih (x ++ [y % 256]) (j + 1) c1 h1 q1 (by omega) (by omega) (isB_app hx (isB_one y)) (by rw [List.length_append, List.length_cons, List.length_nil]; omega)
    · exact Rp.step (fun k => by rw [spec_l1some.l0, if_neg h4]) (Rp.now ⟨⟨hx, by show x.length ≤ M; omega⟩, hc⟩)
theorem some_f (l : List Int) (hl : l.length ≤ 1048576) (i h : Int) (hi : 0 ≤ i) (n : Nat) (h1 : n ≤ 50) : Rp (fun r => (IsBytes r.1 ∧ r.1.length ≤ n) ∧ 0 ≤ r.2.1) (fun k => spec_l1some.f k l i h (n : Int)) := by
  unfold spec_l1some.f
  obtain ⟨m, c1, h1', e1, m0, m1, q1⟩ := below_f l hl i h hi (wrap64 ((n : Int) + 1))
  have hw : wrap64 ((n : Int) + 1) = n + 1 := w64 (by omega) (by omega)
  have m2 := m1 (by omega)
  exact Rp.bind0 e1 (some_l l hl n (by omega) m (by omega) n [] 0 c1 h1' q1 (by omega) (by omega) isB_nil (by rw [List.length_nil]; omega))
theorem number_l (l : List Int) (hl : l.length ≤ 1048576) (d : Nat) : ∀ (x j c h : Int), 0 ≤ c → IsI64 x → j ≤ d → j ≤ 100 → Rp (fun r => IsI64 r.1 ∧ 0 ≤ r.2.1) (fun k => spec_l1number.l0 k x j l c h) := by
  have fin : ∀ (x j c h : Int), 0 ≤ c → IsI64 x → j ≤ 0 → Rp (fun r => IsI64 r.1 ∧ 0 ≤ r.2.1) (fun k => spec_l1number.l0 k x j l c h) := by
    intro x j c h hc hx hj
    obtain ⟨y, c1, h1, e1, y0, y1, q1⟩ := below_f l hl c h hc 12
    refine Rp.step (fun k => by rw [spec_l1number.l0, if_neg (by omega)]) (Rp.bind0 e1 ?_)
    refine Rp.both (fun _ => Rp.now ⟨w64_in _, q1⟩) (fun _ => ?_)
    refine Rp.both (fun _ => ?_) (fun _ => ?_)
    · obtain ⟨z, c2, h2, e2, z0, z1, q2⟩ := below_f l hl c1 h1 q1 7
      have z2 := z1 (by omega)
      obtain ⟨u, c3, h3, e3, u0, u1, q3⟩ := below_f l hl c2 h2 q2 2
      refine Rp.bind0 e2 (Rp.pos ?_ (Rp.bind0 e3 (Rp.now ⟨w64_in _, q3⟩)))
      show 0 ≤ wrap64 (8 * (wrap64 (1 + z)))
      rw [w64 (x := 1 + z) (by omega) (by omega), w64 (by omega) (by omega)]
      omega
    · refine Rp.both (fun _ => Rp.now ⟨i64_max, q1⟩) (fun _ => ?_)
      exact Rp.both (fun _ => Rp.now ⟨i64_min, q1⟩) (fun _ => Rp.now ⟨hx, q1⟩)
  induction d with
  | zero => intro x j c h hc hx hj _; exact fin x j c h hc hx (by omega)
  | succ d ih =>
    intro x j c h hc hx hj hj2
    by_cases h4 : j > 0
    · obtain ⟨y, c1, h1, e1, y0, y1, q1⟩ := byte_f l hl c h hc
      refine Rp.step (fun k => by rw [spec_l1number.l0, if_pos h4]) (Rp.bind0 e1 ?_)
      exact ih _ _ c1 h1 q1 (w64_in _) (by rw [w64 (by omega) (by omega)]; omega) (by rw [w64 (by omega) (by omega)]; omega)
    · exact fin x j c h hc hx (by omega)
theorem number_f (l : List Int) (hl : l.length ≤ 1048576) (i h : Int) (hi : 0 ≤ i) : Rp (fun r => IsI64 r.1 ∧ 0 ≤ r.2.1) (fun k => spec_l1number.f k l i h) := by
  unfold spec_l1number.f
  obtain ⟨x, c1, h1, e1, x0, x1, q1⟩ := below_f l hl i h hi 1000
  obtain ⟨j, c2, h2, e2, j0, j1, q2⟩ := below_f l hl c1 h1 q1 6
  have := x1 (by omega)
  have := j1 (by omega)
  exact Rp.bind0 e1 (Rp.bind0 e2 (number_l l hl 6 x j c2 h2 q2 (by unfold IsI64; omega) (by omega) (by omega)))
theorem copy_f (kd n : Int) (b : Nat) (t : List Int) (ht : t.length ≤ 110) : spec_l3copy.f kd n b t = some (kd, n, b, t) := by
  unfold spec_l3copy.f
  rw [Option.bind_some, if_pos (by rw [List.length_nil]; omega), List.nil_append]
theorem clean_f (kd n : Int) (b : Nat) (t : List Int) (h : WI kd n b t) : Rp (fun r => WI r.1 r.2.1 r.2.2.1 r.2.2.2 ∧ r.2.2.2.length ≤ t.length) (fun k => spec_ItemClean.f k kd n b t) := by
  unfold spec_ItemClean.f
  refine Rp.bind (spec_ItemOk_f kd n b t h.2.2.1.1) (Rp.both (fun _ => Rp.bind0 (copy_f kd n b t h.2.2.2.2) ?_) (fun _ => Rp.now ⟨⟨by unfold IsI64; decide, by unfold IsI64; decide, told_zero, isB_nil, by decide⟩, Nat.zero_le _⟩))
  exact Rp.both (fun _ => Rp.now ⟨⟨h.1, h.2.1, told_zero, h.2.2.2⟩, Nat.le_refl _⟩) (fun _ => Rp.now ⟨h, Nat.le_refl _⟩)
theorem half_ok : ∀ m : Fin 5, fok .quo (fofi ((m.val : Int) - 2)) 4611686018427387904 = true ∧ fval .quo (fofi ((m.val : Int) - 2)) 4611686018427387904 < 2 ^ 64 ∧ isn (fval .quo (fofi ((m.val : Int) - 2)) 4611686018427387904) = false := by decide +kernel
theorem quarter_ok : ∀ m : Fin 64, fok .quo (fofi ((m.val : Int) - 32)) 4616189618054758400 = true ∧ fval .quo (fofi ((m.val : Int) - 32)) 4616189618054758400 < 2 ^ 64 ∧ isn (fval .quo (fofi ((m.val : Int) - 32)) 4616189618054758400) = false := by decide +kernel
theorem wi_int (n : Int) (h : IsI64 n) : WI 1 n 0 [] := ⟨by unfold IsI64; decide, h, told_zero, isB_nil, by decide⟩
theorem wi_text (t : List Int) (h : IsBytes t) (hl : t.length ≤ 40) : WI 3 0 0 t := ⟨by unfold IsI64; decide, by unfold IsI64; decide, told_zero, h, by omega⟩
theorem wi_float (b : Nat) (h : told b) : WI 2 0 b [] := ⟨by unfold IsI64; decide, by unfold IsI64; decide, h, isB_nil, by decide⟩
theorem key_f (l : List Int) (hl : l.length ≤ 1048576) (i h : Int) (hi : 0 ≤ i) : Rp (WR 40) (fun k => spec_l3key.f k l i h) := by
  unfold spec_l3key.f
  obtain ⟨x, c1, h1, e1, x0, x1, q1⟩ := below_f l hl i h hi 6
  have last : ∀ c h', 0 ≤ c → Rp (WR 40) (fun _ => (spec_l1Below.f l c h' 6).bind fun bt286 => (some (1, wrap64 (bt286.1 - 1), 0, ([] : List Int), bt286.2.1, bt286.2.2))) := by
    intro c h' hc
    obtain ⟨y, c2, h2, e2, y0, y1, q2⟩ := below_f l hl c h' hc 6
    exact Rp.bind0 e2 (Rp.now ⟨⟨wi_int _ (w64_in _), Nat.zero_le _⟩, q2⟩)
  refine Rp.bind0 e1 (Rp.both (fun _ => ?_) (fun _ => Rp.both (fun _ => ?_) (fun _ => Rp.both (fun _ => ?_) (fun _ => Rp.both (fun _ => ?_) (fun _ => last c1 h1 q1)))))
  · obtain ⟨y, c2, h2, e2, y0, y1, q2⟩ := below_f l hl c1 h1 q1 3
    exact Rp.bind0 e2 (Rp.now ⟨⟨wi_text _ (isB_one _) (show 1 ≤ 40 by decide), show 1 ≤ 40 by decide⟩, q2⟩)
  · obtain ⟨y, c2, h2, e2, y0, y1, q2⟩ := below_f l hl c1 h1 q1 5
    have y2 := y1 (by omega)
    obtain ⟨m, rfl⟩ := Int.eq_ofNat_of_zero_le y0
    obtain ⟨f1, f2, f3⟩ := half_ok ⟨m, by omega⟩
    refine Rp.bind0 e2 ?_
    show Rp (WR 40) (fun k => if (fok .quo (fofi (wrap64 ((m : Int) - 2))) 4611686018427387904) = true then _ else _)
    rw [w64 (x := (m : Int) - 2) (by omega) (by omega)]
    refine Rp.pos f1 (Rp.thn (clean_f 2 0 _ [] (wi_float _ (told_cn f2))) (fun a ha => Rp.now ⟨⟨ha.1, Nat.le_trans ha.2 (by decide)⟩, q2⟩))
  · obtain ⟨o, c2, h2, e2, q2⟩ := once_f l hl c1 h1 q1 3
    refine Rp.bind0 e2 (Rp.both (fun _ => ?_) (fun _ => last c2 h2 q2))
    obtain ⟨f, c3, h3, e3, hf, q3⟩ := l2float_f l hl c2 h2 q2
    exact Rp.bind e3 (Rp.thn (clean_f 2 0 f [] (wi_float _ hf)) (fun a ha => Rp.now ⟨⟨ha.1, Nat.le_trans ha.2 (by decide)⟩, q3⟩))
  · obtain ⟨o, c2, h2, e2, q2⟩ := once_f l hl c1 h1 q1 4
    refine Rp.bind0 e2 (Rp.both (fun _ => ?_) (fun _ => last c2 h2 q2))
    exact Rp.thn (some_f l hl c2 h2 q2 40 (by omega)) (fun a ha => Rp.now ⟨⟨wi_text _ ha.1.1 ha.1.2, ha.1.2⟩, ha.2⟩)
theorem value_f (l : List Int) (hl : l.length ≤ 1048576) (i h : Int) (hi : 0 ≤ i) : Rp (WR 40) (fun k => spec_l3value.f k l i h) := by
  unfold spec_l3value.f
  obtain ⟨x, c1, h1, e1, x0, x1, q1⟩ := below_f l hl i h hi 5
  have last : ∀ c h', 0 ≤ c → Rp (WR 40) (fun k => (spec_l1number.f k l c h').bind fun bt344 => (some (1, bt344.1, 0, ([] : List Int), bt344.2.1, bt344.2.2))) := by
    intro c h' hc
    exact Rp.thn (number_f l hl c h' hc) (fun a ha => Rp.now ⟨⟨wi_int _ ha.1, Nat.zero_le _⟩, ha.2⟩)
  refine Rp.bind0 e1 (Rp.both (fun _ => ?_) (fun _ => Rp.both (fun _ => ?_) (fun _ => Rp.both (fun _ => ?_) (fun _ => Rp.both (fun _ => ?_) (fun _ => last c1 h1 q1)))))
  · exact Rp.thn (some_f l hl c1 h1 q1 8 (by omega)) (fun a ha => Rp.now ⟨⟨wi_text _ ha.1.1 (Nat.le_trans ha.1.2 (by decide)), Nat.le_trans ha.1.2 (by decide)⟩, ha.2⟩)
  · obtain ⟨f, c3, h3, e3, hf, q3⟩ := l2float_f l hl c1 h1 q1
    exact Rp.bind e3 (Rp.now ⟨⟨wi_float _ hf, Nat.zero_le _⟩, q3⟩)
  · obtain ⟨y, c2, h2, e2, y0, y1, q2⟩ := below_f l hl c1 h1 q1 64
    have y2 := y1 (by omega)
    obtain ⟨m, rfl⟩ := Int.eq_ofNat_of_zero_le y0
    obtain ⟨f1, f2, f3⟩ := quarter_ok ⟨m, by omega⟩
    refine Rp.bind0 e2 ?_
    show Rp (WR 40) (fun k => if (fok .quo (fofi (wrap64 ((m : Int) - 32))) 4616189618054758400) = true then (some (2, 0, cn (fval .quo (fofi (wrap64 ((m : Int) - 32))) 4616189618054758400), ([] : List Int), c2, h2)) else none)
    rw [w64 (x := (m : Int) - 32) (by omega) (by omega)]
    exact Rp.pos f1 (Rp.now ⟨⟨wi_float _ (told_cn f2), Nat.zero_le _⟩, q2⟩)
  · obtain ⟨o, c2, h2, e2, q2⟩ := once_f l hl c1 h1 q1 5
    refine Rp.bind0 e2 (Rp.both (fun _ => ?_) (fun _ => last c2 h2 q2))
    exact Rp.thn (some_f l hl c2 h2 q2 40 (by omega)) (fun a ha => Rp.now ⟨⟨wi_text _ ha.1.1 ha.1.2, ha.1.2⟩, ha.2⟩)
theorem any_l (l : List Int) (hl : l.length ≤ 1048576) (kd n : Int) (b : Nat) (d : Nat) : ∀ (t : List Int) (c h : Int), 0 ≤ c → IsBytes t → 41 ≤ t.length + d → t.length + d ≤ 100 → Rp (WR 100) (fun k => spec_l3any.l0 k l c h kd n b t) := by
  induction d with
  | zero =>
    intro t c h hc ht h1 h2
    obtain ⟨y, c1, h1', e1, y0, y1, q1⟩ := below_f l hl c h hc 2
    have y2 := y1 (by omega)
    refine Rp.step (fun k => by rw [spec_l3any.l0]) (Rp.bind0 e1 ?_)
    refine Rp.neg ?_ (Rp.now (P := WR 100) (r := (3, 0, 0, t, c1, h1')) ⟨⟨⟨i64_three, i64_zero, told_zero, ht, by show t.length ≤ 110; omega⟩, by show t.length ≤ 100; omega⟩, q1⟩)
    show ¬ (t.length : Int) < wrap64 (40 + y)
    rw [w64 (by omega) (by omega)]
    omega
  | succ d ih =>
    intro t c h hc ht h1 h2
    obtain ⟨y, c1, h1', e1, y0, y1, q1⟩ := below_f l hl c h hc 2
    have y2 := y1 (by omega)
    refine Rp.step (fun k => by rw [spec_l3any.l0]) (Rp.bind0 e1 ?_)
    refine Rp.both (fun _ => Rp.pos (show t.length < 140737488355328 by omega) ?_) (fun _ => Rp.now (P := WR 100) (r := (3, 0, 0, t, c1, h1')) ⟨⟨⟨i64_three, i64_zero, told_zero, ht, by show t.length ≤ 110; omega⟩, by show t.length ≤ 100; omega⟩, q1⟩)
    exact ih (t ++ [120]) c1 h1' q1 (isB_app ht (fun x hx => by rcases List.mem_cons.1 hx with rfl | hx; decide; cases hx)) (by rw [List.length_append, List.length_cons, List.length_nil]; omega) (by rw [List.length_append, List.length_cons, List.length_nil]; omega)
theorem any_j (l : List Int) (hl : l.length ≤ 1048576) (i h : Int) (hi : 0 ≤ i) (kd n : Int) (b : Nat) (t : List Int) (w : WI kd n b t) (ht : t.length ≤ 40) : Rp (WR 100) (fun k => spec_l3any.j0 k l i h kd n b t) := by
  obtain ⟨x, c1, h1, e1, x0, x1, q1⟩ := below_f l hl i h hi 14
  refine Rp.step (fun k => by rw [spec_l3any.j0]) (Rp.bind0 e1 (Rp.both (fun _ => ?_) (fun _ => Rp.both (fun _ => ?_) (fun _ => Rp.both (fun _ => ?_) (fun _ => Rp.both (fun _ => ?_) (fun _ => Rp.both (fun _ => ?_) (fun _ => Rp.both (fun _ => ?_) (fun _ => Rp.now (P := WR 100) (r := (kd, n, b, t, c1, h1)) ⟨⟨w, (Nat.le_trans ht (by decide))⟩, q1⟩))))))))
  · obtain ⟨y, c2, h2, e2, y0, y1, q2⟩ := below_f l hl c1 h1 q1 7
    exact Rp.bind0 e2 (Rp.now ⟨⟨⟨w64_in _, w.2⟩, (Nat.le_trans ht (by decide))⟩, q2⟩)
  · exact Rp.now ⟨⟨⟨w.1, w64_in _, w.2.2⟩, (Nat.le_trans ht (by decide))⟩, q1⟩
  · obtain ⟨f, c3, h3, e3, hf, q3⟩ := l2float_f l hl c1 h1 q1
    exact Rp.bind e3 (Rp.now ⟨⟨⟨w.1, w.2.1, hf, w.2.2.2⟩, (Nat.le_trans ht (by decide))⟩, q3⟩)
  · refine Rp.thn (some_f l hl c1 h1 q1 3 (by omega)) (fun a ha => ?_)
    have hq := ha.1.2
    have hn : (t ++ a.1).length ≤ 100 := by rw [List.length_append]; omega
    exact Rp.pos (show t.length + a.1.length < 140737488355328 by omega) (Rp.now ⟨⟨⟨w.1, w.2.1, w.2.2.1, isB_app w.2.2.2.1 ha.1.1, Nat.le_trans hn (by decide)⟩, hn⟩, ha.2⟩)
  · exact any_l l hl kd n b 41 t c1 h1 q1 w.2.2.2.1 (by omega) (by omega)
  · exact Rp.now ⟨⟨wi_float _ told_nzero, Nat.zero_le _⟩, q1⟩
theorem any_f (l : List Int) (hl : l.length ≤ 1048576) (i h : Int) (hi : 0 ≤ i) : Rp (WR 100) (fun k => spec_l3any.f k l i h) := by
  unfold spec_l3any.f
  refine Rp.thn (value_f l hl i h hi) (fun a ha => ?_)
  obtain ⟨o, c2, h2, e2, q2⟩ := once_f l hl a.2.2.2.2.1 a.2.2.2.2.2 ha.2 2
  refine Rp.bind0 e2 (Rp.both (fun _ => ?_) (fun _ => any_j l hl c2 h2 q2 _ _ _ _ ha.1.1 ha.1.2))
  exact Rp.thn (key_f l hl c2 h2 q2) (fun b hb => any_j l hl _ _ hb.2 _ _ _ _ hb.1.1 hb.1.2)
theorem emod_split (x P : Int) (hP : 0 < P) : x % (P * 256) = P * (x / P % 256) + x % P := by
  have h : x / (P * 256) = x / P / 256 := by
    first
    | exact (Int.ediv_ediv_of_nonneg (by omega)).symm
    | exact (Int.ediv_ediv_eq_ediv_mul x (by omega)).symm
    | exact (Int.ediv_ediv (by omega)).symm
    | exact (Int.ediv_mul x P 256)
  rw [Int.emod_def x (P * 256), Int.emod_def x P, Int.emod_def (x / P) 256, h, Int.mul_sub, ← Int.mul_assoc]
  omega
theorem pow_pos256 (n : Nat) : (0 : Int) < 256 ^ n := by
  induction n with
  | zero => decide
  | succ n ih => rw [Int.pow_succ]; omega
theorem lex_hi (x y : Int) (n : Nat) : lex (hi x n) (hi y n) = cmp3 (x % 256 ^ n) (y % 256 ^ n) := by
  induction n with
  | zero =>
    show (0 : Int) = cmp3 (x % 1) (y % 1)
    have h1 : x % 1 = 0 := by omega
    have h2 : y % 1 = 0 := by omega
    rw [h1, h2]
    rfl
  | succ n ih =>
    show (if x / 256 ^ n % 256 < y / 256 ^ n % 256 then (-1 : Int) else if x / 256 ^ n % 256 > y / 256 ^ n % 256 then 1 else lex (hi x n) (hi y n)) = _
    rw [ih, Int.pow_succ, emod_split x _ (pow_pos256 n), emod_split y _ (pow_pos256 n)]
    have hP := pow_pos256 n
    have r1 := Int.emod_nonneg x (show (256 : Int) ^ n ≠ 0 by omega)
    have r2 := Int.emod_lt_of_pos x hP
    have s1 := Int.emod_nonneg y (show (256 : Int) ^ n ≠ 0 by omega)
    have s2 := Int.emod_lt_of_pos y hP
    generalize x / 256 ^ n % 256 = a
    generalize y / 256 ^ n % 256 = b
    generalize x % 256 ^ n = r at *
    generalize y % 256 ^ n = s at *
    generalize (256 : Int) ^ n = P at *
    have lt : ∀ u v p q : Int, u < v → 0 ≤ p → p < P → 0 ≤ q → P * u + p < P * v + q := by
      intro u v p q h hp hp2 hq
      have h1 : P * (u + 1) ≤ P * v := Int.mul_le_mul_of_nonneg_left (by omega) (by omega)
      rw [Int.mul_add, Int.mul_one] at h1
      omega
    unfold cmp3
    by_cases h1 : a < b
    · rw [if_pos h1, if_pos (lt a b r s h1 r1 r2 s1)]
    · rw [if_neg h1]
      by_cases h2 : a > b
      · have := lt b a s r h2 s1 s2 r1
        rw [if_pos h2, if_neg (by omega), if_pos (by omega)]
      · rw [if_neg h2]
        have e : a = b := by omega
        subst e
        by_cases h3 : r < s
        · rw [if_pos h3, if_pos (show P * a + r < P * a + s by omega)]
        · rw [if_neg h3, if_neg (show ¬ P * a + r < P * a + s by omega)]
          by_cases h4 : r > s
          · rw [if_pos h4, if_pos (show P * a + r > P * a + s by omega)]
          · rw [if_neg h4, if_neg (show ¬ P * a + r > P * a + s by omega)]
theorem lex_hi8 (x y : Int) (h0 : 0 ≤ x) (h1 : x < 18446744073709551616) (g0 : 0 ≤ y) (g1 : y < 18446744073709551616) : lex (hi x 8) (hi y 8) = cmp3 x y := by
  rw [lex_hi, show (256 : Int) ^ 8 = 18446744073709551616 by decide, Int.emod_eq_of_lt h0 h1, Int.emod_eq_of_lt g0 g1]
theorem cmp3_self (a : Int) : cmp3 a a = 0 := (cmp3_zero a a).2 rfl
theorem lex_self (a : List Int) : lex a a = 0 := by
  induction a with
  | nil => rfl
  | cons x a ih => rw [lex, if_neg (by omega), if_neg (by omega), ih]
theorem lex_neg : ∀ (a b : List Int), lex b a = -lex a b
  | [], [] => rfl
  | [], _ :: _ => rfl
  | _ :: _, [] => rfl
  | x :: a, y :: b => by
    rw [lex, lex, lex_neg a b]
    by_cases h1 : x < y
    · rw [if_neg (by omega), if_pos (by omega), if_pos h1]; rfl
    · by_cases h2 : x > y
      · rw [if_pos (by omega), if_neg h1, if_pos h2]
      · rw [if_neg (by omega), if_neg (by omega), if_neg h1, if_neg h2]
theorem lex_zero : ∀ (a b : List Int), lex a b = 0 → a = b
  | [], [], _ => rfl
  | [], _ :: _, h => absurd h (by rw [lex]; decide)
  | _ :: _, [], h => absurd h (by rw [lex]; decide)
  | x :: a, y :: b, h => by
    rw [lex] at h
    by_cases h1 : x < y
    · rw [if_pos h1] at h; exact absurd h (by decide)
    · by_cases h2 : x > y
      · rw [if_neg h1, if_pos h2] at h; exact absurd h (by decide)
      · rw [if_neg h1, if_neg h2] at h
        rw [show x = y by omega, lex_zero a b h]
theorem key_parts {kd n : Int} {b : Nat} {t : List Int} (h : keyOkP kd n b t = true) : (1 ≤ kd ∧ kd ≤ 3) ∧ t.length ≤ 40 ∧ (kd = 1 ∨ n = 0) ∧ (kd = 2 ∨ b = 0) ∧ (kd = 3 ∨ t = []) ∧ b ≠ 9223372036854775808 := by
  simp only [keyOkP, itemOkP, Bool.and_eq_true, decide_eq_true_eq] at h
  obtain ⟨⟨h1, h2, h3, h4, h5, h6⟩, h7, h8⟩ := h
  refine ⟨⟨by omega, h2⟩, h3, h4, h5, ?_, h8⟩
  rcases h6 with h6 | h6
  · exact Or.inl h6
  · exact Or.inr (List.eq_nil_of_length_eq_zero h6)
theorem key_lex (kd n : Int) (b : Nat) (t : List Int) (kd' n' : Int) (b' : Nat) (t' : List Int) (hb : b < 2 ^ 64) (hb' : b' < 2 ^ 64) (hn : IsI64 n) (hn' : IsI64 n') (h : keyOkP kd n b t = true) (h' : keyOkP kd' n' b' t' = true) :
    lex (keyBytesOf kd n b t) (keyBytesOf kd' n' b' t') = itemOrder kd n b t kd' n' b' t' := by
  unfold keyBytesOf
  rw [if_pos h, if_pos h']
  obtain ⟨k1, _, k3, k4, k5, _⟩ := key_parts h
  obtain ⟨j1, _, j3, j4, j5, _⟩ := key_parts h'
  have rb := rankOf_bound b hb
  have rb' := rankOf_bound b' hb'
  unfold itemBytesOf itemOrder
  rw [lex, show kd % 256 = kd by omega, show kd' % 256 = kd' by omega]
  by_cases hk : kd = kd'
  · subst hk
    rw [if_neg (by omega), if_neg (by omega), cmp3_self, if_pos rfl]
    by_cases c1 : kd = 1
    · obtain rfl : b = 0 := by omega
      obtain rfl : b' = 0 := by omega
      obtain rfl : t = [] := k5.resolve_left (by omega)
      obtain rfl : t' = [] := j5.resolve_left (by omega)
      have t1 : turned n = n + 9223372036854775808 := by unfold turned; unfold IsI64 at hn; omega
      have t2 : turned n' = n' + 9223372036854775808 := by unfold turned; unfold IsI64 at hn'; omega
      unfold IsI64 at hn hn'
      rw [if_pos c1, if_pos c1, lex_hi8 _ _ (by omega) (by omega) (by omega) (by omega), t1, t2, cmp3_self, if_pos rfl]
      have e : cmp3 (n + 9223372036854775808) (n' + 9223372036854775808) = cmp3 n n' := by
        unfold cmp3
        by_cases q1 : n < n'
        · rw [if_pos (by omega), if_pos q1]
        · rw [if_neg (by omega), if_neg q1]
          by_cases q2 : n > n'
          · rw [if_pos (by omega), if_pos q2]
          · rw [if_neg (by omega), if_neg q2]
      rw [e]
      by_cases z : cmp3 n n' = 0
      · rw [if_pos z, z]; rfl
      · rw [if_neg z]
    · obtain rfl : n = 0 := by omega
      obtain rfl : n' = 0 := by omega
      rw [if_neg c1, if_neg c1, cmp3_self, if_pos rfl]
      by_cases c2 : kd = 2
      · obtain rfl : t = [] := k5.resolve_left (by omega)
        obtain rfl : t' = [] := j5.resolve_left (by omega)
        rw [if_pos c2, if_pos c2, lex_hi8 _ _ rb.1 rb.2 rb'.1 rb'.2]
        by_cases z : cmp3 (rankOf b) (rankOf b') = 0
        · rw [if_pos z, z]; rfl
        · rw [if_neg z]
      · obtain rfl : b = 0 := by omega
        obtain rfl : b' = 0 := by omega
        rw [if_neg c2, if_neg c2, cmp3_self, if_pos rfl]
  · rw [if_neg (fun z => hk ((cmp3_zero _ _).1 z))]
    unfold cmp3
    by_cases q1 : kd < kd'
    · rw [if_pos q1, if_pos q1]
    · rw [if_neg q1, if_neg q1, if_pos (by omega), if_pos (by omega)]
theorem less_lex : ∀ (a b : List Int), IsBytes a → IsBytes b → Op.bytesLess (Lib.bytesOf a) (Lib.bytesOf b) = decide (lex a b < 0)
  | [], [], _, _ => rfl
  | [], _ :: _, _, _ => rfl
  | _ :: _, [], _, _ => rfl
  | x :: a, y :: b, ha, hb => by
    have hx := ha x (List.mem_cons_self ..)
    have hy := hb y (List.mem_cons_self ..)
    have ih := less_lex a b (fun z hz => ha z (List.mem_cons_of_mem _ hz)) (fun z hz => hb z (List.mem_cons_of_mem _ hz))
    show Op.bytesLess (UInt8.ofNat x.toNat :: Lib.bytesOf a) (UInt8.ofNat y.toNat :: Lib.bytesOf b) = _
    have lt : (UInt8.ofNat x.toNat < UInt8.ofNat y.toNat ↔ x < y) := by
      rw [UInt8.lt_iff_toNat_lt, UInt8.toNat_ofNat', UInt8.toNat_ofNat']
      omega
    have eq : (UInt8.ofNat x.toNat = UInt8.ofNat y.toNat ↔ x = y) := by
      rw [← UInt8.toNat_inj, UInt8.toNat_ofNat', UInt8.toNat_ofNat']
      omega
    rw [Op.bytesLess, lex, ih]
    by_cases h1 : x < y
    · rw [if_pos h1, decide_eq_true (lt.2 h1)]; rfl
    · rw [if_neg h1, decide_eq_false (fun q => h1 (lt.1 q)), Bool.false_or]
      by_cases h2 : x > y
      · rw [if_pos h2, beq_eq_false_iff_ne.mpr (fun q => by have := eq.1 q; omega), Bool.false_and]; rfl
      · rw [if_neg h2, beq_iff_eq.mpr (eq.2 (by omega)), Bool.true_and]
theorem str_less (a b : List Int) (ha : IsBytes a) (hb : IsBytes b) : Op.bytesLess (strOfNums a).toList (strOfNums b).toList = decide (lex a b < 0) := by
  rw [Lib.strOfNums_toList, Lib.strOfNums_toList]
  exact less_lex a b ha hb
theorem str_inj (a b : List Int) (ha : IsBytes a) (hb : IsBytes b) (h : (strOfNums a).toList = (strOfNums b).toList) : a = b := by
  have h1 := str_less a b ha hb
  have h2 := str_less b a hb ha
  have h3 : ∀ s : List UInt8, Op.bytesLess s s = false := by
    intro s
    induction s with
    | nil => rfl
    | cons x s ih => rw [Op.bytesLess, ih]; simp
  rw [h, h3] at h1
  rw [h, h3] at h2
  have g1 := of_decide_eq_false h1.symm
  have g2 := of_decide_eq_false h2.symm
  rw [lex_neg a b] at g2
  exact lex_zero a b (by omega)
theorem key_isB (kd n : Int) (b : Nat) (t : List Int) (ht : IsBytes t) : IsBytes (keyBytesOf kd n b t) := by
  unfold keyBytesOf
  split
  · exact itemBytesOf_bytes _ _ _ _ ht
  · exact isB_nil
theorem rank_inj (a b : Nat) (ha : told a) (hb : told b) (za : a ≠ 9223372036854775808) (zb : b ≠ 9223372036854775808) (h : rankOf a = rankOf b) : a = b := by
  have la := ha.1
  have lb := hb.1
  cases na : isn a with
  | true =>
    cases nb : isn b with
    | true => rw [ha.2 na, hb.2 nb]
    | false =>
      exfalso
      unfold rankOf at h
      rw [na, nb, if_pos rfl, if_neg Bool.false_ne_true] at h
      unfold isn at nb
      have := of_decide_eq_false nb
      split at h
      · omega
      · split at h <;> omega
  | false =>
    unfold isn at na
    have na2 := of_decide_eq_false na
    cases nb : isn b with
    | true =>
      exfalso
      unfold rankOf at h
      rw [show isn a = false from na, nb, if_pos rfl, if_neg Bool.false_ne_true] at h
      split at h
      · omega
      · split at h <;> omega
    | false =>
      unfold rankOf at h
      rw [show isn a = false from na, nb, if_neg Bool.false_ne_true, if_neg Bool.false_ne_true] at h
      unfold isn at nb
      have nb2 := of_decide_eq_false nb
      repeat' split at h
      all_goals omega
abbrev IT := Int × Int × Nat × List Int × Int × Int × Nat × List Int × Int × Int × Nat × List Int
def W3 (r : IT) : Prop := WI r.1 r.2.1 r.2.2.1 r.2.2.2.1 ∧ WI r.2.2.2.2.1 r.2.2.2.2.2.1 r.2.2.2.2.2.2.1 r.2.2.2.2.2.2.2.1 ∧ WI r.2.2.2.2.2.2.2.2.1 r.2.2.2.2.2.2.2.2.2.1 r.2.2.2.2.2.2.2.2.2.2.1 r.2.2.2.2.2.2.2.2.2.2.2
theorem DrawInSpan_j (l : List Int) (hl : l.length ≤ 1048576) (i h : Int) (hi : 0 ≤ i) (k1 n1 : Int) (b1 : Nat) (t1 : List Int) (k2 n2 : Int) (b2 : Nat) (t2 : List Int) (k3 n3 : Int) (b3 : Nat) (t3 : List Int) (w1 : WI k1 n1 b1 t1) (w2 : WI k2 n2 b2 t2) (w3 : WI k3 n3 b3 t3) : Rp W3 (fun k => spec_DrawInSpan.j0 k l i h k1 n1 b1 t1 k2 n2 b2 t2 k3 n3 b3 t3) := by
  obtain ⟨o, c2, h2, e2, q2⟩ := once_f l hl i h hi 6
  refine Rp.step (fun k => by rw [spec_DrawInSpan.j0]) (Rp.bind0 e2 (Rp.both (fun _ => ?_) (fun _ => Rp.now (P := W3) (r := (k1, n1, b1, t1, k2, n2, b2, t2, k3, n3, b3, t3)) ⟨w1, w2, w3⟩)))
  exact Rp.bind0 (copy_f k3 n3 b3 t3 w3.2.2.2.2) (Rp.now (P := W3) (r := (k3, n3, b3, t3, k2, n2, b2, t2, k3, n3, b3, t3)) ⟨w3, w2, w3⟩)
theorem DrawInSpan_f (l : List Int) (hl : l.length ≤ 1048576) : Rp W3 (fun k => spec_DrawInSpan.f k l) := by
  unfold spec_DrawInSpan.f
  obtain ⟨h, e0⟩ := l1New_f l hl
  refine Rp.bind e0 (Rp.thn (key_f l hl 0 h (by omega)) (fun a ha => Rp.thn (key_f l hl _ _ ha.2) (fun b hb => Rp.thn (key_f l hl _ _ hb.2) (fun c hc => ?_))))
  obtain ⟨o, c2, h2, e2, q2⟩ := once_f l hl _ c.2.2.2.2.2 hc.2 6
  refine Rp.bind0 e2 (Rp.both (fun _ => ?_) (fun _ => DrawInSpan_j l hl c2 h2 q2 _ _ _ _ _ _ _ _ _ _ _ _ ha.1.1 hb.1.1 hc.1.1))
  exact Rp.thn (any_f l hl c2 h2 q2) (fun d hd => DrawInSpan_j l hl _ _ hd.2 _ _ _ _ _ _ _ _ _ _ _ _ ha.1.1 hb.1.1 hd.1.1)
theorem isn_told (b : Nat) (h : told b) : (if isn b then (9221120237041090560 : Int) else (b : Int)) = (b : Int) := by
  cases hn : isn b with
  | true => rw [h.2 hn]; rfl
  | false => rfl
/-- whether two items are one -/
def sameP (kd n : Int) (b : Nat) (t : List Int) (kd' n' : Int) (b' : Nat) (t' : List Int) : Bool := decide (kd = kd' ∧ n = n' ∧ b = b' ∧ t = t')
theorem sameItem_f (kd n : Int) (b : Nat) (t : List Int) (kd' n' : Int) (b' : Nat) (t' : List Int) (w : WI kd n b t) (w' : WI kd' n' b' t') : Ev (fun k => laws_sameItem.f k kd n b t kd' n' b' t') (sameP kd n b t kd' n' b' t') := by
  unfold laws_sameItem.f sameP
  by_cases h1 : kd = kd'
  · refine ev_pos h1 ?_
    by_cases h2 : n = n'
    · refine ev_pos h2 (Ev.bind (spec_FloatBits_f b w.2.2.1.1) (Ev.bind (spec_FloatBits_f b' w'.2.2.1.1) ?_))
      rw [isn_told b w.2.2.1, isn_told b' w'.2.2.1]
      by_cases h3 : b = b'
      · refine ev_pos (by rw [h3]) ?_
        by_cases h4 : t = t'
        · rw [decide_eq_true ⟨h1, h2, h3, h4⟩, h4, beq_self_eq_true]
          exact Ev.now _
        · rw [decide_eq_false (fun h => h4 h.2.2.2), beq_eq_false_iff_ne.mpr (fun h => h4 (str_inj t t' w.2.2.2.1 w'.2.2.2.1 h))]
          exact Ev.now _
      · rw [decide_eq_false (fun h => h3 h.2.2.1)]
        exact ev_neg (fun h => h3 (by omega)) (Ev.now _)
    · rw [decide_eq_false (fun h => h2 h.2.1)]
      exact ev_neg h2 (Ev.now _)
  · rw [decide_eq_false (fun h => h1 h.1)]
    exact ev_neg h1 (Ev.now _)
theorem order_same (kd n : Int) (b : Nat) (t : List Int) (kd' n' : Int) (b' : Nat) (t' : List Int) (w : WI kd n b t) (w' : WI kd' n' b' t') (h : keyOkP kd n b t = true) (h' : keyOkP kd' n' b' t' = true) (z : itemOrder kd n b t kd' n' b' t' = 0) : kd = kd' ∧ n = n' ∧ b = b' ∧ t = t' := by
  obtain ⟨_, _, _, _, _, z1⟩ := key_parts h
  obtain ⟨_, _, _, _, _, z2⟩ := key_parts h'
  unfold itemOrder at z
  by_cases h1 : cmp3 kd kd' = 0
  · rw [if_pos h1] at z
    by_cases h2 : cmp3 n n' = 0
    · rw [if_pos h2] at z
      by_cases h3 : cmp3 (rankOf b) (rankOf b') = 0
      · rw [if_pos h3] at z
        exact ⟨(cmp3_zero _ _).1 h1, (cmp3_zero _ _).1 h2, rank_inj b b' w.2.2.1 w'.2.2.1 z1 z2 ((cmp3_zero _ _).1 h3), lex_zero t t' z⟩
      · rw [if_neg h3] at z; exact absurd z h3
    · rw [if_neg h2] at z; exact absurd z h2
  · rw [if_neg h1] at z; exact absurd z h1
theorem main : laws_FnSpans.Pure := by
  intro l hm hs hw
  refine Ev.rounds ?_
  unfold laws_FnSpans.f
  by_cases hl : l.length ≤ 1048576
  case neg => exact ev_bind0 (a := true) (by unfold laws_big.f; rw [decide_eq_true (by omega)]) (ev_pos rfl (Ev.now _))
  refine ev_bind0 (a := false) (by unfold laws_big.f; rw [decide_eq_false (by omega)]) (ev_neg (fun h => by cases h) ?_)
  obtain ⟨r, e, w1, w2, w3⟩ := DrawInSpan_f l hl
  obtain ⟨k1, n1, b1, t1, k2, n2, b2, t2, k3, n3, b3, t3⟩ := r
  dsimp only at w1 w2 w3
  refine Ev.bind e ?_
  dsimp only
  have span := impl_InSpan_f k1 n1 b1 t1 k2 n2 b2 t2 k3 n3 b3 t3 w1.2.2.1.1 w2.2.2.1.1 w3.2.2.1.1 w1.2.2.2.1 w2.2.2.2.1 w3.2.2.2.1
  have bad : inSpanP k1 n1 b1 t1 k2 n2 b2 t2 k3 n3 b3 t3 = false → Ev (fun k => laws_FnSpans.j0 k true k1 n1 b1 t1 k2 n2 b2 t2 k3 n3 b3 t3) true := by
    intro hq
    refine Ev.step (fun k => by rw [laws_FnSpans.j0, if_pos rfl]) (Ev.bind span ?_)
    rw [hq]
    exact Ev.now _
  have un : inSpanP k1 n1 b1 t1 k2 n2 b2 t2 k3 n3 b3 t3 = _ := rfl
  refine Ev.bind (spec_KeyOk_f k1 n1 b1 t1 w1.2.2.1.1) ?_
  by_cases h1 : keyOkP k1 n1 b1 t1 = true
  case neg => exact ev_neg h1 (bad (by unfold inSpanP; rw [if_neg h1]))
  refine ev_pos h1 (Ev.bind (spec_KeyOk_f k2 n2 b2 t2 w2.2.2.1.1) ?_)
  by_cases h2 : keyOkP k2 n2 b2 t2 = true
  case neg => exact ev_neg h2 (bad (by unfold inSpanP; rw [if_pos h1, if_neg h2]))
  refine ev_pos h2 (Ev.bind (spec_KeyOk_f k3 n3 b3 t3 w3.2.2.1.1) ?_)
  by_cases h3 : keyOkP k3 n3 b3 t3 = true
  case neg =>
    rw [Bool.eq_false_iff.mpr h3]
    exact bad (by unfold inSpanP; rw [if_pos h1, if_pos h2, if_neg h3])
  rw [h3, Bool.not_true]
  have kb1 := spec_KeyBytes_f k1 n1 b1 t1 w1.2.2.1.1 (by have := w1.2.2.2.2; omega)
  have kb2 := spec_KeyBytes_f k2 n2 b2 t2 w2.2.2.1.1 (by have := w2.2.2.2.2; omega)
  have kb3 := spec_KeyBytes_f k3 n3 b3 t3 w3.2.2.1.1 (by have := w3.2.2.2.2; omega)
  have x1 := key_lex k1 n1 b1 t1 k3 n3 b3 t3 w1.2.2.1.1 w3.2.2.1.1 w1.2.1 w3.2.1 h1 h3
  have x2 := key_lex k3 n3 b3 t3 k2 n2 b2 t2 w3.2.2.1.1 w2.2.2.1.1 w3.2.1 w2.2.1 h3 h2
  have x3 := key_lex k2 n2 b2 t2 k3 n3 b3 t3 w2.2.2.1.1 w3.2.2.1.1 w2.2.1 w3.2.1 h2 h3
  have i1 := key_isB k1 n1 b1 t1 w1.2.2.2.1
  have i2 := key_isB k2 n2 b2 t2 w2.2.2.2.1
  have i3 := key_isB k3 n3 b3 t3 w3.2.2.2.1
  have s1 := str_less _ _ i3 i1
  have s2 := str_less _ _ i2 i3
  have sp2 := impl_InSpan_f k3 n3 b3 t3 k3 n3 b3 t3 k3 n3 b3 t3 w3.2.2.1.1 w3.2.2.1.1 w3.2.2.1.1 w3.2.2.2.1 w3.2.2.2.1 w3.2.2.2.1
  have sp3 := impl_InSpan_f k3 n3 b3 t3 k3 n3 b3 t3 k2 n2 b2 t2 w3.2.2.1.1 w3.2.2.1.1 w2.2.2.1.1 w3.2.2.2.1 w3.2.2.2.1 w2.2.2.2.1
  have si := sameItem_f k3 n3 b3 t3 k2 n2 b2 t2 w3 w2
  have o33 : itemOrder k3 n3 b3 t3 k3 n3 b3 t3 = 0 := by
    unfold itemOrder
    rw [cmp3_self, cmp3_self, cmp3_self, if_pos rfl, if_pos rfl, if_pos rfl, lex_self]
  have q2 : inSpanP k3 n3 b3 t3 k3 n3 b3 t3 k3 n3 b3 t3 = true := by
    unfold inSpanP
    rw [if_pos h3, if_pos h3, if_pos h3, o33, if_pos (by decide)]
    rfl
  have ng : itemOrder k2 n2 b2 t2 k3 n3 b3 t3 = -itemOrder k3 n3 b3 t3 k2 n2 b2 t2 := by rw [← x2, ← x3, lex_neg]
  have q3 : inSpanP k3 n3 b3 t3 k3 n3 b3 t3 k2 n2 b2 t2 = sameP k3 n3 b3 t3 k2 n2 b2 t2 := by
    unfold inSpanP sameP
    rw [if_pos h3, if_pos h3, if_pos h2, ng]
    by_cases z : itemOrder k3 n3 b3 t3 k2 n2 b2 t2 = 0
    · rw [z, if_pos (by decide), decide_eq_true (order_same _ _ _ _ _ _ _ _ w3 w2 h3 h2 z)]
      rfl
    · have hne : ¬ (k3 = k2 ∧ n3 = n2 ∧ b3 = b2 ∧ t3 = t2) := by
        rintro ⟨rfl, rfl, rfl, rfl⟩
        exact z o33
      rw [decide_eq_false hne]
      by_cases z2 : itemOrder k3 n3 b3 t3 k2 n2 b2 t2 ≤ 0
      · rw [if_pos z2, decide_eq_false (by omega)]
      · rw [if_neg z2]
  have fin : ∀ q : Bool, inSpanP k1 n1 b1 t1 k2 n2 b2 t2 k3 n3 b3 t3 = q → Ev (fun k => laws_FnSpans.j1 k q k1 n1 b1 t1 k2 n2 b2 t2 k3 n3 b3 t3) true := by
    intro q hq
    refine Ev.step (fun k => by rw [laws_FnSpans.j1]) (Ev.bind span ?_)
    rw [hq]
    refine ev_pos (by simp) (Ev.bind sp2 ?_)
    rw [q2]
    refine ev_pos rfl (Ev.bind sp3 (Ev.bind si ?_))
    rw [q3, beq_self_eq_true]
    exact Ev.now _
  refine Ev.step (fun k => by rw [laws_FnSpans.j0, if_neg Bool.false_ne_true]) (Ev.bind kb1 (Ev.bind kb3 ?_))
  rw [s1]
  have y1 : lex (keyBytesOf k3 n3 b3 t3) (keyBytesOf k1 n1 b1 t1) = -itemOrder k1 n1 b1 t1 k3 n3 b3 t3 := by rw [lex_neg, x1]
  rw [y1]
  by_cases c1 : itemOrder k1 n1 b1 t1 k3 n3 b3 t3 ≤ 0
  · refine ev_neg (fun h => by have := of_decide_eq_true h; omega) (Ev.bind kb3 (Ev.bind kb2 ?_))
    rw [s2, x3, ng]
    refine fin _ ?_
    unfold inSpanP
    rw [if_pos h1, if_pos h2, if_pos h3, if_pos c1]
    by_cases c2 : itemOrder k3 n3 b3 t3 k2 n2 b2 t2 ≤ 0
    · rw [decide_eq_true c2, decide_eq_false (by omega)]; rfl
    · rw [decide_eq_false c2, decide_eq_true (by omega)]; rfl
  · refine ev_pos (decide_eq_true (by omega)) (fin false ?_)
    unfold inSpanP
    rw [if_pos h1, if_pos h2, if_pos h3, if_neg c1]
end Go.Proofs.Ytcjeokkhpjppaaa.Pure.ofFnSpans
namespace Go.Proofs.Ytcjeokkhpjppaaa.PrintWords
/-- The word that the printed row asks for, under the name by which it asks. -/
abbrev sized_ints := @Go.Proofs.YtcjeokkhpjppaaaW.PrintWords.sized_ints
end Go.Proofs.Ytcjeokkhpjppaaa.PrintWords
namespace Go.Proofs.Ytcjeokkhpjppaaa.Pure
open Go.Proofs.Ytcjeokkhpjppaaa.PFnSpans
theorem FnSpans : laws_FnSpans.Pure := ofFnSpans.main
end Go.Proofs.Ytcjeokkhpjppaaa.Pure
