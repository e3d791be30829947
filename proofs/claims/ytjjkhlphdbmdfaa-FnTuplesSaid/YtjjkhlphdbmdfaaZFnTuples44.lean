/-
The law FnTuples answers true: for all bytes a drawn tuple comes back from its bytes, of which there are ten at least and MaxTuple at most, and one byte fewer gives none.
Conditions: none beyond the bounds of the statement itself.
-/
import Derived.Test.YtjjkhlphdbmdfaaZFnTuples42
import Derived.Test.YtjjkhlphdbmdfaaZFnTuples43
import Derived.Test.YtjjkhlphdbmdfaaZFnTuples18
set_option linter.unusedVariables false
set_option linter.unusedSimpArgs false
namespace Go.Proofs.Ytjjkhlphdbmdfaa.Pure.ofFnTuples
open Go.Proofs.YtjjkhlphdbmdfaaX
open Go.RowKit Go.Proofs.Ytjjkhlphdbmdfaa.PFnTuples Go.Proofs.YtjjkhlphdbmdfaaW.PrintWords Go.Proofs.YtjjkhlphdbmdfaaW.PrintLast Go.Proofs.YtjjkhlphdbmdfaaW.PrintMore
theorem ev_pos {α : Type} {c : Prop} [Decidable c] {A B : Nat → Option α} {r : α} (hc : c) (h : Ev A r) : Ev (fun k => if c then A k else B k) r := by
  refine Ev.congr (fun k => ?_) h
  rw [if_pos hc]
theorem ev_neg {α : Type} {c : Prop} [Decidable c] {A B : Nat → Option α} {r : α} (hc : ¬ c) (h : Ev B r) : Ev (fun k => if c then A k else B k) r := by
  refine Ev.congr (fun k => ?_) h
  rw [if_neg hc]
theorem ev_bind0 {α β : Type} {g : Option α} {f : Nat → α → Option β} {a : α} {r : β} (h : g = some a) (k : Ev (fun n => f n a) r) : Ev (fun n => g.bind (f n)) r := by
  refine Ev.congr (fun n => ?_) k
  rw [h]; rfl
theorem w64 {x : Int} (h0 : -9223372036854775808 ≤ x) (h1 : x ≤ 9223372036854775807) : wrap64 x = x := by
  unfold wrap64; omega
theorem rd_cons (x : Int) (l : List Int) : rd (x :: l) 0 = x := rfl
theorem rd_nat (l : List Int) (i : Nat) (h : i < l.length) : rd l (i : Int) = l[i] := by
  simp [rd, List.getD_eq_getElem?_getD, List.getElem?_eq_getElem h]
theorem u64_or_add (i : Nat) {x y : Int} (hx0 : 0 ≤ x) (hx : x % 2 ^ i = 0) (hx1 : x < 18446744073709551616) (hy0 : 0 ≤ y) (hy : y < 2 ^ i) (hy1 : y < 18446744073709551616) : Go.bits .or .u64 x y = x + y :=
  bits_join .u64 64 (by decide) (fun n a b => by simp [IntKind.wrap, IntKind.bits, IntKind.signed]; omega) i x y hx0 hx hx1 hy0 hy hy1
theorem fival_u64 (a : Nat) (n : Int) (h : (Ieee.double.read a).toInt .zero = some n) (h0 : 0 ≤ n) (h1 : n < 18446744073709551616) : fiok .u64 a = true ∧ fival .u64 a = n := by
  have e : floatToIntVal .f64 a .u64 = some n := by
    unfold floatToIntVal
    have : FloatKind.decode .f64 a = Ieee.double.read a := rfl
    rw [this, h]
    have e1 : IntKind.u64.min = 0 := by rfl
    have e2 : IntKind.u64.max = 18446744073709551615 := by rfl
    exact if_pos ⟨by omega, by omega⟩
  unfold fiok fival
  rw [e]
  exact ⟨rfl, rfl⟩
theorem fls_nat (a b : Nat) (ha : a ≤ 9218868437227405312) (hb : b ≤ 9218868437227405312) : fls a b = decide (a < b) := by
  rw [fls_key a b (by omega) (by omega) (isn_pos a ha) (isn_pos b hb), fkey_pos a (by omega), fkey_pos b (by omega)]
  exact decide_eq_decide.2 (by omega)
theorem fge_nat (a b : Nat) (ha : a ≤ 9218868437227405312) (hb : b ≤ 9218868437227405312) : fge a b = decide (b ≤ a) := by
  rw [fge_key a b (by omega) (by omega) (isn_pos a ha) (isn_pos b hb), fkey_pos a (by omega), fkey_pos b (by omega)]
  exact decide_eq_decide.2 (by omega)
theorem fgt_nat (a b : Nat) (ha : a ≤ 9218868437227405312) (hb : b ≤ 9218868437227405312) : fgt a b = decide (b < a) := by
  rw [fgt_key a b (by omega) (by omega) (isn_pos a ha) (isn_pos b hb), fkey_pos a (by omega), fkey_pos b (by omega)]
  exact decide_eq_decide.2 (by omega)
theorem feq_nat (a b : Nat) (ha : a ≤ 9218868437227405312) (hb : b ≤ 9218868437227405312) : feq a b = decide (a = b) := by
  rw [feq_key a b (by omega) (by omega) (isn_pos a ha) (isn_pos b hb), fkey_pos a (by omega), fkey_pos b (by omega)]
  exact decide_eq_decide.2 (by omega)
theorem lt_one (N : Nat) (q : Int) (h : 0 < N) (h2 : N < 2 ^ 53) (hq : -1074 ≤ q) (hv : q + N.log2 ≤ 1023) : fls (fl N q) 4607182418800017408 = decide (q + N.log2 < 0) := by
  rw [fls_nat _ _ (fl_lt N q h h2 hq).2 (by omega)]
  have := fl_below N q h h2 hq hv 1022 (by omega)
  exact decide_eq_decide.2 (by omega)
theorem ge_two (N : Nat) (q : Int) (h : 0 < N) (h2 : N < 2 ^ 53) (hq : -1074 ≤ q) (hv : q + N.log2 ≤ 1023) : fge (fl N q) 4611686018427387904 = decide (1 ≤ q + N.log2) := by
  rw [fge_nat _ _ (fl_lt N q h h2 hq).2 (by omega)]
  have := fl_below N q h h2 hq hv 1023 (by omega)
  exact decide_eq_decide.2 (by omega)
theorem bits_unit (S : Int) (hS : S = 0 ∨ S = 9223372036854775808) (N : Nat) (q : Int) (h : 0 < N) (h2 : N < 2 ^ 53) (hq : -1074 ≤ q) (hv : q + N.log2 ≤ 1023) (E : Int) (hE : -1022 ≤ E) (hE2 : q + N.log2 = E) : Ev (fun k => spec_FloatBits.l1 k S (fl N (q - E)) E) (S + (fl N q : Nat)) := by
  have hlog := log2_le N h h2
  have hfin := fl_finite N q h h2 hq hv
  have hself : 2 ^ N.log2 ≤ N := Nat.log2_self_le (by omega)
  have hup : N < 2 ^ (N.log2 + 1) := Nat.lt_log2_self
  have hL : lastOf N q = E - 52 := by unfold lastOf; omega
  rw [hL] at hfin
  have hsub := sub_one N h h2
  rw [show q - E = -(N.log2 : Int) by omega]
  refine Ev.step (fun k => by rw [spec_FloatBits.l1, if_neg (by rw [lt_one N _ h h2 (by omega) (by omega), decide_eq_false (by omega)]; exact Bool.false_ne_true)]) ?_
  have hs := fl_ok (o := .sub) hsub
  refine ev_pos hs.1 ?_
  rw [hs.2]
  have key : fok .mul (if N = 2 ^ N.log2 then 0 else fl (N - 2 ^ N.log2) (-(N.log2 : Int))) 4841369599423283200 = true ∧ fiok .u64 (fval .mul (if N = 2 ^ N.log2 then 0 else fl (N - 2 ^ N.log2) (-(N.log2 : Int))) 4841369599423283200) = true ∧ fival .u64 (fval .mul (if N = 2 ^ N.log2 then 0 else fl (N - 2 ^ N.log2) (-(N.log2 : Int))) 4841369599423283200) = ((N - 2 ^ N.log2) * 2 ^ (52 - N.log2) : Nat) := by
    have hb : (N - 2 ^ N.log2) * 2 ^ (52 - N.log2) < 4503599627370496 := by
      have h3 : N - 2 ^ N.log2 < 2 ^ N.log2 := by rw [Nat.pow_succ] at hup; omega
      have h4 : (N - 2 ^ N.log2) * 2 ^ (52 - N.log2) < 2 ^ N.log2 * 2 ^ (52 - N.log2) := Nat.mul_lt_mul_of_pos_right h3 (Nat.two_pow_pos _)
      rw [← Nat.pow_add, show N.log2 + (52 - N.log2) = 52 by omega] at h4
      exact h4
    by_cases hz : N = 2 ^ N.log2
    · rw [if_pos hz, show N - 2 ^ N.log2 = 0 by omega, Nat.zero_mul]
      have hm := fl_ok (o := .mul) (a := 0) (b := 4841369599423283200) (r := 0) (by
        show Ieee.double.mul 0 4841369599423283200 = some 0
        unfold Ieee.Format.mul
        rw [read_zero, read_wide]
        show some (Ieee.double.write (.number false (0 * 4503599627370496) _)) = _
        rw [Nat.zero_mul, write_zero, word_false])
      rw [hm.2]
      exact ⟨hm.1, fival_u64 0 0 toInt_zero (by omega) (by omega)⟩
    · rw [if_neg hz]
      have hlt : N - 2 ^ N.log2 < 2 ^ 53 := Nat.lt_of_le_of_lt (Nat.sub_le _ _) h2
      have hlog' := log2_le (N - 2 ^ N.log2) (by omega) hlt
      have hm := fl_ok (o := .mul) (mul_pow (N - 2 ^ N.log2) (-(N.log2 : Int)) 4841369599423283200 0 (by omega) hlt (by omega) (by omega) read_wide (by omega))
      rw [hm.2, show -(N.log2 : Int) + 0 + 52 = ((52 - N.log2 : Nat) : Int) by omega]
      exact ⟨hm.1, fival_u64 _ _ (toInt_fl (N - 2 ^ N.log2) (52 - N.log2) (by omega) hlt (by omega)) (by omega) (by omega)⟩
  refine ev_pos key.1 ?_
  refine ev_pos key.2.1 ?_
  rw [key.2.2, hfin.1]
  have hmul : N * 2 ^ (52 - N.log2) = (N - 2 ^ N.log2) * 2 ^ (52 - N.log2) + 4503599627370496 := by
    have h1 : (4503599627370496 : Nat) = 2 ^ N.log2 * 2 ^ (52 - N.log2) := by rw [← Nat.pow_add, show N.log2 + (52 - N.log2) = 52 by omega]
    rw [h1, ← Nat.add_mul, show N - 2 ^ N.log2 + 2 ^ N.log2 = N by omega]
  have hb : (N - 2 ^ N.log2) * 2 ^ (52 - N.log2) < 4503599627370496 := by
    have h3 : N - 2 ^ N.log2 < 2 ^ N.log2 := by rw [Nat.pow_succ] at hup; omega
    have h4 : (N - 2 ^ N.log2) * 2 ^ (52 - N.log2) < 2 ^ N.log2 * 2 ^ (52 - N.log2) := Nat.mul_lt_mul_of_pos_right h3 (Nat.two_pow_pos _)
    rw [← Nat.pow_add, show N.log2 + (52 - N.log2) = 52 by omega] at h4
    exact h4
  rw [show (q - (E - 52)).toNat = 52 - N.log2 by omega, hmul]
  generalize (N - 2 ^ N.log2) * 2 ^ (52 - N.log2) = F at hb
  rw [w64 (by omega) (by omega)]
  have e1 : IntKind.u64.wrap (E + 1023) = E + 1023 := by simp [IntKind.wrap, IntKind.bits, IntKind.signed]; omega
  have e2 : IntKind.u64.wrap ((E + 1023) * 4503599627370496) = (E + 1023) * 4503599627370496 := by simp [IntKind.wrap, IntKind.bits, IntKind.signed]; omega
  rw [e1, e2, u64_or_add 63 (x := S) (y := (E + 1023) * 4503599627370496) (by omega) (by rcases hS with rfl | rfl <;> rfl) (by omega) (by omega) (show _ < (9223372036854775808 : Int) by omega) (by omega)]
  rw [u64_or_add 52 (by omega) (show _ % (4503599627370496 : Int) = 0 by omega) (by omega) (by omega) (show _ < (4503599627370496 : Int) by omega) (by omega)]
  have e3 : S + (E + 1023) * 4503599627370496 + (F : Int) = S + (((E - 52 + 1074).toNat * 4503599627370496 + (F + 4503599627370496) : Nat) : Int) := by omega
  rw [e3]
  exact Ev.now _
theorem bits_l1 (S : Int) (hS : S = 0 ∨ S = 9223372036854775808) (N : Nat) (q : Int) (h : 0 < N) (h2 : N < 2 ^ 53) (hq : -1074 ≤ q) (hv : q + N.log2 ≤ 1023) : ∀ (n : Nat) (E : Int), E ≤ 1023 → -1022 ≤ E → q + N.log2 ≤ E → -1074 ≤ q - E → (n : Int) = E + 1022 → Ev (fun k => spec_FloatBits.l1 k S (fl N (q - E)) E) (S + (fl N q : Nat)) := by
  have hlog := log2_le N h h2
  have hl := last_le N q h h2 hq
  have hm := mag_bound N q h h2 hq
  have hfin := fl_finite N q h h2 hq hv
  have hself : 2 ^ N.log2 ≤ N := Nat.log2_self_le (by omega)
  have hup : N < 2 ^ (N.log2 + 1) := Nat.lt_log2_self
  intro n
  induction n with
  | zero =>
    intro E hE1 hE2 hE3 hE4 hn
    have hE : E = -1022 := by omega
    subst hE
    by_cases hz : q + N.log2 = -1022
    · exact bits_unit S hS N q h h2 hq hv _ (by omega) (by omega)
    · have hL : lastOf N q = -1074 := by unfold lastOf; omega
      rw [hL] at hm hfin
      have hsmall : N * 2 ^ (q - -1074).toNat < 9007199254740992 := hm.2.1
      refine Ev.step (fun k => by rw [spec_FloatBits.l1, if_pos (by rw [lt_one N _ h h2 (by omega) (by omega)]; exact decide_eq_true (by omega)), if_neg (by omega)]) ?_
      have hmul := fl_ok (o := .mul) (mul_pow N (q - -1022) 4841369599423283200 0 h h2 (by omega) (by omega) read_wide (by omega))
      have hq2 : q - -1022 + 0 + 52 = ((q - -1074).toNat : Int) := by omega
      rw [hq2] at hmul
      have hi := fival_u64 _ _ (toInt_fl N (q - -1074).toNat h h2 (by omega)) (by omega) (by omega)
      refine ev_pos hmul.1 ?_
      rw [hmul.2]
      refine ev_pos hi.1 ?_
      rw [hi.2, hfin.1]
      rw [show (-1074 + 1074 : Int).toNat = 0 by omega, Nat.zero_mul, Nat.zero_add]
      have hlt : N * 2 ^ (q - -1074).toNat < 9007199254740992 := hm.2.1
      rw [u64_or_add 53 (by omega) (by rcases hS with rfl | rfl <;> rfl) (by omega) (by omega) (show _ < (9007199254740992 : Int) by omega) (by omega)]
      exact Ev.now _
  | succ n ih =>
    intro E hE1 hE2 hE3 hE4 hn
    by_cases hz : q + N.log2 = E
    · exact bits_unit S hS N q h h2 hq hv _ (by omega) (by omega)
    · refine Ev.step (fun k => by rw [spec_FloatBits.l1, if_pos (by rw [lt_one N _ h h2 (by omega) (by omega)]; exact decide_eq_true (by omega)), if_pos (by omega)]) ?_
      have hmul := fl_ok (o := .mul) (mul_pow N (q - E) 4611686018427387904 (-51) h h2 (by omega) (by omega) read_two (by omega))
      refine ev_pos hmul.1 ?_
      rw [hmul.2, w64 (by omega) (by omega), show q - E + -51 + 52 = q - (E - 1) by omega]
      exact ih (E - 1) (by omega) (by omega) (by omega) (by omega) (by omega)
theorem bits_l0 (S : Int) (hS : S = 0 ∨ S = 9223372036854775808) (N : Nat) (q : Int) (h : 0 < N) (h2 : N < 2 ^ 53) (hq : -1074 ≤ q) (hv : q + N.log2 ≤ 1023) : ∀ (n : Nat) (E : Int), 0 ≤ E → (E = 0 ∨ E ≤ q + N.log2) → (n : Int) = 1023 - E → Ev (fun k => spec_FloatBits.l0 k S (fl N (q - E)) E) (S + (fl N q : Nat)) := by
  have hlog := log2_le N h h2
  intro n
  induction n with
  | zero =>
    intro E h0 hE hn
    refine Ev.step (fun k => by rw [spec_FloatBits.l0, if_neg (by rw [ge_two N _ h h2 (by omega) (by omega), decide_eq_false (by omega)]; exact Bool.false_ne_true)]) ?_
    exact bits_l1 S hS N q h h2 hq hv (E + 1022).toNat E (by omega) (by omega) (by omega) (by omega) (by omega)
  | succ n ih =>
    intro E h0 hE hn
    by_cases hz : q + N.log2 ≤ E
    · refine Ev.step (fun k => by rw [spec_FloatBits.l0, if_neg (by rw [ge_two N _ h h2 (by omega) (by omega), decide_eq_false (by omega)]; exact Bool.false_ne_true)]) ?_
      exact bits_l1 S hS N q h h2 hq hv (E + 1022).toNat E (by omega) (by omega) (by omega) (by omega) (by omega)
    · refine Ev.step (fun k => by rw [spec_FloatBits.l0, if_pos (by rw [ge_two N _ h h2 (by omega) (by omega)]; exact decide_eq_true (by omega))]) ?_
      have hquo := fl_ok (o := .quo) (quo_pow N (q - E) 4611686018427387904 (-51) h h2 (by omega) (by omega) read_two (by omega))
      refine ev_pos hquo.1 ?_
      rw [hquo.2, w64 (by omega) (by omega), show q - E - -51 - 52 = q - (E + 1) by omega]
      exact ih (E + 1) (by omega) (by omega) (by omega)
theorem bits_j1 (S : Int) (hS : S = 0 ∨ S = 9223372036854775808) (c : Nat) (hc : c ≤ 9218868437227405312) : Ev (fun k => spec_FloatBits.j1 k S c) (S + (c : Nat)) := by
  by_cases h0 : c = 0
  · subst h0
    refine Ev.step (fun k => by rw [spec_FloatBits.j1, if_pos (by rw [feq_nat _ _ (by omega) (by omega)]; rfl)]) ?_
    rw [show S + ((0 : Nat) : Int) = S by omega]
    exact Ev.now _
  by_cases hi : c = 9218868437227405312
  · subst hi
    refine Ev.step (fun k => by rw [spec_FloatBits.j1, if_neg (by rw [feq_nat _ _ (by omega) (by omega), decide_eq_false (by omega)]; exact Bool.false_ne_true), if_pos (by rw [fgt_nat _ _ (by omega) (by omega)]; exact decide_eq_true (by omega))]) ?_
    rw [u64_or_add 63 (by omega) (by rcases hS with rfl | rfl <;> rfl) (by omega) (by omega) (show _ < (9223372036854775808 : Int) by omega) (by omega)]
    exact Ev.now _
  · obtain ⟨a1, a2, a3, a4⟩ := log2_mg c (by omega) (by omega)
    obtain ⟨e, hp, hp2, hm, hn⟩ := mg_pl c (by omega)
    refine Ev.step (fun k => by rw [spec_FloatBits.j1, if_neg (by rw [feq_nat _ _ (by omega) (by omega)]; simp [h0]), if_neg (by rw [fgt_nat _ _ (by omega) (by omega), decide_eq_false (by omega)]; exact Bool.false_ne_true)]) ?_
    have := bits_l0 S hS (mg c) (pl c) a1 a2 hp a4 1023 0 (by omega) (Or.inl rfl) (by omega)
    rw [show pl c - 0 = pl c by omega, fl_eta c (by omega) (by omega)] at this
    exact this
theorem spec_FloatBits_f (a : Nat) (ha : a < 2 ^ 64) : Ev (fun k => spec_FloatBits.f k a) (if isn a then 9221120237041090560 else (a : Int)) := by
  unfold spec_FloatBits.f
  cases hn : isn a with
  | true =>
    refine ev_neg (by rw [feq_self a ha, hn]; simp) ?_
    exact Ev.now _
  | false =>
    refine ev_pos (by rw [feq_self a ha, hn]; rfl) ?_
    rw [if_neg (by simp)]
    have hz : isn 0 = false := isn_pos 0 (by omega)
    have low : ∀ c, c ≤ 9218868437227405312 → a = c → Ev (fun k => if fls a 0 = true then spec_FloatBits.j0 k a 0 a true else if feq a 0 = true then if fok .quo 4607182418800017408 a = true then spec_FloatBits.j0 k a 0 a (fls (fval .quo 4607182418800017408 a) 0) else none else spec_FloatBits.j0 k a 0 a false) (a : Int) := by
      intro c hc hac
      subst hac
      have fin : Ev (fun k => spec_FloatBits.j0 k a 0 a false) (a : Int) := by
        refine Ev.step (fun k => by rw [spec_FloatBits.j0, if_neg (by simp)]) ?_
        have := bits_j1 0 (Or.inl rfl) a hc
        rw [Int.zero_add] at this
        exact this
      refine ev_neg (by rw [fls_nat a 0 hc (by omega)]; simp) ?_
      by_cases h0 : a = 0
      · subst h0
        refine ev_pos (by rw [feq_nat 0 0 (by omega) (by omega)]; rfl) ?_
        have hq := fl_ok (o := .quo) (a := 4607182418800017408) (b := 0) (r := 9218868437227405312) (by
          show Ieee.double.div 4607182418800017408 0 = some 9218868437227405312
          unfold Ieee.Format.div
          rw [read_zero, read_one]
          rfl)
        refine ev_pos hq.1 ?_
        rw [hq.2, fls_nat _ _ (by omega) (by omega)]
        exact fin
      · refine ev_neg (by rw [feq_nat a 0 hc (by omega)]; simp [h0]) ?_
        exact fin
    have high : ∀ c, c ≤ 9218868437227405312 → a = 9223372036854775808 + c → Ev (fun k => if fls a 0 = true then spec_FloatBits.j0 k a 0 a true else if feq a 0 = true then if fok .quo 4607182418800017408 a = true then spec_FloatBits.j0 k a 0 a (fls (fval .quo 4607182418800017408 a) 0) else none else spec_FloatBits.j0 k a 0 a false) (a : Int) := by
      intro c hc hac
      have fin : Ev (fun k => spec_FloatBits.j0 k a 0 a true) (a : Int) := by
        refine Ev.step (fun k => by rw [spec_FloatBits.j0, if_pos rfl]) ?_
        have := bits_j1 9223372036854775808 (Or.inr rfl) c hc
        rw [hac, fneg_neg c (by omega)]
        rw [show ((9223372036854775808 + c : Nat) : Int) = 9223372036854775808 + (c : Int) by omega]
        exact this
      have hk := fkey_neg c a hac
      have hk0 : fkey 0 = 0 := fkey_pos 0 (by omega)
      by_cases h0 : c = 0
      · subst h0
        refine ev_neg (by rw [fls_key a 0 ha (by omega) hn hz, hk, hk0]; simp) ?_
        refine ev_pos (by rw [feq_key a 0 ha (by omega) hn hz, hk, hk0]; rfl) ?_
        have hq := fl_ok (o := .quo) (a := 4607182418800017408) (b := 9223372036854775808) (r := 18442240474082181120) (by
          show Ieee.double.div 4607182418800017408 9223372036854775808 = some 18442240474082181120
          unfold Ieee.Format.div
          rw [read_nzero, read_one]
          rfl)
        rw [Nat.add_zero] at hac
        rw [hac] at fin ⊢
        refine ev_pos hq.1 ?_
        rw [hq.2]
        have e : fls 18442240474082181120 0 = true := by
          rw [fls_key _ 0 (by omega) (by omega) (isn_neg 9218868437227405312 (by omega)) hz, hk0, fkey_neg 9218868437227405312 18442240474082181120 rfl]
          exact decide_eq_true (by omega)
        rw [e]
        exact fin
      · refine ev_pos (by rw [fls_key a 0 ha (by omega) hn hz, hk, hk0]; exact decide_eq_true (by omega)) ?_
        exact fin
    rcases word_real a ha hn with g | g | ⟨c, g, hc⟩ | g
    · exact low a (by omega) rfl
    · exact low a (by omega) rfl
    · exact high c (by omega) g
    · exact high 9218868437227405312 (by omega) g
theorem fkey_zero (a : Nat) (ha : a < 2 ^ 64) : fkey a = 0 ↔ a = 0 ∨ a = 9223372036854775808 := by
  unfold fkey
  split <;> omega
theorem feq_zero (a : Nat) (ha : a < 2 ^ 64) (hn : isn a = false) : feq a 0 = decide (a = 0 ∨ a = 9223372036854775808) := by
  rw [feq_key a 0 ha (by omega) hn (isn_pos 0 (by omega)), fkey_pos 0 (by omega)]
  exact decide_eq_decide.2 (fkey_zero a ha)
theorem fgt_zero (a : Nat) (ha : a < 2 ^ 64) (hn : isn a = false) : fgt a 0 = decide (0 < a ∧ a < 9223372036854775808) := by
  rw [fgt_key a 0 ha (by omega) hn (isn_pos 0 (by omega)), fkey_pos 0 (by omega)]
  refine decide_eq_decide.2 ?_
  unfold fkey
  split <;> omega
theorem bits_or_comm (k : IntKind) (x y : Int) : Go.bits .or k x y = Go.bits .or k y x := by
  unfold Go.bits
  dsimp only
  rw [BitVec.or_comm]
theorem u64_not (b : Nat) (h : b < 2 ^ 64) : Go.bits .xor .u64 IntKind.u64.max (b : Int) = 18446744073709551615 - (b : Int) := by
  have e1 : IntKind.u64.max = 18446744073709551615 := by rfl
  have e2 : Go.bits .xor .u64 IntKind.u64.max (b : Int) = IntKind.u64.wrap ((BitVec.ofInt 64 IntKind.u64.max ^^^ BitVec.ofInt 64 (b : Int)).toNat : Int) := rfl
  have e3 : BitVec.ofInt 64 (18446744073709551615 : Int) = BitVec.allOnes 64 := by rfl
  rw [e2, e1, e3, BitVec.allOnes_xor, BitVec.toNat_not, BitVec.ofInt_natCast, BitVec.toNat_ofNat, Nat.mod_eq_of_lt h]
  have e4 : ((2 ^ 64 - 1 - b : Nat) : Int) = 18446744073709551615 - (b : Int) := by omega
  rw [e4]
  simp [IntKind.wrap, IntKind.bits, IntKind.signed]
  omega
def rankOf (a : Nat) : Int := if isn a then 18446744073709551615 else if a = 0 ∨ a = 9223372036854775808 then 9223372036854775808 else if a < 9223372036854775808 then 9223372036854775808 + (a : Int) else 18446744073709551615 - (a : Int)
theorem or_sign (a : Nat) (h : a < 9223372036854775808) : Go.bits .or .u64 (a : Int) 9223372036854775808 = 9223372036854775808 + (a : Int) := by
  rw [bits_or_comm, u64_or_add 63 (by omega) (by rfl) (by omega) (by omega) (show _ < (9223372036854775808 : Int) by omega) (by omega)]
theorem impl_FloatRank_f (a : Nat) (ha : a < 2 ^ 64) : impl_FloatRank.f a = some (rankOf a) := by
  unfold impl_FloatRank.f rankOf
  rw [feq_self a ha]
  cases hn : isn a with
  | true => rfl
  | false =>
    rw [if_pos (show (!false) = true from rfl), if_neg Bool.false_ne_true, feq_zero a ha hn, fgt_zero a ha hn]
    by_cases hz : a = 0 ∨ a = 9223372036854775808
    · rw [if_pos hz, decide_eq_true hz]
      rfl
    · rw [if_neg hz, decide_eq_false hz, if_neg Bool.false_ne_true]
      by_cases hs : a < 9223372036854775808
      · rw [if_pos hs, decide_eq_true (by omega), if_pos rfl, or_sign a hs]
      · rw [if_neg hs, decide_eq_false (by omega), if_neg Bool.false_ne_true, u64_not a ha]
def IsBytes (l : List Int) : Prop := ∀ x ∈ l, 0 ≤ x ∧ x ≤ 255
theorem rd_byte {l : List Int} (h : IsBytes l) (i : Int) : 0 ≤ rd l i ∧ rd l i ≤ 255 := by
  by_cases hi : i.toNat < l.length
  · have : rd l i = l[i.toNat] := by simp [rd, List.getD_eq_getElem?_getD, List.getElem?_eq_getElem hi]
    rw [this]
    exact h _ (List.getElem_mem _)
  · have : rd l i = 0 := by simp [rd, List.getD_eq_getElem?_getD, List.getElem?_eq_none (by omega : l.length ≤ i.toNat)]
    omega
theorem isBytes_append {a b : List Int} (ha : IsBytes a) (hb : IsBytes b) : IsBytes (a ++ b) := by
  intro x hx
  rcases List.mem_append.1 hx with h | h
  · exact ha x h
  · exact hb x h
theorem isBytes_one {x : Int} (h : 0 ≤ x ∧ x ≤ 255) : IsBytes [x] := by
  intro y hy
  rw [List.mem_singleton.1 hy]
  exact h
theorem isBytes_nil : IsBytes [] := fun x hx => by cases hx
theorem impl_within_f (a b c : Int) : impl_within.f a b c = some (decide (b ≤ a ∧ a ≤ c)) := by
  unfold impl_within.f
  by_cases h : b ≤ a <;> simp [h]
theorem spec_l5in_f (a b c : Int) : spec_l5in.f a b c = some (decide (b ≤ a ∧ a ≤ c)) := by
  unfold spec_l5in.f
  by_cases h : b ≤ a <;> simp [h]
def le (n : Int) : Nat → List Int
  | 0 => []
  | d + 1 => (n % 256) :: le (n / 256) d
theorem le_length (d : Nat) : ∀ n, (le n d).length = d := by
  induction d with
  | zero => intro n; rfl
  | succ d ih => intro n; simp [le, ih]
theorem le_bytes (d : Nat) : ∀ n, ∀ x ∈ le n d, 0 ≤ x ∧ x ≤ 255 := by
  induction d with
  | zero => intro n x hx; simp [le] at hx
  | succ d ih =>
    intro n x hx
    simp only [le, List.mem_cons] at hx
    rcases hx with rfl | hx
    · omega
    · exact ih _ x hx
def PnOk (n size : Int) : Prop := (1 ≤ size ∧ size ≤ 8) ∧ 0 ≤ n ∧ n / 256 ^ size.toNat = 0
instance (n size : Int) : Decidable (PnOk n size) := by unfold PnOk; infer_instance
def pn (n size : Int) : List Int := if PnOk n size then le n size.toNat else []
theorem impl_PutNum_l (size : Int) (hs : size ≤ 8) (d : Nat) : ∀ (n i : Int) (out : List Int), 0 ≤ i → i + d = size → out.length ≤ 100 - d →
    Ev (fun k => impl_PutNum.l0 k n out size i) (out ++ le n d) := by
  induction d with
  | zero =>
    intro n i out hi he ho
    refine Ev.step (f := fun _ => some (out ++ le n 0)) (fun k => ?_) (Ev.now _)
    simp only [impl_PutNum.l0]
    rw [if_neg (by omega)]
    simp [le]
  | succ d ih =>
    intro n i out hi he ho
    have := ih (n / 256) (i + 1) (out ++ [n % 256]) (by omega) (by omega) (by simp; omega)
    simp only [List.append_assoc, List.cons_append, List.nil_append] at this
    refine Ev.step (fun k => ?_) this
    simp only [impl_PutNum.l0]
    rw [if_pos (by omega), if_pos (by omega), w64 (by omega) (by omega)]
theorem pn_off (n size : Int) (h : ¬ PnOk n size) : pn n size = [] := by rw [pn, if_neg h]
theorem shr_pow (n size : Int) (h1 : 1 ≤ size) (h2 : size < 8) : shr .i64 n (wrap64 (8 * size)) = n / 256 ^ size.toNat := by
  rw [w64 (by omega) (by omega)]
  unfold shr
  rw [Nat.min_eq_left (by simp [IntKind.bits]; omega)]
  obtain ⟨m, rfl⟩ := Int.eq_ofNat_of_zero_le (show 0 ≤ size by omega)
  have : (8 * (m : Int)).toNat = 8 * m := by omega
  rw [this, Int.toNat_natCast, Int.pow_mul]
  rfl
theorem impl_PutNum_f (n size : Int) (h1 : n ≤ 9223372036854775807) : Ev (fun k => impl_PutNum.f k n size) (pn n size) := by
  unfold impl_PutNum.f
  refine ev_bind0 (impl_within_f _ _ _) ?_
  by_cases s1 : 1 ≤ size ∧ size ≤ 8
  · refine ev_pos (decide_eq_true s1) ?_
    by_cases s2 : n < 0
    · refine ev_pos s2 (Ev.step (f := fun _ => some []) (fun k => by simp only [impl_PutNum.j0, if_true]) ?_)
      rw [pn_off n size (fun h => by have := h.2.1; omega)]
      exact Ev.now _
    refine ev_neg s2 ?_
    have hl := impl_PutNum_l size (by omega) size.toNat n 0 [] (by omega) (by omega) (by simp)
    by_cases s3 : size < 8
    · refine ev_pos s3 (ev_pos (by rw [w64 (by omega) (by omega)]; omega) ?_)
      rw [shr_pow n size s1.1 s3]
      by_cases hz : n / 256 ^ size.toNat = 0
      · refine Ev.step (f := fun k => impl_PutNum.l0 k n [] size 0) (fun k => by simp only [impl_PutNum.j0]; rw [if_neg (by simp [hz])]) ?_
        rw [pn, if_pos ⟨s1, by omega, hz⟩]
        exact hl
      · refine Ev.step (f := fun _ => some []) (fun k => by simp only [impl_PutNum.j0]; rw [if_pos (by simp [hz])]) ?_
        rw [pn_off n size (fun h => hz h.2.2)]
        exact Ev.now _
    · refine ev_neg s3 ?_
      obtain rfl : size = 8 := by omega
      refine Ev.step (f := fun k => impl_PutNum.l0 k n [] 8 0) (fun k => by simp only [impl_PutNum.j0, Bool.false_eq_true, if_false]) ?_
      have hz : n / 256 ^ (8 : Int).toNat = 0 := by
        have : (256 : Int) ^ (8 : Int).toNat = 18446744073709551616 := by decide
        rw [this]; omega
      rw [pn, if_pos ⟨s1, by omega, hz⟩]
      exact hl
  · refine ev_neg (by simpa using s1) (Ev.step (f := fun _ => some []) (fun k => by simp only [impl_PutNum.j0, if_true]) ?_)
    rw [pn_off n size (fun h => s1 h.1)]
    exact Ev.now _
theorem pn_length (n size : Int) : (pn n size).length ≤ 8 := by
  unfold pn
  split
  · rename_i h
    rw [le_length]
    have := h.1
    omega
  · simp
def gv (l : List Int) (p : Int) : Nat → Int
  | 0 => 0
  | d + 1 => rd l p + 256 * gv l (p + 1) d
theorem gv_range {l : List Int} (h : IsBytes l) (d : Nat) : ∀ p, 0 ≤ gv l p d ∧ gv l p d < 256 ^ d := by
  induction d with
  | zero => intro p; simp [gv]
  | succ d ih =>
    intro p
    have h1 := ih (p + 1)
    have h2 := rd_byte h p
    simp only [gv]
    rw [Int.pow_succ]
    constructor
    · omega
    · have : gv l (p + 1) d + 1 ≤ 256 ^ d := h1.2
      omega
theorem gv_small {l : List Int} (h : IsBytes l) (d : Nat) (hd : d ≤ 7) (p : Int) : 0 ≤ gv l p d ∧ gv l p d < 72057594037927936 := by
  refine ⟨(gv_range h d p).1, Int.lt_of_lt_of_le (gv_range h d p).2 ?_⟩
  have : d = 0 ∨ d = 1 ∨ d = 2 ∨ d = 3 ∨ d = 4 ∨ d = 5 ∨ d = 6 ∨ d = 7 := by omega
  rcases this with rfl | rfl | rfl | rfl | rfl | rfl | rfl | rfl <;> decide
theorem gv_eight {l : List Int} (h : IsBytes l) (d : Nat) (hd : d ≤ 8) (p : Int) : 0 ≤ gv l p d ∧ gv l p d < 18446744073709551616 := by
  refine ⟨(gv_range h d p).1, Int.lt_of_lt_of_le (gv_range h d p).2 ?_⟩
  have : d = 0 ∨ d = 1 ∨ d = 2 ∨ d = 3 ∨ d = 4 ∨ d = 5 ∨ d = 6 ∨ d = 7 ∨ d = 8 := by omega
  rcases this with rfl | rfl | rfl | rfl | rfl | rfl | rfl | rfl | rfl <;> decide
def GnOk (l : List Int) (at_ size : Int) : Prop := (1 ≤ size ∧ size ≤ 8) ∧ (0 ≤ at_ ∧ at_ ≤ l.length) ∧ size ≤ l.length - at_
instance (l : List Int) (at_ size : Int) : Decidable (GnOk l at_ size) := by unfold GnOk; infer_instance
def gn (l : List Int) (at_ size : Int) : Int × Bool := if GnOk l at_ size ∧ gv l at_ size.toNat < 9223372036854775808 then (gv l at_ size.toNat, true) else (0, false)
theorem u64_or {x y : Int} (h0 : 0 ≤ x) (h1 : x < 72057594037927936) (h2 : 0 ≤ y) (h3 : y ≤ 255) : Go.bits .or .u64 (IntKind.u64.wrap (x * 256)) y = y + 256 * x := by
  have e : IntKind.u64.wrap (x * 256) = x * 256 := by simp [IntKind.wrap, IntKind.bits, IntKind.signed]; omega
  rw [e, bits_join .u64 64 (by decide) (fun n a b => by simp [IntKind.wrap, IntKind.bits, IntKind.signed]; omega) 8 (x * 256) y (by omega) (by simp) (by omega) h2 (by omega) (by omega)]
  omega
theorem u64_id {x : Int} (h0 : 0 ≤ x) (h1 : x < 18446744073709551616) : IntKind.u64.wrap x = x := by simp [IntKind.wrap, IntKind.bits, IntKind.signed]; omega
theorem gv_step (l : List Int) (p : Int) (n d : Nat) (hd : d < n) : gv l (p + d) (n - d) = gv l (p + (d + 1 : Nat)) (n - (d + 1)) * 256 + rd l (p + d) := by
  rw [show n - d = (n - (d + 1)) + 1 by omega]
  simp only [gv]
  rw [show p + (d : Int) + 1 = p + (d + 1 : Nat) by omega]
  omega
theorem impl_GetNum_l (l : List Int) (hl : IsBytes l) (hn : l.length ≤ 1048576) (p size : Int) (ok : GnOk l p size) (d : Nat) : ∀ (i : Int), i + 1 = d → d ≤ size →
    Ev (fun k => impl_GetNum.l0 k l p (gv l (p + d) (size.toNat - d)) i) (gn l p size) := by
  have ok' := ok
  obtain ⟨⟨s1, s2⟩, ⟨p1, p2⟩, hs⟩ := ok
  induction d with
  | zero =>
    intro i hi _
    refine Ev.step (f := fun _ => some (gn l p size)) (fun k => ?_) (Ev.now _)
    have e0 : gv l (p + ((0 : Nat) : Int)) (size.toNat - 0) = gv l p size.toNat := by simp
    have h := gv_eight hl size.toNat (by omega) p
    simp only [impl_GetNum.l0]
    rw [e0, if_neg (by omega)]
    by_cases hG : gv l p size.toNat < 9223372036854775808
    · have hgn : gn l p size = (gv l p size.toNat, true) := by rw [gn, if_pos ⟨ok', hG⟩]
      rw [hgn, if_neg (by omega), w64 (by omega) (by omega)]
    · have hgn : gn l p size = (0, false) := by rw [gn, if_neg (fun h => hG h.2)]
      rw [hgn, if_pos (by omega)]
  | succ d ih =>
    intro i hi hd
    have hid : i = d := by omega
    subst hid
    have e : wrap64 (p + d) = p + d := w64 (by omega) (by omega)
    have hb := rd_byte hl (p + d)
    have hs' := gv_step l p size.toNat d (by omega)
    have hg := gv_small hl (size.toNat - (d + 1)) (by omega) (p + (d + 1 : Nat))
    refine Ev.step (fun k => ?_) (ih ((d : Int) - 1) (by omega) (by omega))
    simp only [impl_GetNum.l0]
    rw [e, if_pos (by omega), if_pos (by omega), if_pos (by omega), u64_id (x := rd l (p + d)) (by omega) (by omega), u64_or hg.1 hg.2 hb.1 hb.2, w64 (x := (d : Int) - 1) (by omega) (by omega), hs', Int.mul_comm 256, Int.add_comm]
theorem impl_hasBytes_f (l : List Int) (hn : l.length ≤ 1048576) (p many : Int) : impl_hasBytes.f l p many = some (decide ((0 ≤ p ∧ p ≤ l.length) ∧ many ≤ l.length - p)) := by
  unfold impl_hasBytes.f
  rw [impl_within_f]
  simp only [Option.bind_some, decide_eq_true_eq]
  by_cases h : 0 ≤ p ∧ p ≤ l.length
  · rw [if_pos h, w64 (by omega) (by omega)]
    simp [h]
  · rw [if_neg h]
    simp [h]
theorem impl_GetNum_f (l : List Int) (hl : IsBytes l) (hn : l.length ≤ 1048576) (p size : Int) : Ev (fun k => impl_GetNum.f k l p size) (gn l p size) := by
  unfold impl_GetNum.f
  refine ev_bind0 (impl_within_f _ _ _) ?_
  by_cases s1 : 1 ≤ size ∧ size ≤ 8
  · refine ev_pos (decide_eq_true s1) ?_
    refine ev_bind0 (impl_hasBytes_f l hn p size) ?_
    by_cases s2 : (0 ≤ p ∧ p ≤ l.length) ∧ size ≤ l.length - p
    · have ok : GnOk l p size := ⟨s1, s2.1, s2.2⟩
      refine Ev.step (f := fun k => impl_GetNum.l0 k l p 0 (size - 1)) (fun k => ?_) ?_
      · simp only [impl_GetNum.j0]
        rw [if_neg (by simp [s2]), w64 (x := size - 1) (by omega) (by omega)]
      · have := impl_GetNum_l l hl hn p size ok size.toNat (size - 1) (by omega) (by omega)
        rw [Nat.sub_self] at this
        exact this
    · refine Ev.step (f := fun _ => some (0, false)) (fun k => by simp only [impl_GetNum.j0]; rw [if_pos (by simp only [decide_eq_false s2, Bool.not_false])]) ?_
      rw [gn, if_neg (fun h => s2 ⟨h.1.2.1, h.1.2.2⟩)]
      exact Ev.now _
  · refine ev_neg (by simpa using s1) ?_
    refine Ev.step (f := fun _ => some (0, false)) (fun k => by simp only [impl_GetNum.j0, if_true]) ?_
    rw [gn, if_neg (fun h => s1 h.1.1)]
    exact Ev.now _
theorem cloneByte_f (l : List Int) (hn : l.length ≤ 1048576) : slices_Clone_byte_byte.f l = some l := by
  unfold slices_Clone_byte_byte.f
  simp only [Option.bind_some, List.nil_append, List.length_nil]
  rw [if_pos (by omega)]
def itemOkP (kd n : Int) (b : Nat) (t : List Int) : Bool := decide (0 ≤ kd ∧ kd ≤ 3 ∧ t.length ≤ 40 ∧ (kd = 1 ∨ n = 0) ∧ (kd = 2 ∨ b = 0) ∧ (kd = 3 ∨ t.length = 0))
theorem canon_zero (b : Nat) : (if isn b then 9221120237041090560 else (b : Int)) = 0 ↔ b = 0 := by
  cases hn : isn b with
  | true =>
    rw [if_pos rfl]
    constructor
    · omega
    · rintro rfl
      exact absurd hn (by decide)
  | false =>
    rw [if_neg Bool.false_ne_true]
    omega
theorem spec_ItemOk_j1 (x : Bool) (kd n : Int) (b : Nat) (t : List Int) (hb : b < 2 ^ 64) : Ev (fun k => spec_ItemOk.j1 k x kd n b t) (decide (x = false ∧ (kd = 2 ∨ b = 0) ∧ (kd = 3 ∨ t.length = 0))) := by
  cases x with
  | true =>
    refine Ev.step (fun k => by rw [spec_ItemOk.j1, if_pos rfl]) ?_
    rw [decide_eq_false (by simp)]
    exact Ev.now _
  | false =>
    refine Ev.step (fun k => by rw [spec_ItemOk.j1, if_neg Bool.false_ne_true]) ?_
    have fin : Ev (fun _ => if kd = 3 then some true else some ((t.length : Int) == 0)) (decide (kd = 3 ∨ t.length = 0)) := by
      by_cases h3 : kd = 3
      · refine ev_pos h3 ?_
        rw [decide_eq_true (Or.inl h3)]
        exact Ev.now _
      · refine ev_neg h3 ?_
        rw [show ((t.length : Int) == 0) = decide (kd = 3 ∨ t.length = 0) by rw [Bool.eq_iff_iff]; simp [h3]]
        exact Ev.now _
    by_cases h2 : kd = 2
    · refine ev_pos h2 ?_
      rw [show decide (false = false ∧ (kd = 2 ∨ b = 0) ∧ (kd = 3 ∨ t.length = 0)) = decide (kd = 3 ∨ t.length = 0) from decide_eq_decide.2 (by simp [h2])]
      exact fin
    · refine ev_neg h2 ?_
      refine Ev.bind (spec_FloatBits_f b hb) ?_
      by_cases h0 : b = 0
      · refine ev_pos ((canon_zero b).2 h0) ?_
        rw [show decide (false = false ∧ (kd = 2 ∨ b = 0) ∧ (kd = 3 ∨ t.length = 0)) = decide (kd = 3 ∨ t.length = 0) from decide_eq_decide.2 (by simp [h0])]
        exact fin
      · refine ev_neg (fun h => h0 ((canon_zero b).1 h)) ?_
        rw [decide_eq_false (by simp [h0, h2])]
        exact Ev.now _
theorem spec_ItemOk_j0 (x : Bool) (kd n : Int) (b : Nat) (t : List Int) (hb : b < 2 ^ 64) : Ev (fun k => spec_ItemOk.j0 k x kd n b t) (decide (x = false ∧ (kd = 1 ∨ n = 0) ∧ (kd = 2 ∨ b = 0) ∧ (kd = 3 ∨ t.length = 0))) := by
  cases x with
  | true =>
    refine Ev.step (fun k => by rw [spec_ItemOk.j0, if_pos rfl]) ?_
    rw [decide_eq_false (by simp)]
    exact Ev.now _
  | false =>
    refine Ev.step (fun k => by rw [spec_ItemOk.j0, if_neg Bool.false_ne_true]) ?_
    by_cases h1 : kd = 1
    · refine ev_pos h1 ?_
      rw [show decide (false = false ∧ (kd = 1 ∨ n = 0) ∧ (kd = 2 ∨ b = 0) ∧ (kd = 3 ∨ t.length = 0)) = decide (false = false ∧ (kd = 2 ∨ b = 0) ∧ (kd = 3 ∨ t.length = 0)) from decide_eq_decide.2 (by simp [h1])]
      exact spec_ItemOk_j1 false kd n b t hb
    · refine ev_neg h1 ?_
      rw [show decide (false = false ∧ (kd = 1 ∨ n = 0) ∧ (kd = 2 ∨ b = 0) ∧ (kd = 3 ∨ t.length = 0)) = decide ((n != 0) = false ∧ (kd = 2 ∨ b = 0) ∧ (kd = 3 ∨ t.length = 0)) from decide_eq_decide.2 (by simp [h1])]
      exact spec_ItemOk_j1 _ kd n b t hb
theorem spec_ItemOk_f (kd n : Int) (b : Nat) (t : List Int) (hb : b < 2 ^ 64) : Ev (fun k => spec_ItemOk.f k kd n b t) (itemOkP kd n b t) := by
  unfold spec_ItemOk.f itemOkP
  by_cases h1 : kd < 0
  · refine ev_pos h1 ?_
    rw [decide_eq_false (by omega)]
    have := spec_ItemOk_j0 true kd n b t hb
    rwa [decide_eq_false (by simp)] at this
  · refine ev_neg h1 ?_
    by_cases h2 : kd > 3
    · refine ev_pos h2 ?_
      rw [decide_eq_false (by omega)]
      have := spec_ItemOk_j0 true kd n b t hb
      rwa [decide_eq_false (by simp)] at this
    · refine ev_neg h2 ?_
      have := spec_ItemOk_j0 (decide ((t.length : Int) > 40)) kd n b t hb
      rwa [show decide (decide ((t.length : Int) > 40) = false ∧ (kd = 1 ∨ n = 0) ∧ (kd = 2 ∨ b = 0) ∧ (kd = 3 ∨ t.length = 0)) = decide (0 ≤ kd ∧ kd ≤ 3 ∧ t.length ≤ 40 ∧ (kd = 1 ∨ n = 0) ∧ (kd = 2 ∨ b = 0) ∧ (kd = 3 ∨ t.length = 0)) from decide_eq_decide.2 (by rw [decide_eq_false_iff_not]; omega)] at this
theorem impl_ItemOk_f (kd n : Int) (b : Nat) (t : List Int) : impl_ItemOk.f kd n b t = some (itemOkP kd n b t) := by
  unfold impl_ItemOk.f itemOkP
  rw [impl_within_f]
  simp only [Option.bind_some]
  repeat' split
  all_goals refine congrArg some ?_
  all_goals simp only [decide_eq_true_eq] at *
  all_goals first
    | (symm; rw [decide_eq_true_eq]; omega)
    | (symm; rw [decide_eq_false_iff_not]; omega)
    | (rw [decide_eq_decide]; omega)
theorem feq_zero_any (b : Nat) (hb : b < 2 ^ 64) : feq b 0 = decide (b = 0 ∨ b = 9223372036854775808) := by
  cases hn : isn b with
  | true =>
    rw [(cmp_nan b 0 (Or.inl ⟨hb, hn⟩)).1]
    symm
    refine decide_eq_false ?_
    rintro (rfl | rfl)
    · exact absurd hn (by decide)
    · exact absurd hn (by decide)
  | false => exact feq_zero b hb hn
def keyOkP (kd n : Int) (b : Nat) (t : List Int) : Bool := itemOkP kd n b t && decide (kd ≠ 0 ∧ b ≠ 9223372036854775808)
theorem spec_KeyOk_f (kd n : Int) (b : Nat) (t : List Int) (hb : b < 2 ^ 64) : Ev (fun k => spec_KeyOk.f k kd n b t) (keyOkP kd n b t) := by
  unfold spec_KeyOk.f keyOkP
  refine Ev.bind (spec_ItemOk_f kd n b t hb) ?_
  cases itemOkP kd n b t with
  | false => exact ev_neg Bool.false_ne_true (Ev.now _)
  | true =>
    refine ev_pos rfl ?_
    by_cases h0 : kd = 0
    · refine ev_pos h0 ?_
      rw [decide_eq_false (by simp [h0])]
      exact Ev.now _
    · refine ev_neg h0 ?_
      rw [feq_zero_any b hb]
      by_cases hz : b = 0 ∨ b = 9223372036854775808
      · refine ev_pos (decide_eq_true hz) ?_
        refine Ev.bind (spec_FloatBits_f b hb) ?_
        have : (!((if isn b then 9221120237041090560 else (b : Int)) != 0)) = (true && decide (kd ≠ 0 ∧ b ≠ 9223372036854775808)) := by
          rcases hz with rfl | rfl
          · rw [(canon_zero 0).2 rfl, decide_eq_true ⟨h0, by omega⟩]
            rfl
          · rw [show isn 9223372036854775808 = false by decide, decide_eq_false (by simp)]
            rfl
        rw [this]
        exact Ev.now _
      · refine ev_neg (by rw [decide_eq_false hz]; exact Bool.false_ne_true) ?_
        rw [decide_eq_true ⟨h0, fun h => hz (Or.inr h)⟩]
        exact Ev.now _
theorem impl_KeyOk_f (kd n : Int) (b : Nat) (t : List Int) (hb : b < 2 ^ 64) : impl_KeyOk.f kd n b t = some (keyOkP kd n b t) := by
  unfold impl_KeyOk.f keyOkP
  rw [impl_ItemOk_f, feq_zero_any b hb]
  cases itemOkP kd n b t with
  | false => rfl
  | true =>
    simp only [Option.bind_some, if_true, Bool.true_and]
    repeat' split
    all_goals refine congrArg some ?_
    all_goals try simp only [decide_eq_true_eq] at *
    all_goals first
      | (symm; rw [decide_eq_true_eq]; omega)
      | (symm; rw [decide_eq_false_iff_not]; omega)
      | (rw [Bool.eq_iff_iff]; simp; omega)
def tupleOkP (x y ka kb : Int) (kf : Nat) (kt : List Int) (va vb : Int) (vf : Nat) (vt : List Int) : Bool := decide (1 ≤ x ∧ x ≤ 400) && decide (0 ≤ y ∧ y ≤ 400) && keyOkP ka kb kf kt && itemOkP va vb vf vt && (va != 0)
theorem spec_TupleOk_f (x y ka kb : Int) (kf : Nat) (kt : List Int) (va vb : Int) (vf : Nat) (vt : List Int) (h1 : kf < 2 ^ 64) (h2 : vf < 2 ^ 64) : Ev (fun k => spec_TupleOk.f k x y ka kb kf kt va vb vf vt) (tupleOkP x y ka kb kf kt va vb vf vt) := by
  unfold spec_TupleOk.f tupleOkP
  refine ev_bind0 (spec_l5in_f x 1 400) ?_
  cases decide (1 ≤ x ∧ x ≤ 400) with
  | false => exact ev_neg Bool.false_ne_true (Ev.now _)
  | true =>
    refine ev_pos rfl ?_
    refine ev_bind0 (spec_l5in_f y 0 400) ?_
    cases decide (0 ≤ y ∧ y ≤ 400) with
    | false => exact ev_neg Bool.false_ne_true (Ev.now _)
    | true =>
      refine ev_pos rfl ?_
      refine Ev.bind (spec_KeyOk_f ka kb kf kt h1) ?_
      cases keyOkP ka kb kf kt with
      | false => exact ev_neg Bool.false_ne_true (Ev.now _)
      | true =>
        refine ev_pos rfl ?_
        refine Ev.bind (spec_ItemOk_f va vb vf vt h2) ?_
        cases itemOkP va vb vf vt with
        | false => exact ev_neg Bool.false_ne_true (Ev.now _)
        | true => exact ev_pos rfl (Ev.now _)
theorem impl_TupleOk_f (x y ka kb : Int) (kf : Nat) (kt : List Int) (va vb : Int) (vf : Nat) (vt : List Int) (h1 : kf < 2 ^ 64) : impl_TupleOk.f x y ka kb kf kt va vb vf vt = some (tupleOkP x y ka kb kf kt va vb vf vt) := by
  unfold impl_TupleOk.f tupleOkP impl_isXid.f
  rw [impl_within_f, impl_within_f, impl_KeyOk_f ka kb kf kt h1, impl_ItemOk_f]
  simp only [Option.bind_some]
  cases decide (1 ≤ x ∧ x ≤ 400) with
  | false => rfl
  | true =>
    cases decide (0 ≤ y ∧ y ≤ 400) with
    | false => rfl
    | true =>
      cases keyOkP ka kb kf kt with
      | false => rfl
      | true => cases itemOkP va vb vf vt <;> rfl
def hi (x : Int) : Nat → List Int
  | 0 => []
  | n + 1 => (x / 256 ^ n % 256) :: hi x n
theorem hi_length (x : Int) (n : Nat) : (hi x n).length = n := by
  induction n with
  | zero => rfl
  | succ n ih => simp [hi, ih]
theorem hi_bytes (x : Int) (n : Nat) : IsBytes (hi x n) := by
  induction n with
  | zero => exact isBytes_nil
  | succ n ih =>
    intro y hy
    rcases List.mem_cons.1 hy with rfl | h
    · omega
    · exact ih y h
theorem shr_u64 (x : Int) (n : Nat) (h : n < 8) : shr .u64 x (8 * (n : Int)) = x / 256 ^ n := by
  unfold shr
  rw [show ((8 * (n : Int)).toNat) = 8 * n by omega, Nat.min_eq_left (by simp [IntKind.bits]; omega), Int.pow_mul]
  rfl
theorem highFirst_l (x : Int) (h0 : 0 ≤ x) (h1 : x < 18446744073709551616) : ∀ (n : Nat) (acc : List Int), n ≤ 8 → acc.length ≤ 8 - n → Ev (fun k => impl_highFirst.l0 k x acc (8 * (n : Int) - 8)) (acc ++ hi x n)
  | 0, acc, _, _ => by
    refine Ev.step (fun k => by rw [impl_highFirst.l0, if_neg (by omega)]) ?_
    rw [show acc ++ hi x 0 = acc by simp [hi]]
    exact Ev.now _
  | n + 1, acc, hn, ha => by
    refine Ev.step (fun k => by rw [impl_highFirst.l0, if_pos (by omega)]) ?_
    refine ev_pos (by omega) (ev_pos (by omega) ?_)
    rw [show 8 * (((n + 1 : Nat) : Int)) - 8 = 8 * (n : Int) by omega, shr_u64 x n (by omega), w64 (by omega) (by omega)]
    have := highFirst_l x h0 h1 n (acc ++ [x / 256 ^ n % 256]) (by omega) (by simp; omega)
    rw [List.append_assoc] at this
    exact this
theorem impl_highFirst_f (x : Int) (h0 : 0 ≤ x) (h1 : x < 18446744073709551616) : Ev (fun k => impl_highFirst.f k x) (hi x 8) := by
  unfold impl_highFirst.f
  exact highFirst_l x h0 h1 8 [] (by omega) (by simp)
def turned (n : Int) : Int := (n + 9223372036854775808) % 18446744073709551616
theorem turned_bound (n : Int) : 0 ≤ turned n ∧ turned n < 18446744073709551616 := by unfold turned; omega
theorem wrap_mod (n : Int) : IntKind.u64.wrap n = n % 18446744073709551616 := by simp [IntKind.wrap, IntKind.bits, IntKind.signed]
theorem turn_impl (n : Int) : IntKind.u64.wrap (IntKind.u64.wrap n + 9223372036854775808) = turned n := by
  rw [wrap_mod, wrap_mod]
  unfold turned
  omega
def itemBytesOf (kd n : Int) (t : List Int) (bits : Int) : List Int := (kd % 256) :: (if kd = 1 then hi (turned n) 8 else if kd = 2 then hi bits 8 else t)
theorem itemBytesOf_length (kd n : Int) (t : List Int) (bits : Int) : (itemBytesOf kd n t bits).length ≤ t.length + 9 := by
  unfold itemBytesOf
  rw [List.length_cons]
  split
  · rw [hi_length]; omega
  · split
    · rw [hi_length]; omega
    · omega
theorem itemBytesOf_bytes (kd n : Int) (t : List Int) (bits : Int) (ht : IsBytes t) : IsBytes (itemBytesOf kd n t bits) := by
  have h1 : IsBytes ([kd % 256] ++ (if kd = 1 then hi (turned n) 8 else if kd = 2 then hi bits 8 else t)) := by
    refine isBytes_append (isBytes_one (by omega)) ?_
    split
    · exact hi_bytes _ _
    · split
      · exact hi_bytes _ _
      · exact ht
  exact h1
theorem impl_itemBytes_f (kd n : Int) (b : Nat) (t : List Int) (ht : t.length ≤ 1048576) (bits : Int) (h0 : 0 ≤ bits) (h1 : bits < 18446744073709551616) : Ev (fun k => impl_itemBytes.f k kd n b t bits) (itemBytesOf kd n t bits) := by
  unfold impl_itemBytes.f itemBytesOf
  refine ev_bind0 rfl ?_
  by_cases hk : kd = 1
  · rw [if_pos hk]
    refine ev_pos hk ?_
    rw [turn_impl]
    refine Ev.bind (impl_highFirst_f _ (turned_bound n).1 (turned_bound n).2) ?_
    refine ev_pos (by rw [hi_length]; simp) ?_
    exact Ev.now _
  · rw [if_neg hk]
    refine ev_neg hk ?_
    by_cases hk2 : kd = 2
    · rw [if_pos hk2]
      refine ev_pos hk2 ?_
      refine Ev.bind (impl_highFirst_f _ h0 h1) ?_
      refine ev_pos (by rw [hi_length]; simp) ?_
      exact Ev.now _
    · rw [if_neg hk2]
      refine ev_neg hk2 ?_
      refine ev_pos (by simp; omega) ?_
      exact Ev.now _
theorem rankOf_bound (a : Nat) (ha : a < 2 ^ 64) : 0 ≤ rankOf a ∧ rankOf a < 18446744073709551616 := by
  unfold rankOf
  repeat' split
  all_goals omega
def kyO (kd n : Int) (b : Nat) (t : List Int) : List Int := if keyOkP kd n b t = true then itemBytesOf kd n t (rankOf b) else []
theorem kyO_length (kd n : Int) (b : Nat) (t : List Int) (ht : t.length ≤ 1048576) : (kyO kd n b t).length ≤ 49 := by
  unfold kyO
  split
  · rename_i h
    have h2 : t.length ≤ 40 := by
      simp only [keyOkP, itemOkP, Bool.and_eq_true, decide_eq_true_eq] at h
      exact h.1.2.2.1
    have := itemBytesOf_length kd n t (rankOf b)
    omega
  · simp
theorem impl_KeyBytes_f (kd n : Int) (b : Nat) (t : List Int) (hb : b < 2 ^ 64) (ht : t.length ≤ 1048576) : Ev (fun k => impl_KeyBytes.f k kd n b t) (kyO kd n b t) := by
  unfold impl_KeyBytes.f kyO
  refine ev_bind0 (impl_KeyOk_f kd n b t hb) ?_
  cases keyOkP kd n b t with
  | false => exact ev_neg Bool.false_ne_true (Ev.now _)
  | true =>
    refine ev_pos rfl ?_
    refine ev_bind0 (impl_FloatRank_f b hb) ?_
    refine Ev.bind (impl_itemBytes_f kd n b t ht _ (rankOf_bound b hb).1 (rankOf_bound b hb).2) ?_
    exact Ev.now _
theorem impl_FloatBits_f (a : Nat) (ha : a < 2 ^ 64) : impl_FloatBits.f a = some (if isn a then 9221120237041090560 else (a : Int)) := by
  unfold impl_FloatBits.f
  rw [feq_self a ha]
  cases isn a <;> simp
theorem canon_bound (b : Nat) (hb : b < 2 ^ 64) : 0 ≤ (if isn b then 9221120237041090560 else (b : Int)) ∧ (if isn b then 9221120237041090560 else (b : Int)) < 18446744073709551616 := by
  split <;> omega
def vlO (kd n : Int) (b : Nat) (t : List Int) : List Int := if itemOkP kd n b t = true ∧ kd ≠ 0 then itemBytesOf kd n t (if isn b then 9221120237041090560 else (b : Int)) else []
theorem vlO_length (kd n : Int) (b : Nat) (t : List Int) (ht : t.length ≤ 1048576) : (vlO kd n b t).length ≤ 49 := by
  unfold vlO
  split
  · rename_i h
    have h2 : t.length ≤ 40 := by
      have h1 := h.1
      simp only [itemOkP, decide_eq_true_eq] at h1
      exact h1.2.2.1
    have := itemBytesOf_length kd n t (if isn b then 9221120237041090560 else (b : Int))
    omega
  · simp
theorem impl_ValueBytes_f (kd n : Int) (b : Nat) (t : List Int) (hb : b < 2 ^ 64) (ht : t.length ≤ 1048576) : Ev (fun k => impl_ValueBytes.f k kd n b t) (vlO kd n b t) := by
  unfold impl_ValueBytes.f vlO
  refine ev_bind0 (impl_ItemOk_f kd n b t) ?_
  cases itemOkP kd n b t with
  | false =>
    rw [if_neg (by simp)]
    refine ev_neg Bool.false_ne_true ?_
    refine Ev.step (fun k => by rw [impl_ValueBytes.j0, if_pos rfl]) ?_
    exact Ev.now _
  | true =>
    refine ev_pos rfl ?_
    by_cases h0 : kd = 0
    · rw [if_neg (by simp [h0])]
      refine Ev.step (fun k => by rw [impl_ValueBytes.j0, if_pos (by simp [h0])]) ?_
      exact Ev.now _
    · rw [if_pos ⟨rfl, h0⟩]
      refine Ev.step (fun k => by rw [impl_ValueBytes.j0, if_neg (by simp [h0])]) ?_
      refine ev_bind0 (impl_FloatBits_f b hb) ?_
      refine Ev.bind (impl_itemBytes_f kd n b t ht _ (canon_bound b hb).1 (canon_bound b hb).2) ?_
      exact Ev.now _
theorem rdl_nat (l : List (List Int)) (i : Nat) (h : i < l.length) : rd_L1 l (i : Int) = l[i] := by
  simp [rd_L1, List.getD_eq_getElem?_getD, List.getElem?_eq_getElem h]
theorem take_flat (l : List (List Int)) (i : Nat) (h : i < l.length) : (l.take (i + 1)).flatten = (l.take i).flatten ++ l[i] := by
  rw [List.take_succ_eq_append_getElem h, List.flatten_append]
  simp
theorem flat_le (l : List (List Int)) (i : Nat) : (l.take i).flatten.length ≤ l.flatten.length := by
  have : l.flatten = (l.take i).flatten ++ (l.drop i).flatten := by rw [← List.flatten_append, List.take_append_drop]
  rw [this, List.length_append]
  omega
theorem concat_l1 (l : List (List Int)) (hl : l.length ≤ 1048576) (ht : l.flatten.length ≤ 35184372088832) (d : Nat) : ∀ (i : Nat), i + d = l.length → Ev (fun k => slices_Concat_byte_byte.l1 k (l.take i).flatten l (l.length : Int) (i : Int)) l.flatten := by
  induction d with
  | zero =>
    intro i hi
    refine Ev.step (f := fun _ => some l.flatten) (fun k => ?_) (Ev.now _)
    rw [slices_Concat_byte_byte.l1, if_neg (by omega), List.take_of_length_le (by omega)]
  | succ d ih =>
    intro i hi
    have hx : rd_L1 l (i : Int) = l[i] := rdl_nat l i (by omega)
    have h1 := take_flat l i (by omega)
    have h2 := flat_le l (i + 1)
    rw [h1, List.length_append] at h2
    refine Ev.step (f := fun k => slices_Concat_byte_byte.l1 k (l.take (i + 1)).flatten l (l.length : Int) ((i + 1 : Nat) : Int)) (fun k => ?_) (ih (i + 1) (by omega))
    rw [slices_Concat_byte_byte.l1, if_pos (by omega), if_pos (by omega), if_pos (by omega), hx, if_pos (by omega), w64 (by omega) (by omega), h1]
    simp
theorem concat_l0 (l : List (List Int)) (hl : l.length ≤ 1048576) (ht : l.flatten.length ≤ 35184372088832) (d : Nat) : ∀ (i : Nat), i + d = l.length → Ev (fun k => slices_Concat_byte_byte.l0 k l ((l.take i).flatten.length : Int) l (l.length : Int) (i : Int)) l.flatten := by
  induction d with
  | zero =>
    intro i hi
    refine Ev.step (f := fun k => (slices_Grow_byte_byte.f ((l.take i).flatten.length : Int)).bind fun t => slices_Concat_byte_byte.l1 k t l (l.length : Int) 0) (fun k => ?_) ?_
    · rw [slices_Concat_byte_byte.l0, if_neg (by omega)]
    · have h2 := flat_le l i
      refine ev_bind0 (a := ([] : List Int)) (by unfold slices_Grow_byte_byte.f; rw [if_pos (by omega)]) ?_
      exact concat_l1 l hl ht l.length 0 (by omega)
  | succ d ih =>
    intro i hi
    have hx : rd_L1 l (i : Int) = l[i] := rdl_nat l i (by omega)
    have h1 := take_flat l i (by omega)
    have h2 := flat_le l (i + 1)
    have h3 : (l.take (i + 1)).flatten.length = (l.take i).flatten.length + l[i].length := by rw [h1, List.length_append]
    refine Ev.step (f := fun k => slices_Concat_byte_byte.l0 k l ((l.take (i + 1)).flatten.length : Int) l (l.length : Int) ((i + 1 : Nat) : Int)) (fun k => ?_) (ih (i + 1) (by omega))
    rw [slices_Concat_byte_byte.l0, if_pos (by omega), if_pos (by omega), if_pos (by omega), hx, w64 (by omega) (by omega), if_neg (by omega), w64 (by omega) (by omega), h3]
    simp
theorem concat_f (l : List (List Int)) (hl : l.length ≤ 1048576) (ht : l.flatten.length ≤ 35184372088832) : Ev (fun k => slices_Concat_byte_byte.f k l) l.flatten := concat_l0 l hl ht l.length 0 (by omega)
def tuB (x y ka kb : Int) (kf : Nat) (kt : List Int) (va vb : Int) (vf : Nat) (vt : List Int) : List Int := if tupleOkP x y ka kb kf kt va vb vf vt then ((((pn x 4 ++ pn y 4) ++ [((kyO ka kb kf kt).length : Int) % 256]) ++ kyO ka kb kf kt) ++ [((vlO va vb vf vt).length : Int) % 256]) ++ vlO va vb vf vt else []
theorem impl_TupleBytes_f (x y ka kb : Int) (kf : Nat) (kt : List Int) (va vb : Int) (vf : Nat) (vt : List Int) (b1 : kf < 2 ^ 64) (b2 : vf < 2 ^ 64) (h1 : kt.length ≤ 1048576) (h2 : vt.length ≤ 1048576) (m1 : x ≤ 9223372036854775807) (m2 : y ≤ 9223372036854775807) : Ev (fun k => impl_TupleBytes.f k x y ka kb kf kt va vb vf vt) (tuB x y ka kb kf kt va vb vf vt) := by
  have l1 := pn_length x 4
  have l2 := pn_length y 4
  have l3 := kyO_length ka kb kf kt h1
  have l4 := vlO_length va vb vf vt h2
  unfold impl_TupleBytes.f tuB
  refine ev_bind0 (impl_TupleOk_f x y ka kb kf kt va vb vf vt b1) ?_
  cases hr : tupleOkP x y ka kb kf kt va vb vf vt with
  | false => exact ev_neg (by simp) (Ev.now _)
  | true =>
    refine ev_pos rfl ?_
    refine Ev.bind (impl_KeyBytes_f ka kb kf kt b1 h1) ?_
    refine Ev.bind (impl_ValueBytes_f va vb vf vt b2 h2) ?_
    refine Ev.bind (impl_PutNum_f x 4 m1) ?_
    refine Ev.bind (impl_PutNum_f y 4 m2) ?_
    have e : ([pn x 4, pn y 4, [((kyO ka kb kf kt).length : Int) % 256], kyO ka kb kf kt, [((vlO va vb vf vt).length : Int) % 256], vlO va vb vf vt] : List (List Int)).flatten = ((((pn x 4 ++ pn y 4) ++ [((kyO ka kb kf kt).length : Int) % 256]) ++ kyO ka kb kf kt) ++ [((vlO va vb vf vt).length : Int) % 256]) ++ vlO va vb vf vt := by simp
    refine Ev.bind (concat_f [pn x 4, pn y 4, [((kyO ka kb kf kt).length : Int) % 256], kyO ka kb kf kt, [((vlO va vb vf vt).length : Int) % 256], vlO va vb vf vt] (by simp) (by rw [e]; simp only [List.length_append, List.length_cons, List.length_nil]; omega)) ?_
    rw [e]
    exact Ev.now _
def lex : List Int → List Int → Int
  | [], [] => 0
  | [], _ :: _ => -1
  | _ :: _, [] => 1
  | a :: xs, b :: ys => if a < b then -1 else if a > b then 1 else lex xs ys
open Ieee
theorem maskU (y : Int) (n : Nat) (hn : n ≤ 64) (h0 : 0 ≤ y) (h1 : y < 18446744073709551616) : Go.bits .and .u64 y (2 ^ n - 1) = y % 2 ^ n :=
  bits_mask .u64 64 (by decide) (fun n a b => by simp [IntKind.wrap, IntKind.bits, IntKind.signed]; omega) n (by omega) y h0 h1
theorem fofi_fl (n : Nat) : fofi (n : Int) = fl n 0 := by
  unfold fofi fl floatOfInt FloatKind.nearest
  show double.write (.number (decide ((n : Int) < 0)) (n : Int).natAbs 0) = _
  rw [decide_eq_false (by omega), Int.natAbs_natCast]
  rfl
theorem fl_zero (q : Int) : fl 0 q = 0 := by
  unfold fl Format.nearest
  rw [if_pos rfl, word_false]
theorem quo_zero (d : Nat) (r : Int) (hd : double.read d = .number false 4503599627370496 r) : double.div 0 d = some 0 := by
  unfold Format.div
  rw [read_zero, hd]
  unfold Datum.quotient
  dsimp only
  rw [if_neg (by omega), Nat.zero_shiftLeft, Nat.zero_div, Nat.zero_mod]
  show some (double.write (.number false (2 * 0 + 0) _)) = some 0
  rw [write_zero, word_false]
theorem add_one (N : Nat) (h0 : 0 < N) (h : N < 4503599627370496) : double.add (fl N (-52)) 4607182418800017408 = some (fl (4503599627370496 + N) (-52)) := by
  have hlog : N.log2 < 52 := (Nat.log2_lt (by omega)).2 h
  obtain ⟨s, e, hs, _⟩ := fl_reads N (-52) h0 (by omega) (by omega) (by omega)
  unfold Format.add
  rw [e, read_one]
  unfold Datum.sum
  dsimp only
  rw [show min ((-52 : Int) - s) (-52) = -52 - s by omega, signed_false, signed_false, show ((-52 : Int) - s - (-52 - s)).toNat = 0 by omega, show ((-52 : Int) - (-52 - s)).toNat = s by omega, Nat.pow_zero, Nat.mul_one]
  have ht : ((N * 2 ^ s : Nat) : Int) + ((4503599627370496 * 2 ^ s : Nat) : Int) = (((4503599627370496 + N) * 2 ^ s : Nat) : Int) := by
    rw [← Int.natCast_add, ← Nat.add_mul, Nat.add_comm N]
  rw [ht]
  have hpos : 0 < (4503599627370496 + N) * 2 ^ s := Nat.mul_pos (by omega) (Nat.two_pow_pos s)
  rw [if_neg (by omega), decide_eq_false (by omega), Int.natAbs_natCast]
  refine congrArg some ?_
  exact nearest_fl (4503599627370496 + N) (-52) s _ _ (by omega) (by omega) (by omega) rfl rfl
theorem fl_one : fl 4503599627370496 (-52) = 4607182418800017408 := by
  have := fl_eta 4607182418800017408 (by omega) (by omega)
  exact this
theorem one_of_zero : double.add 0 4607182418800017408 = some 4607182418800017408 := by
  unfold Format.add
  rw [read_one, read_zero]
  unfold Datum.sum
  dsimp only
  rw [show min (-1074 : Int) (-52) = -1074 by omega, signed_false, signed_false, Nat.zero_mul]
  obtain ⟨n, hn⟩ : ∃ n : Nat, n = 1022 := ⟨_, rfl⟩
  rw [show ((-52 : Int) - -1074).toNat = n by omega]
  have hpos : 0 < 4503599627370496 * 2 ^ n := Nat.mul_pos (by omega) (Nat.two_pow_pos _)
  generalize hq : 4503599627370496 * 2 ^ n = Q at hpos
  rw [show (((0 : Nat) : Int) + ((Q : Nat) : Int)) = (Q : Int) by omega, if_neg (by omega), decide_eq_false (by omega), Int.natAbs_natCast]
  refine congrArg some ?_
  rw [← fl_one]
  exact nearest_fl 4503599627370496 (-52) n _ _ (by omega) (by omega) (by omega) hq.symm (by omega)
def nanB (a : Int) : Bool := decide (a % 9223372036854775808 > 9218868437227405312)
theorem sign_f (a : Nat) (ha : a < 2 ^ 64) (b : Nat) (hb : b = a % 9223372036854775808) (k : Nat) (hx : b ≤ 9218868437227405312) : (if ((a : Int) / 9223372036854775808) = 1 then some (fneg b) else some b) = some a := by
  by_cases h : (a : Int) / 9223372036854775808 = 1
  · rw [if_pos h, fneg_pos b (by omega)]
    congr 1
    omega
  · rw [if_neg h]
    congr 1
    omega
theorem down_l (a : Nat) (ha : a < 2 ^ 64) (N : Nat) (h2 : N < 2 ^ 53) (b : Nat) (hb : b = a % 9223372036854775808) (hx : b < 9218868437227405312) (z : Int) (hz : fl N z = b) (hzl : -1074 ≤ z) (d : Nat) : ∀ (q : Int), d ≤ 2000 → q - d = z → (0 < N → q + N.log2 ≤ 1023) →
    Ev (fun k => spec_FloatOf.l1 k (a : Int) (fl N q) (-(d : Int))) a := by
  induction d with
  | zero =>
    intro q _ hq _
    have e : q = z := by omega
    rw [e, hz]
    refine Ev.step (fun k => by rw [spec_FloatOf.l1, if_neg (by omega)]) ?_
    rw [sign_f a ha b hb 0 (by omega)]
    exact Ev.now _
  | succ d ih =>
    intro q hd hq hv
    have e : fok .quo (fl N q) 4611686018427387904 = true ∧ fval .quo (fl N q) 4611686018427387904 = fl N (q - 1) := by
      by_cases h0 : N = 0
      · rw [h0, fl_zero, fl_zero]
        exact fl_ok (quo_zero _ _ read_two)
      · have := quo_pow N q 4611686018427387904 (-51) (by omega) h2 (by omega) (hv (by omega)) read_two (by omega)
        rw [show q - -51 - 52 = q - 1 by omega] at this
        exact fl_ok this
    refine Ev.step (fun k => by rw [spec_FloatOf.l1, if_pos (by omega), if_pos e.1, e.2, show wrap64 (-((d + 1 : Nat) : Int) + 1) = -(d : Int) by unfold wrap64; omega]) ?_
    exact ih (q - 1) (by omega) (by omega) (fun h => by have := hv h; omega)
theorem up_l (a : Nat) (ha : a < 2 ^ 64) (N : Nat) (h1 : 0 < N) (h2 : N < 2 ^ 53) (b : Nat) (hb : b = a % 9223372036854775808) (hx : b < 9218868437227405312) (z : Int) (hz : fl N z = b) (hzl : -1074 ≤ z) (hv : z + N.log2 ≤ 1023) (d : Nat) : ∀ (q : Int), d ≤ 2000 → -1074 ≤ q → q + d = z →
    Ev (fun k => spec_FloatOf.l0 k (a : Int) (fl N q) (d : Int)) a := by
  induction d with
  | zero =>
    intro q _ _ hq
    refine Ev.step (fun k => by rw [spec_FloatOf.l0, if_neg (by omega)]) ?_
    exact down_l a ha N h2 b hb hx z hz hzl 0 q (by omega) (by omega) (fun _ => by omega)
  | succ d ih =>
    intro q hd hl hq
    have e : fok .mul (fl N q) 4611686018427387904 = true ∧ fval .mul (fl N q) 4611686018427387904 = fl N (q + 1) := by
      have := mul_pow N q 4611686018427387904 (-51) h1 h2 hl (by omega) read_two (by omega)
      rw [show q + -51 + 52 = q + 1 by omega] at this
      exact fl_ok this
    refine Ev.step (fun k => by rw [spec_FloatOf.l0, if_pos (by omega), if_pos e.1, e.2, show wrap64 (((d + 1 : Nat) : Int) - 1) = (d : Int) by unfold wrap64; omega]) ?_
    exact ih (q + 1) (by omega) (by omega) (by omega)
theorem loop_f (a : Nat) (ha : a < 2 ^ 64) (N : Nat) (h1 : 0 < N) (h2 : N < 2 ^ 53) (b : Nat) (hb : b = a % 9223372036854775808) (hx : b < 9218868437227405312) (z : Int) (hz : fl N z = b) (hzl : -1074 ≤ z) (hv : z + N.log2 ≤ 1023) (m q : Int) (hm : -2000 ≤ m ∧ m ≤ 2000) (hq : q + m = z) (hql : -1074 ≤ q) (hqv : q + N.log2 ≤ 1023) :
    Ev (fun k => spec_FloatOf.j0 k (a : Int) (fl N q) m) a := by
  refine Ev.step (fun k => by rw [spec_FloatOf.j0]) ?_
  by_cases h : 0 ≤ m
  · obtain ⟨d, rfl⟩ : ∃ d : Nat, m = d := ⟨m.toNat, by omega⟩
    exact up_l a ha N h1 h2 b hb hx z hz hzl hv d q (by omega) hql hq
  · obtain ⟨d, rfl⟩ : ∃ d : Nat, m = -(d : Int) := ⟨(-m).toNat, by omega⟩
    refine Ev.step (fun k => by rw [spec_FloatOf.l0, if_neg (by omega)]) ?_
    exact down_l a ha N h2 b hb hx z hz hzl d q (by omega) (by omega) (fun _ => hqv)
theorem spec_FloatOf_f (a : Nat) (ha : a < 2 ^ 64) (hn : nanB a = false) : Ev (fun k => spec_FloatOf.f k (a : Int)) a := by
  have hn2 : ((a : Int) % 9223372036854775808) ≤ 9218868437227405312 := by
    unfold nanB at hn
    have := of_decide_eq_false hn
    omega
  unfold spec_FloatOf.f
  have m1 : Go.bits .and .u64 (a : Int) 4503599627370495 = ((a % 4503599627370496 : Nat) : Int) := by
    have := maskU (a : Int) 52 (by omega) (by omega) (by omega)
    rw [show ((2 : Int) ^ 52 - 1) = 4503599627370495 by decide] at this
    rw [this]
    omega
  have m2 : Go.bits .and .u64 ((a : Int) / 4503599627370496) 2047 = ((a / 4503599627370496 % 2048 : Nat) : Int) := by
    have := maskU ((a : Int) / 4503599627370496) 11 (by omega) (by omega) (by omega)
    rw [show ((2 : Int) ^ 11 - 1) = 2047 by decide] at this
    rw [this]
    omega
  rw [m1, m2]
  obtain ⟨F, hF⟩ : ∃ F, F = a % 4503599627370496 := ⟨_, rfl⟩
  obtain ⟨E, hE⟩ : ∃ E, E = a / 4503599627370496 % 2048 := ⟨_, rfl⟩
  rw [← hF, ← hE]
  have hb : E * 4503599627370496 + F = a % 9223372036854775808 := by omega
  have hFl : F < 4503599627370496 := by omega
  have w1 : wrap64 ((E : Nat) : Int) = (E : Int) := by unfold wrap64; omega
  have q1 : fok .quo (fofi ((F : Nat) : Int)) 4841369599423283200 = true ∧ fval .quo (fofi ((F : Nat) : Int)) 4841369599423283200 = fl F (-52) := by
    rw [fofi_fl]
    by_cases h0 : F = 0
    · rw [h0, fl_zero, fl_zero]
      exact fl_ok (quo_zero _ _ read_wide)
    · have hlog : F.log2 < 52 := (Nat.log2_lt (by omega)).2 hFl
      have := quo_pow F 0 4841369599423283200 0 (by omega) (by omega) (by omega) (by omega) read_wide (by omega)
      exact fl_ok this
  refine ev_pos q1.1 ?_
  rw [w1, q1.2]
  by_cases hinf : (E : Int) = 2047
  · refine ev_pos hinf ?_
    refine ev_pos (by omega) ?_
    have hd : fok .quo 4607182418800017408 0 = true ∧ fval .quo 4607182418800017408 0 = 9218868437227405312 := fl_ok (show floatBits .quo .f64 4607182418800017408 0 = some 9218868437227405312 from by
      show double.div 4607182418800017408 0 = some 9218868437227405312
      unfold Format.div
      rw [read_zero, read_one]
      rfl)
    refine ev_pos hd.1 ?_
    rw [hd.2, sign_f a ha 9218868437227405312 (by omega) 0 (by omega)]
    exact Ev.now _
  · refine ev_neg hinf ?_
    by_cases h0 : (E : Int) = 0
    · refine ev_pos h0 ?_
      by_cases hz : F = 0
      · refine Ev.step (fun k => by rw [spec_FloatOf.j0]) ?_
        refine Ev.step (fun k => by rw [spec_FloatOf.l0, if_neg (by omega)]) ?_
        exact down_l a ha F (by omega) (a % 9223372036854775808) rfl (by omega) (-1074) (by rw [hz, fl_zero]; omega) (by omega) 1022 (-52) (by omega) (by omega) (fun h => by omega)
      · have hlog : F.log2 < 52 := (Nat.log2_lt (by omega)).2 hFl
        have eta := fl_eta F (by omega) (by omega)
        rw [show mg F = F from if_pos hFl, show pl F = -1074 from if_pos hFl] at eta
        exact loop_f a ha F (by omega) (by omega) (a % 9223372036854775808) rfl (by omega) (-1074) (by rw [eta]; omega) (by omega) (by omega) (-1022) (-52) (by omega) (by omega) (by omega) (by omega)
    · refine ev_neg h0 ?_
      have add : fok .add (fl F (-52)) 4607182418800017408 = true ∧ fval .add (fl F (-52)) 4607182418800017408 = fl (4503599627370496 + F) (-52) := by
        by_cases hz : F = 0
        · rw [hz, fl_zero, Nat.add_zero, fl_one]
          exact fl_ok one_of_zero
        · exact fl_ok (add_one F (by omega) hFl)
      refine ev_pos add.1 ?_
      rw [add.2, show wrap64 ((E : Int) - 1023) = (E : Int) - 1023 by unfold wrap64; omega]
      have hlog : (4503599627370496 + F).log2 = 52 := (Nat.log2_eq_iff (by omega)).2 (by constructor <;> omega)
      have eta := fl_eta (E * 4503599627370496 + F) (by omega) (by omega)
      rw [show mg (E * 4503599627370496 + F) = 4503599627370496 + F from by unfold mg; rw [if_neg (by omega)]; omega, show pl (E * 4503599627370496 + F) = (E : Int) - 1075 from by unfold pl; rw [if_neg (by omega)]; omega] at eta
      exact loop_f a ha (4503599627370496 + F) (by omega) (by omega) (a % 9223372036854775808) rfl (by omega) ((E : Int) - 1075) (by rw [eta, hb]) (by omega) (by rw [hlog]; omega) ((E : Int) - 1023) (-52) (by omega) (by omega) (by omega) (by rw [hlog]; omega)
theorem nanC_of (a : Nat) (ha : a < 2 ^ 64) (hn : isn a = true) : spec_FloatOf.nanC (a : Int) := by
  have hn2 : 9218868437227405312 < a % 9223372036854775808 := of_decide_eq_true hn
  have m1 : Go.bits .and .u64 (a : Int) 4503599627370495 = ((a % 4503599627370496 : Nat) : Int) := by
    have := maskU (a : Int) 52 (by omega) (by omega) (by omega)
    rw [show ((2 : Int) ^ 52 - 1) = 4503599627370495 by decide] at this
    rw [this]
    omega
  have m2 : Go.bits .and .u64 ((a : Int) / 4503599627370496) 2047 = ((a / 4503599627370496 % 2048 : Nat) : Int) := by
    have := maskU ((a : Int) / 4503599627370496) 11 (by omega) (by omega) (by omega)
    rw [show ((2 : Int) ^ 11 - 1) = 2047 by decide] at this
    rw [this]
    omega
  unfold spec_FloatOf.nanC
  rw [m1, m2]
  have hF0 : 0 < a % 4503599627370496 := by omega
  have hE : a / 4503599627370496 % 2048 = 2047 := by omega
  have hFl : a % 4503599627370496 < 4503599627370496 := by omega
  generalize a % 4503599627370496 = F at *
  refine ⟨?_, ?_, ?_, ?_⟩
  · rw [fofi_fl]
    have hlog : F.log2 < 52 := (Nat.log2_lt (by omega)).2 hFl
    have t := quo_pow F 0 4841369599423283200 0 (by omega) (by omega) (by omega) (by omega) read_wide (by omega)
    exact (fl_ok (o := .quo) (a := fl F 0) (b := 4841369599423283200) t).1
  · rw [hE]
    unfold wrap64
    omega
  · omega
  · show (floatBits .quo .f64 0 0).isSome = false
    have : floatBits .quo .f64 0 0 = none := by
      show double.div 0 0 = none
      unfold Format.div
      rw [read_zero]
      rfl
    rw [this]
    rfl
theorem nanC_none (a : Int) (h : spec_FloatOf.nanC a) (k : Nat) : spec_FloatOf.f k a = none := by
  obtain ⟨h1, h2, h3, h4⟩ := h
  unfold spec_FloatOf.f
  rw [if_pos h1, if_pos h2, if_neg h3, if_neg (by rw [h4]; decide)]
theorem nanB_isn (a : Nat) : nanB (a : Int) = isn a := by
  unfold nanB isn
  exact decide_eq_decide.2 (by omega)
def bU (n : Nat) : Nat := if n = 18446744073709551615 then 9221120237041090560 else if n / 9223372036854775808 = 1 then n - 9223372036854775808 else 18446744073709551615 - n
theorem bU_lt (n : Nat) (h : n < 2 ^ 64) : bU n < 2 ^ 64 := by
  unfold bU
  split
  · omega
  · split <;> omega
def unrank (n : Nat) : Nat × Bool := if rankOf (bU n) = (n : Int) then (bU n, true) else (0, false)
theorem impl_bits (n : Nat) (h : n < 2 ^ 64) (h1 : n ≠ 18446744073709551615) (k : Nat) : impl_FloatUnrank.f k (n : Int) = impl_FloatUnrank.j0 k (n : Int) (bU n : Int) := by
  unfold impl_FloatUnrank.f bU
  rw [if_neg h1]
  by_cases h2 : n / 9223372036854775808 = 1
  · have e : Go.bits .andNot .u64 (n : Int) 9223372036854775808 = ((n - 9223372036854775808 : Nat) : Int) := by
      have := u64_andNot_nat n 9223372036854775808 (by omega) (by omega)
      rw [show 18446744073709551615 - 9223372036854775808 = 2 ^ 63 - 1 by omega, Nat.and_two_pow_sub_one_eq_mod] at this
      rw [show (9223372036854775808 : Int) = ((9223372036854775808 : Nat) : Int) by omega, this]
      omega
    rw [if_pos h2, if_neg (by omega), e]
  · have e : Go.bits .xor .u64 IntKind.u64.max (n : Int) = ((18446744073709551615 - n : Nat) : Int) := by
      rw [u64_not n h]
      omega
    rw [if_neg h2, if_pos (by omega), e]
theorem impl_FloatUnrank_f (n : Nat) (h : n < 2 ^ 64) (h1 : n ≠ 18446744073709551615) (k : Nat) : impl_FloatUnrank.f (k + 1) (n : Int) = some (if isn (bU n) then (0, false) else unrank n) := by
  rw [impl_bits n h h1, impl_FloatUnrank.j0, if_neg (by omega), Int.toNat_natCast, feq_self _ (bU_lt n h)]
  cases hn : isn (bU n) with
  | true => rfl
  | false =>
    rw [if_pos (show (!false) = true from rfl), impl_FloatRank_f _ (bU_lt n h)]
    unfold unrank
    show (if rankOf (bU n) = (n : Int) then some (bU n, true) else some (0, false)) = _
    rw [if_neg Bool.false_ne_true]
    split <;> rfl
theorem impl_FloatUnrank_max (k : Nat) : impl_FloatUnrank.f (k + 1) ((18446744073709551615 : Nat) : Int) = some (9221120237041090561, true) := by
  unfold impl_FloatUnrank.f
  rw [if_neg (by omega), impl_FloatUnrank.j0, if_pos (by omega)]
  rfl
def lowN : List Int → Int → Int
  | [], x => x
  | c :: l, x => lowN l (Go.bits .or .u64 (IntKind.u64.wrap (x * 256)) (IntKind.u64.wrap c))
theorem u64_in (n : Int) : 0 ≤ IntKind.u64.wrap n ∧ IntKind.u64.wrap n < 18446744073709551616 := by
  have h : IntKind.u64.wrap n = n % 18446744073709551616 := by simp [IntKind.wrap, IntKind.bits, IntKind.signed]
  rw [h]
  omega
theorem lowN_in (l : List Int) : ∀ x, 0 ≤ x ∧ x < 18446744073709551616 → 0 ≤ lowN l x ∧ lowN l x < 18446744073709551616 := by
  induction l with
  | nil => intro x h; exact h
  | cons c l ih => intro x _; exact ih _ (u64_in _)
theorem drop_cons_rd (l : List Int) (i : Nat) (h : i < l.length) : l.drop i = rd l (i : Int) :: l.drop (i + 1) := by
  rw [rd_nat l i h]
  exact List.drop_eq_getElem_cons h
theorem fromHigh_l (l : List Int) (hl : l.length ≤ 1048576) (d : Nat) : ∀ (i : Nat) (x : Int), i + d = l.length → Ev (fun k => impl_fromHigh.l0 k x l (l.length : Int) (i : Int)) (lowN (l.drop i) x) := by
  induction d with
  | zero =>
    intro i x hi
    rw [List.drop_of_length_le (by omega)]
    exact Ev.step (fun k => by rw [impl_fromHigh.l0, if_neg (by omega)]; rfl) (Ev.now _)
  | succ d ih =>
    intro i x hi
    rw [drop_cons_rd l i (by omega)]
    refine Ev.step (fun k => by rw [impl_fromHigh.l0, if_pos (by omega), if_pos (by omega), if_pos (by omega), w64 (by omega) (by omega)]) ?_
    exact ih (i + 1) _ (by omega)
theorem fromHigh_f (l : List Int) (hl : l.length ≤ 1048576) : Ev (fun k => impl_fromHigh.f k l) (lowN l 0) := fromHigh_l l hl l.length 0 0 (by omega)
theorem str_length (l : List Int) : (strOfNums l).toList.length = l.length := by
  rw [Lib.strOfNums_toList]
  simp [Lib.bytesOf]
theorem str_ne {a b : List Int} (h : a.length ≠ b.length) : ¬ (strOfNums a).toList = (strOfNums b).toList := fun e => h (by rw [← str_length a, ← str_length b, e])
def unr (n : Nat) : Nat × Bool := if n = 18446744073709551615 then (9221120237041090561, true) else if isn (bU n) then (0, false) else unrank n
theorem unr_lt (n : Nat) (h : n < 2 ^ 64) : (unr n).1 < 2 ^ 64 := by
  have := bU_lt n h
  unfold unr unrank
  repeat' split
  all_goals first | exact this | decide
theorem KeyRead_1_f (n : Nat) (h : n < 2 ^ 64) : Ev (fun k => impl_KeyRead_1.f k (n : Int)) (unr n).1 := by
  unfold impl_KeyRead_1.f
  refine Ev.bind (a := unr n) ?_ (Ev.now _)
  unfold unr
  by_cases h1 : n = 18446744073709551615
  · subst h1
    rw [if_pos rfl]
    exact Ev.step (fun k => impl_FloatUnrank_max k) (Ev.now _)
  · rw [if_neg h1]
    exact Ev.step (fun k => impl_FloatUnrank_f n h h1 k) (Ev.now _)
def numOf (l : List Int) : Int := wrap64 (subSign (lowN (l.drop 1) 0))
def fltOf (l : List Int) : Nat := (unr (lowN (l.drop 1) 0).toNat).1
def zItem : Int × Int × Nat × List Int × Bool := (0, 0, 0, [], false)
def readOf (l : List Int) (kd n : Int) (b : Nat) (t : List Int) : Int × Int × Nat × List Int × Bool := if (strOfNums (kyO kd n b t)).toList = (strOfNums l).toList then (kd, n, b, t, true) else zItem
def vrOf (l : List Int) : Int × Int × Nat × List Int × Bool :=
  if l.length = 0 ∨ 41 < l.length then zItem
  else if rd l 0 = 3 then readOf l 3 0 0 (l.drop 1)
  else if l.length ≠ 9 then zItem
  else if rd l 0 = 1 then readOf l 1 (numOf l) 0 []
  else if rd l 0 = 2 then readOf l 2 0 (fltOf l) []
  else zItem
theorem fltOf_lt (l : List Int) : fltOf l < 2 ^ 64 := by
  have := lowN_in (l.drop 1) 0 (by omega)
  exact unr_lt _ (by omega)
theorem impl_KeyRead_f (l : List Int) (hb : IsBytes l) (hl : l.length ≤ 1048576) : Ev (fun k => impl_KeyRead.f k l) (vrOf l) := by
  unfold impl_KeyRead.f
  have hk := rd_byte hb 0
  have hw : wrap64 (rd l 0) = rd l 0 := w64 (by omega) (by omega)
  have hd : (l.drop 1).length = l.length - 1 := List.length_drop
  have hx := lowN_in (l.drop 1) 0 (by omega)
  have none_ : Ev (fun k => (impl_KeyOk.f 0 0 0 []).bind fun t223 => (if t223 = true then ((impl_KeyBytes.f k 0 0 0 []).bind fun t224 => ((bytes_Equal.f t224 l).bind fun t227 => (if t227 = true then (some ((0 : Int), (0 : Int), (0 : Nat), ([] : List Int), true)) else (some zItem)))) else (some zItem))) zItem := by
    refine ev_bind0 (impl_KeyOk_f 0 0 0 [] (by decide)) (ev_neg (by decide) (Ev.now _))
  have some_ : ∀ (kd n : Int) (b : Nat) (t : List Int), b < 2 ^ 64 → t.length ≤ 1048576 → (keyOkP kd n b t = false → readOf l kd n b t = zItem) → Ev (fun k => (impl_KeyOk.f kd n b t).bind fun t223 => (if t223 = true then ((impl_KeyBytes.f k kd n b t).bind fun t224 => ((bytes_Equal.f t224 l).bind fun t227 => (if t227 = true then (some (kd, n, b, t, true)) else (some (0, 0, 0, ([] : List Int), false))))) else (some (0, 0, 0, ([] : List Int), false)))) (readOf l kd n b t) := by
    intro kd n b t hb2 ht hbad
    refine ev_bind0 (impl_KeyOk_f kd n b t hb2) ?_
    cases hq : keyOkP kd n b t with
    | false => rw [hbad hq]; exact ev_neg Bool.false_ne_true (Ev.now _)
    | true =>
      refine ev_pos rfl (Ev.bind (impl_KeyBytes_f kd n b t hb2 ht) (ev_bind0 rfl ?_))
      unfold readOf
      by_cases he : (strOfNums (kyO kd n b t)).toList = (strOfNums l).toList
      · rw [if_pos he]
        exact ev_pos (beq_iff_eq.mpr he) (Ev.now _)
      · rw [if_neg he]
        exact ev_neg (fun h => he (beq_iff_eq.mp h)) (Ev.now _)
  have empty : ∀ (kd n : Int) (b : Nat) (t : List Int), l.length ≠ 0 → keyOkP kd n b t = false → readOf l kd n b t = zItem := by
    intro kd n b t h0 hq
    unfold readOf
    rw [if_neg (str_ne ?_)]
    unfold kyO
    rw [hq, if_neg Bool.false_ne_true, List.length_nil]
    omega
  by_cases h0 : l.length = 0
  · have : vrOf l = zItem := by unfold vrOf; rw [if_pos (Or.inl h0)]
    rw [this]
    refine Ev.bind (r := zItem) (show Ev (fun k => impl_readItem.f k l) (0, 0, 0, []) from ?_) none_
    unfold impl_readItem.f
    exact ev_pos (by omega) (Ev.now _)
  have hv0 : ¬ l.length = 0 := h0
  by_cases k3 : rd l 0 = 3
  · refine Ev.bind (show Ev (fun k => impl_readItem.f k l) (3, 0, 0, l.drop 1) from ?_) ?_
    · unfold impl_readItem.f
      refine ev_neg (by omega) (ev_pos (by omega) (ev_pos (by omega) ?_))
      rw [hw]
      refine ev_pos k3 (ev_bind0 (cloneByte_f _ (by omega)) ?_)
      rw [k3]
      exact Ev.now _
    · have hv : vrOf l = readOf l 3 0 0 (l.drop 1) := by
        unfold vrOf
        by_cases h41 : 41 < l.length
        · rw [if_pos (Or.inr h41), empty 3 0 0 (l.drop 1) h0]
          simp [keyOkP, itemOkP]
          omega
        · rw [if_neg (by omega), if_pos k3]
      rw [hv]
      exact some_ 3 0 0 (l.drop 1) (by decide) (by omega) (empty 3 0 0 (l.drop 1) h0)
  by_cases h9 : l.length = 9
  · by_cases k1 : rd l 0 = 1
    · refine Ev.bind (show Ev (fun k => impl_readItem.f k l) (1, numOf l, 0, []) from ?_) ?_
      · unfold impl_readItem.f
        refine ev_neg (by omega) (ev_pos (by omega) (ev_pos (by omega) ?_))
        rw [hw]
        refine ev_neg k3 (ev_pos (by omega) (ev_pos k1 (Ev.bind (fromHigh_f _ (by omega)) ?_)))
        rw [k1]
        exact Ev.now _
      · have hv : vrOf l = readOf l 1 (numOf l) 0 [] := by unfold vrOf; rw [if_neg (by omega), if_neg k3, if_neg (by omega), if_pos k1]
        rw [hv]
        exact some_ 1 (numOf l) 0 [] (by decide) (by simp) (empty 1 (numOf l) 0 [] h0)
    by_cases k2 : rd l 0 = 2
    · refine Ev.bind (show Ev (fun k => impl_readItem.f k l) (2, 0, fltOf l, []) from ?_) ?_
      · unfold impl_readItem.f
        refine ev_neg (by omega) (ev_pos (by omega) (ev_pos (by omega) ?_))
        rw [hw]
        refine ev_neg k3 (ev_pos (by omega) (ev_neg k1 (ev_pos k2 (Ev.bind (fromHigh_f _ (by omega)) ?_))))
        obtain ⟨m, em⟩ := Int.eq_ofNat_of_zero_le hx.1
        have hm : fltOf l = (unr m).1 := by unfold fltOf; rw [em, Int.toNat_natCast]
        rw [em]
        refine Ev.bind (KeyRead_1_f m (by omega)) ?_
        rw [k2, ← hm]
        exact Ev.now _
      · have hv : vrOf l = readOf l 2 0 (fltOf l) [] := by unfold vrOf; rw [if_neg (by omega), if_neg k3, if_neg (by omega), if_neg k1, if_pos k2]
        rw [hv]
        exact some_ 2 0 (fltOf l) [] (fltOf_lt l) (by simp) (empty 2 0 (fltOf l) [] h0)
    · have hv : vrOf l = zItem := by unfold vrOf; rw [if_neg (by omega), if_neg k3, if_neg (by omega), if_neg k1, if_neg k2]
      refine Ev.bind (show Ev (fun k => impl_readItem.f k l) (rd l 0, 0, 0, []) from ?_) ?_
      · unfold impl_readItem.f
        refine ev_neg (by omega) (ev_pos (by omega) (ev_pos (by omega) ?_))
        rw [hw]
        exact ev_neg k3 (ev_pos (by omega) (ev_neg k1 (ev_neg k2 (Ev.now _))))
      · rw [hv]
        refine ev_bind0 (impl_KeyOk_f (rd l 0) 0 0 [] (by decide)) (ev_neg ?_ (Ev.now _))
        simp [keyOkP, itemOkP]
        omega
  · have hv : vrOf l = zItem := by
      unfold vrOf
      by_cases h41 : l.length = 0 ∨ 41 < l.length
      · rw [if_pos h41]
      · rw [if_neg h41, if_neg k3, if_pos h9]
    rw [hv]
    refine Ev.bind (show Ev (fun k => impl_readItem.f k l) (0, 0, 0, []) from ?_) none_
    unfold impl_readItem.f
    refine ev_neg (by omega) (ev_pos (by omega) (ev_pos (by omega) ?_))
    rw [hw]
    exact ev_neg k3 (ev_neg (by omega) (Ev.now _))
theorem vrOf_small (l : List Int) : (vrOf l).2.2.2.1.length ≤ l.length ∧ (vrOf l).2.2.1 < 2 ^ 64 := by
  have hf := fltOf_lt l
  have hr : ∀ (kd n : Int) (b : Nat) (t : List Int), t.length ≤ l.length → b < 2 ^ 64 → (readOf l kd n b t).2.2.2.1.length ≤ l.length ∧ (readOf l kd n b t).2.2.1 < 2 ^ 64 := by
    intro kd n b t h1 h2
    unfold readOf
    split
    · exact ⟨h1, h2⟩
    · exact ⟨Nat.zero_le _, by decide⟩
  unfold vrOf
  repeat' split
  all_goals first | exact ⟨Nat.zero_le _, by decide⟩ | exact hr _ _ _ _ (by simp) (by decide) | exact hr _ _ _ _ (by simp) hf
def flV (l : List Int) : Nat := (lowN (l.drop 1) 0).toNat
def rdV (l : List Int) (kd n : Int) (b : Nat) (t : List Int) : Int × Int × Nat × List Int × Bool := if (strOfNums (vlO kd n b t)).toList = (strOfNums l).toList then (kd, n, b, t, true) else zItem
def vrV (l : List Int) : Int × Int × Nat × List Int × Bool :=
  if l.length = 0 ∨ 41 < l.length then zItem
  else if rd l 0 = 3 then rdV l 3 0 0 (l.drop 1)
  else if l.length ≠ 9 then zItem
  else if rd l 0 = 1 then rdV l 1 (numOf l) 0 []
  else if rd l 0 = 2 then rdV l 2 0 (flV l) []
  else zItem
theorem flV_lt (l : List Int) : flV l < 2 ^ 64 := by
  have := lowN_in (l.drop 1) 0 (by omega)
  unfold flV
  omega
theorem impl_ValueRead_f (l : List Int) (hb : IsBytes l) (hl : l.length ≤ 1048576) : Ev (fun k => impl_ValueRead.f k l) (vrV l) := by
  unfold impl_ValueRead.f
  have hk := rd_byte hb 0
  have hw : wrap64 (rd l 0) = rd l 0 := w64 (by omega) (by omega)
  have hd : (l.drop 1).length = l.length - 1 := List.length_drop
  have hx := lowN_in (l.drop 1) 0 (by omega)
  have none_ : Ev (fun k => (impl_ItemOk.f 0 0 0 []).bind fun t223 => (if t223 = true then (if (0 : Int) = 0 then (some zItem) else ((impl_ValueBytes.f k 0 0 0 []).bind fun t224 => ((bytes_Equal.f t224 l).bind fun t227 => (if t227 = true then (some ((0 : Int), (0 : Int), (0 : Nat), ([] : List Int), true)) else (some zItem))))) else (some zItem))) zItem := by
    refine ev_bind0 (impl_ItemOk_f 0 0 0 []) (ev_pos (by decide) (ev_pos rfl (Ev.now _)))
  have some_ : ∀ (kd n : Int) (b : Nat) (t : List Int), b < 2 ^ 64 → t.length ≤ 1048576 → kd ≠ 0 → (itemOkP kd n b t = false → rdV l kd n b t = zItem) → Ev (fun k => (impl_ItemOk.f kd n b t).bind fun t223 => (if t223 = true then (if kd = 0 then (some (0, 0, 0, ([] : List Int), false)) else ((impl_ValueBytes.f k kd n b t).bind fun t224 => ((bytes_Equal.f t224 l).bind fun t227 => (if t227 = true then (some (kd, n, b, t, true)) else (some (0, 0, 0, ([] : List Int), false)))))) else (some (0, 0, 0, ([] : List Int), false)))) (rdV l kd n b t) := by
    intro kd n b t hb2 ht h0 hbad
    refine ev_bind0 (impl_ItemOk_f kd n b t) ?_
    cases hq : itemOkP kd n b t with
    | false => rw [hbad hq]; exact ev_neg Bool.false_ne_true (Ev.now _)
    | true =>
      refine ev_pos rfl (ev_neg h0 (Ev.bind (impl_ValueBytes_f kd n b t hb2 ht) (ev_bind0 rfl ?_)))
      unfold rdV
      by_cases he : (strOfNums (vlO kd n b t)).toList = (strOfNums l).toList
      · rw [if_pos he]
        exact ev_pos (beq_iff_eq.mpr he) (Ev.now _)
      · rw [if_neg he]
        exact ev_neg (fun h => he (beq_iff_eq.mp h)) (Ev.now _)
  have empty : ∀ (kd n : Int) (b : Nat) (t : List Int), l.length ≠ 0 → itemOkP kd n b t = false → rdV l kd n b t = zItem := by
    intro kd n b t h0 hq
    unfold rdV
    rw [if_neg (str_ne ?_)]
    unfold vlO
    rw [hq, if_neg (by simp), List.length_nil]
    omega
  by_cases h0 : l.length = 0
  · have : vrV l = zItem := by unfold vrV; rw [if_pos (Or.inl h0)]
    rw [this]
    refine Ev.bind (r := zItem) (show Ev (fun k => impl_readItem_V.f k l) (0, 0, 0, []) from ?_) none_
    unfold impl_readItem_V.f
    exact ev_pos (by omega) (Ev.now _)
  have hv0 : ¬ l.length = 0 := h0
  by_cases k3 : rd l 0 = 3
  · refine Ev.bind (show Ev (fun k => impl_readItem_V.f k l) (3, 0, 0, l.drop 1) from ?_) ?_
    · unfold impl_readItem_V.f
      refine ev_neg (by omega) (ev_pos (by omega) (ev_pos (by omega) ?_))
      rw [hw]
      refine ev_pos k3 (ev_bind0 (cloneByte_f _ (by omega)) ?_)
      rw [k3]
      exact Ev.now _
    · have hv : vrV l = rdV l 3 0 0 (l.drop 1) := by
        unfold vrV
        by_cases h41 : 41 < l.length
        · rw [if_pos (Or.inr h41), empty 3 0 0 (l.drop 1) h0]
          simp [itemOkP]
          omega
        · rw [if_neg (by omega), if_pos k3]
      rw [hv]
      exact some_ 3 0 0 (l.drop 1) (by decide) (by omega) (by omega) (empty 3 0 0 (l.drop 1) h0)
  by_cases h9 : l.length = 9
  · by_cases k1 : rd l 0 = 1
    · refine Ev.bind (show Ev (fun k => impl_readItem_V.f k l) (1, numOf l, 0, []) from ?_) ?_
      · unfold impl_readItem_V.f
        refine ev_neg (by omega) (ev_pos (by omega) (ev_pos (by omega) ?_))
        rw [hw]
        refine ev_neg k3 (ev_pos (by omega) (ev_pos k1 (Ev.bind (fromHigh_f _ (by omega)) ?_)))
        rw [k1]
        exact Ev.now _
      · have hv : vrV l = rdV l 1 (numOf l) 0 [] := by unfold vrV; rw [if_neg (by omega), if_neg k3, if_neg (by omega), if_pos k1]
        rw [hv]
        exact some_ 1 (numOf l) 0 [] (by decide) (by simp) (by omega) (empty 1 (numOf l) 0 [] h0)
    by_cases k2 : rd l 0 = 2
    · refine Ev.bind (show Ev (fun k => impl_readItem_V.f k l) (2, 0, flV l, []) from ?_) ?_
      · unfold impl_readItem_V.f
        refine ev_neg (by omega) (ev_pos (by omega) (ev_pos (by omega) ?_))
        rw [hw]
        refine ev_neg k3 (ev_pos (by omega) (ev_neg k1 (ev_pos k2 (Ev.bind (fromHigh_f _ (by omega)) (ev_bind0 rfl ?_)))))
        rw [k2]
        exact Ev.now _
      · have hv : vrV l = rdV l 2 0 (flV l) [] := by unfold vrV; rw [if_neg (by omega), if_neg k3, if_neg (by omega), if_neg k1, if_pos k2]
        rw [hv]
        exact some_ 2 0 (flV l) [] (flV_lt l) (by simp) (by omega) (empty 2 0 (flV l) [] h0)
    · have hv : vrV l = zItem := by unfold vrV; rw [if_neg (by omega), if_neg k3, if_neg (by omega), if_neg k1, if_neg k2]
      refine Ev.bind (show Ev (fun k => impl_readItem_V.f k l) (rd l 0, 0, 0, []) from ?_) ?_
      · unfold impl_readItem_V.f
        refine ev_neg (by omega) (ev_pos (by omega) (ev_pos (by omega) ?_))
        rw [hw]
        exact ev_neg k3 (ev_pos (by omega) (ev_neg k1 (ev_neg k2 (Ev.now _))))
      · rw [hv]
        refine ev_bind0 (impl_ItemOk_f (rd l 0) 0 0 []) ?_
        by_cases kz : rd l 0 = 0
        · refine ev_pos (by rw [kz]; decide) (ev_pos kz (Ev.now _))
        · refine ev_neg ?_ (Ev.now _)
          simp [itemOkP]
          omega
  · have hv : vrV l = zItem := by
      unfold vrV
      by_cases h41 : l.length = 0 ∨ 41 < l.length
      · rw [if_pos h41]
      · rw [if_neg h41, if_neg k3, if_pos h9]
    rw [hv]
    refine Ev.bind (show Ev (fun k => impl_readItem_V.f k l) (0, 0, 0, []) from ?_) none_
    unfold impl_readItem_V.f
    refine ev_neg (by omega) (ev_pos (by omega) (ev_pos (by omega) ?_))
    rw [hw]
    exact ev_neg k3 (ev_neg (by omega) (Ev.now _))
theorem vrV_small (l : List Int) : (vrV l).2.2.2.1.length ≤ l.length ∧ (vrV l).2.2.1 < 2 ^ 64 := by
  have hf := flV_lt l
  have hr : ∀ (kd n : Int) (b : Nat) (t : List Int), t.length ≤ l.length → b < 2 ^ 64 → (rdV l kd n b t).2.2.2.1.length ≤ l.length ∧ (rdV l kd n b t).2.2.1 < 2 ^ 64 := by
    intro kd n b t h1 h2
    unfold rdV
    split
    · exact ⟨h1, h2⟩
    · exact ⟨Nat.zero_le _, by decide⟩
  unfold vrV
  repeat' split
  all_goals first | exact ⟨Nat.zero_le _, by decide⟩ | exact hr _ _ _ _ (by simp) (by decide) | exact hr _ _ _ _ (by simp) hf
theorem key_len (kd n : Int) (b : Nat) (t : List Int) : (kyO kd n b t).length ≤ 41 := by
  unfold kyO
  split
  · rename_i hq
    have h1 := hq
    simp only [keyOkP, itemOkP, Bool.and_eq_true, decide_eq_true_eq] at h1
    unfold itemBytesOf
    by_cases hk1 : kd = 1
    · rw [if_pos hk1, List.length_cons, hi_length]; omega
    · rw [if_neg hk1]
      by_cases hk2 : kd = 2
      · rw [if_pos hk2, List.length_cons, hi_length]; omega
      · rw [if_neg hk2, List.length_cons]; omega
  · rw [List.length_nil]; omega
theorem value_len (kd n : Int) (b : Nat) (t : List Int) : (vlO kd n b t).length ≤ 41 := by
  unfold vlO
  split
  · rename_i hq
    have h1 := hq.1
    simp only [itemOkP, Bool.and_eq_true, decide_eq_true_eq] at h1
    unfold itemBytesOf
    by_cases hk1 : kd = 1
    · rw [if_pos hk1, List.length_cons, hi_length]; omega
    · rw [if_neg hk1]
      by_cases hk2 : kd = 2
      · rw [if_pos hk2, List.length_cons, hi_length]; omega
      · rw [if_neg hk2, List.length_cons]; omega
  · rw [List.length_nil]; omega
theorem pn_four (n : Int) : (pn n 4).length ≤ 4 := by
  unfold pn
  split
  · rw [le_length]
    decide
  · simp
theorem tuple_len (x y ka kb : Int) (kf : Nat) (kt : List Int) (va vb : Int) (vf : Nat) (vt : List Int) : (tuB x y ka kb kf kt va vb vf vt).length ≤ 92 := by
  have l1 := pn_four x
  have l2 := pn_four y
  have l3 := key_len ka kb kf kt
  have l4 := value_len va vb vf vt
  unfold tuB
  split
  · simp only [List.length_append, List.length_cons, List.length_nil]
    omega
  · exact Nat.zero_le _
theorem tuple_bad (x y ka kb : Int) (kf : Nat) (kt : List Int) (va vb : Int) (vf : Nat) (vt : List Int) (h : tupleOkP x y ka kb kf kt va vb vf vt = false) : (tuB x y ka kb kf kt va vb vf vt).length = 0 := by
  unfold tuB
  rw [h]
  rfl
def kyB (l : List Int) : List Int := (l.take (9 + rd l 8).toNat).drop 9
def vlB (l : List Int) : List Int := l.drop (10 + rd l 8).toNat
abbrev TR := Int × Int × Int × Int × Nat × List Int × Int × Int × Nat × List Int × Bool
def zT : TR := (0, 0, 0, 0, 0, [], 0, 0, 0, [], false)
def mkT (x y : Int) (K V : Int × Int × Nat × List Int × Bool) (ok : Bool) : TR := (x, y, K.1, K.2.1, K.2.2.1, K.2.2.2.1, V.1, V.2.1, V.2.2.1, V.2.2.2.1, ok)
def bytesT (x y : Int) (K V : Int × Int × Nat × List Int × Bool) : List Int := tuB x y K.1 K.2.1 K.2.2.1 K.2.2.2.1 V.1 V.2.1 V.2.2.1 V.2.2.2.1
def restT (l : List Int) (x y : Int) (K V : Int × Int × Nat × List Int × Bool) : TR :=
  if K.2.2.2.2 = true ∧ V.2.2.2.2 = true ∧ (strOfNums (bytesT x y K V)).toList = (strOfNums l).toList then mkT x y K V true else zT
def trOf (l : List Int) : TR :=
  if l.length < 10 ∨ 92 < l.length then zT else if rd l 8 > (l.length : Int) - 10 then zT
  else restT l (gv l 0 4) (gv l 4 4) (vrOf (kyB l)) (vrV (vlB l))
theorem gn_four (l : List Int) (hb : IsBytes l) (p : Int) (h0 : 0 ≤ p) (h1 : p + 4 ≤ l.length) : gn l p 4 = (gv l p 4, true) := by
  have := gv_small hb 4 (by decide) p
  unfold gn GnOk
  rw [if_pos ⟨⟨by omega, by omega, by omega⟩, by show gv l p 4 < 9223372036854775808; omega⟩]
  rfl
theorem isB_sub {l m : List Int} (hb : IsBytes l) (h : ∀ x, x ∈ m → x ∈ l) : IsBytes m := fun x hx => hb x (h x hx)
theorem impl_TupleRead_f (l : List Int) (hb : IsBytes l) (hl : l.length ≤ 1048576) : Ev (fun k => impl_TupleRead.f k l) (trOf l) := by
  unfold impl_TupleRead.f
  have bad : ∀ x y : Int, Ev (fun k => impl_TupleRead.j0 k l x y true) zT := fun x y => Ev.step (fun k => by rw [impl_TupleRead.j0, if_pos rfl]; rfl) (Ev.now _)
  refine Ev.bind (impl_GetNum_f l hb hl 0 4) (Ev.bind (impl_GetNum_f l hb hl 4 4) ?_)
  by_cases h9 : l.length < 9
  · have : trOf l = zT := by unfold trOf; rw [if_pos (Or.inl (by omega))]
    rw [this]
    by_cases c1 : (gn l 0 4).2 = true
    · by_cases c2 : (gn l 4 4).2 = true
      · exact ev_pos c1 (ev_pos c2 (ev_pos (by omega) (bad _ _)))
      · exact ev_pos c1 (ev_neg c2 (bad _ _))
    · exact ev_neg c1 (bad _ _)
  rw [gn_four l hb 0 (by omega) (by omega), gn_four l hb 4 (by omega) (by omega)]
  refine ev_pos rfl (ev_pos rfl (ev_neg (by omega) (ev_pos (by omega) ?_)))
  have hk := rd_byte hb 8
  have w8 : wrap64 (rd l 8) = rd l 8 := w64 (by omega) (by omega)
  have w9 : wrap64 (9 + rd l 8) = 9 + rd l 8 := w64 (by omega) (by omega)
  have w10 : wrap64 (10 + rd l 8) = 10 + rd l 8 := w64 (by omega) (by omega)
  have w11 : wrap64 (9 + rd l 8 + 1) = 10 + rd l 8 := by rw [w64 (by omega) (by omega)]; omega
  rw [w8, w10]
  by_cases hn : (l.length : Int) < 10 + rd l 8
  · have : trOf l = zT := by
      unfold trOf
      by_cases h : l.length < 10 ∨ 92 < l.length
      · rw [if_pos h]
      · rw [if_neg h, if_pos (by omega)]
    rw [this, decide_eq_true hn]
    exact bad _ _
  rw [decide_eq_false hn]
  refine Ev.step (fun k => by rw [impl_TupleRead.j0, if_neg Bool.false_ne_true, w8, w9, w11]) ?_
  have lk : (kyB l).length ≤ 1048576 := by unfold kyB; rw [List.length_drop, List.length_take]; omega
  have lv : (vlB l).length ≤ 1048576 := by unfold vlB; rw [List.length_drop]; omega
  have bk : IsBytes (kyB l) := isB_sub hb (fun x hx => List.mem_of_mem_take (List.mem_of_mem_drop hx))
  have bv : IsBytes (vlB l) := isB_sub hb (fun x hx => List.mem_of_mem_drop hx)
  refine ev_pos (by omega) (ev_pos (by omega) (ev_pos (by omega) (Ev.bind (impl_KeyRead_f (kyB l) bk lk) (ev_pos (by omega) (ev_pos (by omega) (Ev.bind (impl_ValueRead_f (vlB l) bv lv) ?_))))))
  have sk := vrOf_small (kyB l)
  have sv := vrV_small (vlB l)
  have ht : trOf l = restT l (gv l 0 4) (gv l 4 4) (vrOf (kyB l)) (vrV (vlB l)) := by
    unfold trOf
    by_cases h : 92 < l.length
    · rw [if_pos (Or.inr h)]
      unfold restT
      rw [if_neg (fun hq => str_ne (show (bytesT (gv l 0 4) (gv l 4 4) (vrOf (kyB l)) (vrV (vlB l))).length ≠ l.length from by have := tuple_len (gv l 0 4) (gv l 4 4) (vrOf (kyB l)).1 (vrOf (kyB l)).2.1 (vrOf (kyB l)).2.2.1 (vrOf (kyB l)).2.2.2.1 (vrV (vlB l)).1 (vrV (vlB l)).2.1 (vrV (vlB l)).2.2.1 (vrV (vlB l)).2.2.2.1; unfold bytesT; omega) hq.2.2)]
    · rw [if_neg (by omega), if_neg (by omega)]
  rw [ht]
  generalize vrOf (kyB l) = K at sk ⊢
  generalize vrV (vlB l) = V at sv ⊢
  obtain ⟨ka, kb, kf, kt, ko⟩ := K
  obtain ⟨va, vb, vf, vt, vo⟩ := V
  dsimp only at sk sv ⊢
  cases ko with
  | false => rw [(show restT l (gv l 0 4) (gv l 4 4) (ka, kb, kf, kt, false) (va, vb, vf, vt, vo) = zT from if_neg (fun h => absurd h.1 Bool.false_ne_true))]; exact ev_neg Bool.false_ne_true (Ev.now _)
  | true =>
    refine ev_pos rfl ?_
    cases vo with
    | false => rw [(show restT l (gv l 0 4) (gv l 4 4) (ka, kb, kf, kt, true) (va, vb, vf, vt, false) = zT from if_neg (fun h => absurd h.2.1 Bool.false_ne_true))]; exact ev_neg Bool.false_ne_true (Ev.now _)
    | true =>
      have g1 := gv_small hb 4 (by decide) 0
      have g2 := gv_small hb 4 (by decide) 4
      refine ev_pos rfl (ev_bind0 (impl_TupleOk_f (gv l 0 4) (gv l 4 4) ka kb kf kt va vb vf vt sk.2) ?_)
      cases hq : tupleOkP (gv l 0 4) (gv l 4 4) ka kb kf kt va vb vf vt with
      | false =>
        rw [(show restT l (gv l 0 4) (gv l 4 4) (ka, kb, kf, kt, true) (va, vb, vf, vt, true) = zT from if_neg (fun h => str_ne (fun e => by have hz := tuple_bad _ _ _ _ _ _ _ _ _ _ hq; have e2 : (tuB (gv l 0 4) (gv l 4 4) ka kb kf kt va vb vf vt).length = l.length := e; omega) h.2.2))]
        exact ev_neg Bool.false_ne_true (Ev.now _)
      | true =>
        refine ev_pos rfl (Ev.bind (impl_TupleBytes_f (gv l 0 4) (gv l 4 4) ka kb kf kt va vb vf vt sk.2 sv.2 (by omega) (by omega) (by omega) (by omega)) (ev_bind0 rfl ?_))
        by_cases he : (strOfNums (tuB (gv l 0 4) (gv l 4 4) ka kb kf kt va vb vf vt)).toList = (strOfNums l).toList
        · rw [(show restT l (gv l 0 4) (gv l 4 4) (ka, kb, kf, kt, true) (va, vb, vf, vt, true) = mkT (gv l 0 4) (gv l 4 4) (ka, kb, kf, kt, true) (va, vb, vf, vt, true) true from if_pos ⟨rfl, rfl, he⟩)]
          exact ev_pos (beq_iff_eq.mpr he) (Ev.now _)
        · rw [(show restT l (gv l 0 4) (gv l 4 4) (ka, kb, kf, kt, true) (va, vb, vf, vt, true) = zT from if_neg (fun h => he h.2.2))]
          exact ev_neg (fun h => he (beq_iff_eq.mp h)) (Ev.now _)
theorem i64_and255 (n : Int) : Go.bits .and .i64 n 255 = n % 256 := by
  have h127 : (BitVec.ofInt 64 255).toNat = 2 ^ 8 - 1 := by decide
  have key : (BitVec.ofInt 64 n &&& BitVec.ofInt 64 255).toNat = (n % ((2 ^ 64 : Nat) : Int)).toNat % 2 ^ 8 := by
    rw [BitVec.toNat_and, BitVec.toNat_ofInt, h127, Nat.and_two_pow_sub_one_eq_mod]
  show IntKind.i64.wrap ((BitVec.ofInt 64 n &&& BitVec.ofInt 64 255).toNat : Nat) = n % 256
  rw [key, IntKind.wrap_i64]
  omega
theorem u64_range (n : Int) : 0 ≤ IntKind.u64.wrap n ∧ IntKind.u64.wrap n < 18446744073709551616 := by
  have h : IntKind.u64.wrap n = n % 18446744073709551616 := by simp [IntKind.wrap, IntKind.bits, IntKind.signed]
  rw [h]
  omega
theorem or_range (x y : Int) : 0 ≤ Go.bits .or .u64 x y ∧ Go.bits .or .u64 x y < 18446744073709551616 := u64_range _
theorem byte_f (b : List Int) (hb : b.length ≤ 1048576) (i h : Int) (hi : 0 ≤ i) : ∃ x i' h', spec_l1Byte.f b i h = some (x, i', h') ∧ 0 ≤ x ∧ x ≤ 255 ∧ 0 ≤ i' := by
  unfold spec_l1Byte.f
  by_cases h1 : i < (b.length : Int)
  · rw [if_pos h1, if_pos hi]
    exact ⟨_, _, _, rfl, by rw [i64_and255]; omega, by rw [i64_and255]; omega, by rw [w64 (by omega) (by omega)]; omega⟩
  · rw [if_neg h1]
    exact ⟨_, _, _, rfl, by rw [i64_and255]; omega, by rw [i64_and255]; omega, hi⟩
theorem tmod_range (x n : Int) (hx : 0 ≤ x) (hn : 0 < n) : 0 ≤ Int.tmod x n ∧ Int.tmod x n < n := by
  rw [Int.tmod_eq_emod_of_nonneg hx]
  exact ⟨Int.emod_nonneg _ (by omega), Int.emod_lt_of_pos _ hn⟩
theorem below_f (b : List Int) (hb : b.length ≤ 1048576) (i h : Int) (hi : 0 ≤ i) (n : Int) : ∃ x i' h', spec_l1Below.f b i h n = some (x, i', h') ∧ 0 ≤ x ∧ (0 < n → x < n) ∧ 0 ≤ i' := by
  unfold spec_l1Below.f
  by_cases h1 : n ≤ 0
  · rw [if_pos h1]
    exact ⟨_, _, _, rfl, by omega, by omega, hi⟩
  rw [if_neg h1]
  by_cases h2 : n ≤ 256
  · rw [if_pos h2]
    obtain ⟨x, i1, h1', e1, x0, x1, q1⟩ := byte_f b hb i h hi
    rw [e1, Option.bind_some, if_neg (by omega)]
    have := tmod_range x n x0 (by omega)
    exact ⟨_, _, _, rfl, this.1, fun _ => this.2, q1⟩
  · rw [if_neg h2]
    obtain ⟨x, i1, g1, e1, x0, x1, q1⟩ := byte_f b hb i h hi
    obtain ⟨y, i2, g2, e2, y0, y1, q2⟩ := byte_f b hb i1 g1 q1
    obtain ⟨z, i3, g3, e3, z0, z1, q3⟩ := byte_f b hb i2 g2 q2
    obtain ⟨v, i4, g4, e4, v0, v1, q4⟩ := byte_f b hb i3 g3 q3
    simp only [e1, e2, e3, e4, Option.bind_some]
    rw [if_neg (by omega), w64 (x := x * 16777216) (by omega) (by omega), w64 (x := y * 65536) (by omega) (by omega), w64 (x := z * 256) (by omega) (by omega), w64 (x := x * 16777216 + y * 65536) (by omega) (by omega), w64 (x := x * 16777216 + y * 65536 + z * 256) (by omega) (by omega), w64 (by omega) (by omega)]
    have := tmod_range (x * 16777216 + y * 65536 + z * 256 + v) n (by omega) (by omega)
    exact ⟨_, _, _, rfl, this.1, fun _ => this.2, q4⟩
theorem l1New_l (l : List Int) (hl : l.length ≤ 1048576) (d : Nat) : ∀ (i : Nat) (x : Int), i + d = l.length → ∃ h, Ev (fun k => spec_l1New.l0 k l x (i : Int)) (l, 0, h) := by
  induction d with
  | zero =>
    intro i x hi
    exact ⟨x, Ev.step (fun k => by rw [spec_l1New.l0, if_neg (by omega)]) (Ev.now _)⟩
  | succ d ih =>
    intro i x hi
    by_cases h4 : (i : Int) < 4000
    · obtain ⟨h, hh⟩ := ih (i + 1) (Go.bits .and .i64 (wrap64 ((wrap64 ((wrap64 (x * 131)) + (wrap64 (rd l (i : Int))))) + 7)) 1073741823) (by omega)
      refine ⟨h, Ev.step (fun k => by rw [spec_l1New.l0, if_pos (by omega), if_pos h4, if_pos (by omega), w64 (x := (i : Int) + 1) (by omega) (by omega)]) ?_⟩
      exact hh
    · exact ⟨x, Ev.step (fun k => by rw [spec_l1New.l0, if_pos (by omega), if_neg h4]) (Ev.now _)⟩
theorem l1New_f (l : List Int) (hl : l.length ≤ 1048576) : ∃ h, Ev (fun k => spec_l1New.f k l) (l, 0, h) := by
  obtain ⟨h, hh⟩ := l1New_l l hl l.length 0 (wrap64 (25252 + (l.length : Int))) (by omega)
  refine ⟨h, ?_⟩
  unfold spec_l1New.f
  exact hh
theorem fofi_small : ∀ m : Fin 21, fofi ((m.val : Int) - 10) < 2 ^ 64 := by decide
theorem bits_total (a : Nat) (ha : a < 2 ^ 64) : ∃ r, Ev (fun k => spec_FloatBits.f k a) r ∧ 0 ≤ r ∧ r < 18446744073709551616 := by
  refine ⟨_, spec_FloatBits_f a ha, ?_, ?_⟩ <;> split <;> omega
theorem l2bits_end (b : List Int) (hb : b.length ≤ 1048576) (x : Int) (hx : 0 ≤ x ∧ x < 18446744073709551616) (i h : Int) (hi : 0 ≤ i) : ∃ r i' h', Ev (fun k => spec_l2bits.l0 k x 8 b i h) (r, i', h') ∧ 0 ≤ r ∧ r < 18446744073709551616 ∧ 0 ≤ i' := by
  obtain ⟨y, i1, h1, e1, y0, y1, q1⟩ := below_f b hb i h hi 9
  obtain ⟨z, i2, h2, e2, z0, z1, q2⟩ := below_f b hb i1 h1 q1 2
  obtain ⟨v, i3, h3, e3, v0, v1, q3⟩ := below_f b hb i2 h2 q2 3
  obtain ⟨z', i2', h2', e2', z0', z1', q2'⟩ := below_f b hb i1 h1 q1 12
  obtain ⟨v', i3', h3', e3', v0', v1', q3'⟩ := below_f b hb i2' h2' q2' 16
  obtain ⟨u, i4, h4, e4, u0, u1, q4⟩ := below_f b hb i1 h1 q1 21
  have y1' := y1 (by omega)
  have u1' := u1 (by omega)
  rcases (show y = 0 ∨ y = 1 ∨ y = 2 ∨ y = 3 ∨ y = 4 ∨ y = 5 ∨ (6 ≤ y) by omega) with rfl | rfl | rfl | rfl | rfl | rfl | h6
  · refine ⟨_, i3, h3, Ev.step (fun k => by rw [spec_l2bits.l0, if_neg (by omega), e1, Option.bind_some, if_pos rfl, e2, Option.bind_some, e3, Option.bind_some]) (Ev.now _), (or_range _ _).1, (or_range _ _).2, q3⟩
  · refine ⟨_, i3, h3, Ev.step (fun k => by rw [spec_l2bits.l0, if_neg (by omega), e1, Option.bind_some, if_neg (by omega), if_pos rfl, e2, Option.bind_some, e3, Option.bind_some]) (Ev.now _), (or_range _ _).1, (or_range _ _).2, q3⟩
  · refine ⟨_, i2, h2, Ev.step (fun k => by rw [spec_l2bits.l0, if_neg (by omega), e1, Option.bind_some, if_neg (by omega), if_neg (by omega), if_pos rfl, e2, Option.bind_some]) (Ev.now _), (or_range _ _).1, (or_range _ _).2, q2⟩
  · refine ⟨_, i3, h3, Ev.step (fun k => by rw [spec_l2bits.l0, if_neg (by omega), e1, Option.bind_some, if_neg (by omega), if_neg (by omega), if_neg (by omega), if_pos rfl, e2, Option.bind_some, e3, Option.bind_some]) (Ev.now _), (or_range _ _).1, (or_range _ _).2, q3⟩
  · refine ⟨_, i3', h3', Ev.step (fun k => by rw [spec_l2bits.l0, if_neg (by omega), e1, Option.bind_some, if_neg (by omega), if_neg (by omega), if_neg (by omega), if_neg (by omega), if_pos rfl, e2', Option.bind_some, e3', Option.bind_some]) (Ev.now _), (or_range _ _).1, (or_range _ _).2, q3'⟩
  · have hf := fofi_small ⟨u.toNat, by omega⟩
    rw [show (((⟨u.toNat, by omega⟩ : Fin 21).val : Int) - 10) = u - 10 by show ((u.toNat : Nat) : Int) - 10 = u - 10; omega] at hf
    obtain ⟨r, hr, r0, r1⟩ := bits_total _ hf
    refine ⟨r, i4, h4, Ev.step (fun k => by rw [spec_l2bits.l0, if_neg (by omega), e1, Option.bind_some, if_neg (by omega), if_neg (by omega), if_neg (by omega), if_neg (by omega), if_neg (by omega), if_pos rfl, e4, Option.bind_some, w64 (by omega) (by omega)]) (Ev.bind hr (Ev.now _)), r0, r1, q4⟩
  · exact ⟨x, i1, h1, Ev.step (fun k => by rw [spec_l2bits.l0, if_neg (by omega), e1, Option.bind_some, if_neg (by omega), if_neg (by omega), if_neg (by omega), if_neg (by omega), if_neg (by omega), if_neg (by omega)]) (Ev.now _), hx.1, hx.2, q1⟩
theorem l2bits_l (b : List Int) (hb : b.length ≤ 1048576) (d : Nat) (hd : d ≤ 8) : ∀ (x i h : Int), 0 ≤ x ∧ x < 18446744073709551616 → 0 ≤ i → ∃ r i' h', Ev (fun k => spec_l2bits.l0 k x (8 - (d : Int)) b i h) (r, i', h') ∧ 0 ≤ r ∧ r < 18446744073709551616 ∧ 0 ≤ i' := by
  induction d with
  | zero => intro x i h hx hi; exact l2bits_end b hb x hx i h hi
  | succ d ih =>
    intro x i h hx hi
    obtain ⟨y, i1, h1, e1, y0, y1, q1⟩ := byte_f b hb i h hi
    obtain ⟨r, i2, h2, e2, r0, r1, q2⟩ := ih (by omega) (IntKind.u64.wrap ((IntKind.u64.wrap (x * 256)) + (IntKind.u64.wrap y))) i1 h1 (u64_range _) q1
    refine ⟨r, i2, h2, Ev.step (fun k => by rw [spec_l2bits.l0, if_pos (by omega), e1, Option.bind_some, w64 (by omega) (by omega), show 8 - ((d + 1 : Nat) : Int) + 1 = 8 - (d : Int) by omega]) ?_, r0, r1, q2⟩
    exact e2
theorem l2bits_f (b : List Int) (hb : b.length ≤ 1048576) (i h : Int) (hi : 0 ≤ i) : ∃ r i' h', Ev (fun k => spec_l2bits.f k b i h) (r, i', h') ∧ 0 ≤ r ∧ r < 18446744073709551616 ∧ 0 ≤ i' := by
  unfold spec_l2bits.f
  exact l2bits_l b hb 8 (by omega) 0 i h (by omega) hi
def told (r : Nat) : Prop := r < 2 ^ 64 ∧ (isn r = true → r = 9221120237041090560)
theorem FloatOf_c (n : Int) (h0 : 0 ≤ n) (h1 : n < 18446744073709551616) : ∃ r, Ev (fun k => spec_FloatOf.c k n) r ∧ told r := by
  obtain ⟨a, rfl⟩ := Int.eq_ofNat_of_zero_le h0
  have ha : a < 2 ^ 64 := by omega
  cases hn : isn a with
  | true =>
    refine ⟨9221120237041090560, ?_, by decide, fun _ => rfl⟩
    unfold spec_FloatOf.c
    exact ev_pos (nanC_of a ha hn) (Ev.now _)
  | false =>
    have e := spec_FloatOf_f a ha (by rw [nanB_isn]; exact hn)
    have hc : ¬ spec_FloatOf.nanC (a : Int) := by
      intro h
      obtain ⟨k2, hk2⟩ := Ev.rounds e
      rw [nanC_none _ h] at hk2
      cases hk2
    refine ⟨a, ?_, ha, fun h => by rw [hn] at h; cases h⟩
    unfold spec_FloatOf.c
    refine ev_neg hc (Ev.bind e ?_)
    exact ev_pos ⟨(fun h => by have q := h.2; rw [hn] at q; cases q), ha⟩ (Ev.now _)
theorem l2float_f (b : List Int) (hb : b.length ≤ 1048576) (i h : Int) (hi : 0 ≤ i) : ∃ r i' h', Ev (fun k => spec_l2float.f k b i h) (r, i', h') ∧ told r ∧ 0 ≤ i' := by
  obtain ⟨x, i1, h1, e1, x0, x1, q1⟩ := l2bits_f b hb i h hi
  obtain ⟨r, e2, hr⟩ := FloatOf_c x x0 x1
  refine ⟨r, i1, h1, ?_, hr, q1⟩
  unfold spec_l2float.f
  exact Ev.bind e1 (Ev.bind e2 (Ev.now _))
def Rp {α : Type} (P : α → Prop) (g : Nat → Option α) : Prop := ∃ r, Ev g r ∧ P r
theorem Rp.now {α : Type} {P : α → Prop} {r : α} (h : P r) : Rp P (fun _ => some r) := ⟨r, Ev.now _, h⟩
theorem Rp.bind {α β : Type} {P : β → Prop} {g : Nat → Option α} {f : Nat → α → Option β} {a : α} (h : Ev g a) (k : Rp P (fun n => f n a)) : Rp P (fun n => (g n).bind (f n)) := by
  obtain ⟨r, e, p⟩ := k
  exact ⟨r, Ev.bind h e, p⟩
theorem Rp.bind0 {α β : Type} {P : β → Prop} {g : Option α} {f : Nat → α → Option β} {a : α} (h : g = some a) (k : Rp P (fun n => f n a)) : Rp P (fun n => g.bind (f n)) := by
  obtain ⟨r, e, p⟩ := k
  exact ⟨r, ev_bind0 h e, p⟩
theorem Rp.thn {α β : Type} {Q : α → Prop} {P : β → Prop} {g : Nat → Option α} {f : Nat → α → Option β} (h : Rp Q g) (k : ∀ a, Q a → Rp P (fun n => f n a)) : Rp P (fun n => (g n).bind (f n)) := by
  obtain ⟨a, e, q⟩ := h
  exact Rp.bind e (k a q)
theorem Rp.pos {α : Type} {P : α → Prop} {c : Prop} [Decidable c] {A B : Nat → Option α} (hc : c) (h : Rp P A) : Rp P (fun k => if c then A k else B k) := by
  obtain ⟨r, e, p⟩ := h
  exact ⟨r, ev_pos hc e, p⟩
theorem Rp.neg {α : Type} {P : α → Prop} {c : Prop} [Decidable c] {A B : Nat → Option α} (hc : ¬ c) (h : Rp P B) : Rp P (fun k => if c then A k else B k) := by
  obtain ⟨r, e, p⟩ := h
  exact ⟨r, ev_neg hc e, p⟩
theorem Rp.both {α : Type} {P : α → Prop} {c : Prop} [Decidable c] {A B : Nat → Option α} (h1 : c → Rp P A) (h2 : ¬ c → Rp P B) : Rp P (fun k => if c then A k else B k) := by
  by_cases hc : c
  · exact Rp.pos hc (h1 hc)
  · exact Rp.neg hc (h2 hc)
theorem Rp.step {α : Type} {P : α → Prop} {g f : Nat → Option α} (h : ∀ k, g (k + 1) = f k) (k : Rp P f) : Rp P g := by
  obtain ⟨r, e, p⟩ := k
  exact ⟨r, Ev.step h e, p⟩
theorem Rp.mono {α : Type} {P Q : α → Prop} {g : Nat → Option α} (h : Rp P g) (k : ∀ a, P a → Q a) : Rp Q g := by
  obtain ⟨r, e, p⟩ := h
  exact ⟨r, e, k r p⟩
def IsI64 (n : Int) : Prop := -9223372036854775808 ≤ n ∧ n ≤ 9223372036854775807
theorem i64_max : IsI64 9223372036854775807 := by unfold IsI64; decide
theorem i64_min : IsI64 (-9223372036854775808) := by unfold IsI64; decide
theorem i64_three : IsI64 3 := by unfold IsI64; decide
theorem i64_zero : IsI64 0 := by unfold IsI64; decide
theorem w64_in (n : Int) : IsI64 (wrap64 n) := by unfold IsI64 wrap64; omega
def WI (kd n : Int) (b : Nat) (t : List Int) : Prop := IsI64 kd ∧ IsI64 n ∧ told b ∧ IsBytes t ∧ t.length ≤ 110
def WR (M : Nat) (r : Int × Int × Nat × List Int × Int × Int) : Prop := (WI r.1 r.2.1 r.2.2.1 r.2.2.2.1 ∧ r.2.2.2.1.length ≤ M) ∧ 0 ≤ r.2.2.2.2.1
theorem told_zero : told 0 := ⟨by decide, fun h => absurd h (by decide)⟩
theorem told_nzero : told (fneg 0) := ⟨by decide, fun h => absurd h (by decide)⟩
theorem told_cn {b : Nat} (h : b < 2 ^ 64) : told (cn b) := by
  refine ⟨cn_lt h, fun q => ?_⟩
  by_cases hn : nanw b
  · exact cn_nan hn
  · rw [cn_num hn] at q
    exact absurd ⟨h, q⟩ hn
theorem isB_nil : IsBytes [] := fun x hx => by cases hx
theorem isB_app {a b : List Int} (ha : IsBytes a) (hb : IsBytes b) : IsBytes (a ++ b) := fun x hx => by
  rcases List.mem_append.1 hx with h | h
  · exact ha x h
  · exact hb x h
theorem isB_one (x : Int) : IsBytes [x % 256] := fun y hy => by
  rcases List.mem_cons.1 hy with rfl | h
  · omega
  · cases h
theorem once_f (b : List Int) (hb : b.length ≤ 1048576) (i h : Int) (hi : 0 ≤ i) (n : Int) : ∃ x i' h', spec_l1Once.f b i h n = some (x, i', h') ∧ 0 ≤ i' := by
  obtain ⟨x, i1, h1, e1, x0, x1, q1⟩ := below_f b hb i h hi n
  unfold spec_l1Once.f
  exact ⟨_, _, _, by rw [e1, Option.bind_some], q1⟩
theorem some_l (l : List Int) (hl : l.length ≤ 1048576) (M : Nat) (hM : M ≤ 60) (m : Int) (hm : m ≤ 60) (d : Nat) : ∀ (x : List Int) (j c h : Int), 0 ≤ c → 0 ≤ j → m - j ≤ d → IsBytes x → x.length + d ≤ M → Rp (fun r => (IsBytes r.1 ∧ r.1.length ≤ M) ∧ 0 ≤ r.2.1) (fun k => spec_l1some.l0 k x m j l c h) := by
  induction d with
  | zero =>
    intro x j c h hc hj hd hx hn
    exact Rp.step (fun k => by rw [spec_l1some.l0, if_neg (by omega)]) (Rp.now ⟨⟨hx, by show x.length ≤ M; omega⟩, hc⟩)
  | succ d ih =>
    intro x j c h hc hj hd hx hn
    by_cases h4 : j < m
    · obtain ⟨y, c1, h1, e1, y0, y1, q1⟩ := byte_f l hl c h hc
      refine Rp.step (fun k => by rw [spec_l1some.l0, if_pos h4]) (Rp.bind0 e1 ?_)
      refine Rp.pos (show x.length < 140737488355328 by omega) ?_
      rw [w64 (x := j + 1) (by omega) (by omega)]
      exact ih (x ++ [y % 256]) (j + 1) c1 h1 q1 (by omega) (by omega) (isB_app hx (isB_one y)) (by rw [List.length_append, List.length_cons, List.length_nil]; omega)
    · exact Rp.step (fun k => by rw [spec_l1some.l0, if_neg h4]) (Rp.now ⟨⟨hx, by show x.length ≤ M; omega⟩, hc⟩)
theorem some_f (l : List Int) (hl : l.length ≤ 1048576) (i h : Int) (hi : 0 ≤ i) (n : Nat) (h1 : n ≤ 50) : Rp (fun r => (IsBytes r.1 ∧ r.1.length ≤ n) ∧ 0 ≤ r.2.1) (fun k => spec_l1some.f k l i h (n : Int)) := by
  unfold spec_l1some.f
  obtain ⟨m, c1, h1', e1, m0, m1, q1⟩ := below_f l hl i h hi (wrap64 ((n : Int) + 1))
  have hw : wrap64 ((n : Int) + 1) = n + 1 := w64 (by omega) (by omega)
  have m2 := m1 (by omega)
  exact Rp.bind0 e1 (some_l l hl n (by omega) m (by omega) n [] 0 c1 h1' q1 (by omega) (by omega) isB_nil (by rw [List.length_nil]; omega))
theorem number_l (l : List Int) (hl : l.length ≤ 1048576) (d : Nat) : ∀ (x j c h : Int), 0 ≤ c → IsI64 x → j ≤ d → j ≤ 100 → Rp (fun r => IsI64 r.1 ∧ 0 ≤ r.2.1) (fun k => spec_l1number.l0 k x j l c h) := by
  have fin : ∀ (x j c h : Int), 0 ≤ c → IsI64 x → j ≤ 0 → Rp (fun r => IsI64 r.1 ∧ 0 ≤ r.2.1) (fun k => spec_l1number.l0 k x j l c h) := by
    intro x j c h hc hx hj
    obtain ⟨y, c1, h1, e1, y0, y1, q1⟩ := below_f l hl c h hc 12
    refine Rp.step (fun k => by rw [spec_l1number.l0, if_neg (by omega)]) (Rp.bind0 e1 ?_)
    refine Rp.both (fun _ => Rp.now ⟨w64_in _, q1⟩) (fun _ => ?_)
    refine Rp.both (fun _ => ?_) (fun _ => ?_)
    · obtain ⟨z, c2, h2, e2, z0, z1, q2⟩ := below_f l hl c1 h1 q1 7
      have z2 := z1 (by omega)
      obtain ⟨u, c3, h3, e3, u0, u1, q3⟩ := below_f l hl c2 h2 q2 2
      refine Rp.bind0 e2 (Rp.pos ?_ (Rp.bind0 e3 (Rp.now ⟨w64_in _, q3⟩)))
      show 0 ≤ wrap64 (8 * (wrap64 (1 + z)))
      rw [w64 (x := 1 + z) (by omega) (by omega), w64 (by omega) (by omega)]
      omega
    · refine Rp.both (fun _ => Rp.now ⟨i64_max, q1⟩) (fun _ => ?_)
      exact Rp.both (fun _ => Rp.now ⟨i64_min, q1⟩) (fun _ => Rp.now ⟨hx, q1⟩)
  induction d with
  | zero => intro x j c h hc hx hj _; exact fin x j c h hc hx (by omega)
  | succ d ih =>
    intro x j c h hc hx hj hj2
    by_cases h4 : j > 0
    · obtain ⟨y, c1, h1, e1, y0, y1, q1⟩ := byte_f l hl c h hc
      refine Rp.step (fun k => by rw [spec_l1number.l0, if_pos h4]) (Rp.bind0 e1 ?_)
      exact ih _ _ c1 h1 q1 (w64_in _) (by rw [w64 (by omega) (by omega)]; omega) (by rw [w64 (by omega) (by omega)]; omega)
    · exact fin x j c h hc hx (by omega)
theorem number_f (l : List Int) (hl : l.length ≤ 1048576) (i h : Int) (hi : 0 ≤ i) : Rp (fun r => IsI64 r.1 ∧ 0 ≤ r.2.1) (fun k => spec_l1number.f k l i h) := by
  unfold spec_l1number.f
  obtain ⟨x, c1, h1, e1, x0, x1, q1⟩ := below_f l hl i h hi 1000
  obtain ⟨j, c2, h2, e2, j0, j1, q2⟩ := below_f l hl c1 h1 q1 6
  have := x1 (by omega)
  have := j1 (by omega)
  exact Rp.bind0 e1 (Rp.bind0 e2 (number_l l hl 6 x j c2 h2 q2 (by unfold IsI64; omega) (by omega) (by omega)))
theorem copy_f (kd n : Int) (b : Nat) (t : List Int) (ht : t.length ≤ 110) : spec_l3copy.f kd n b t = some (kd, n, b, t) := by
  unfold spec_l3copy.f
  rw [Option.bind_some, if_pos (by rw [List.length_nil]; omega), List.nil_append]
theorem clean_f (kd n : Int) (b : Nat) (t : List Int) (h : WI kd n b t) : Rp (fun r => WI r.1 r.2.1 r.2.2.1 r.2.2.2 ∧ r.2.2.2.length ≤ t.length) (fun k => spec_ItemClean.f k kd n b t) := by
  unfold spec_ItemClean.f
  refine Rp.bind (spec_ItemOk_f kd n b t h.2.2.1.1) (Rp.both (fun _ => Rp.bind0 (copy_f kd n b t h.2.2.2.2) ?_) (fun _ => Rp.now ⟨⟨by unfold IsI64; decide, by unfold IsI64; decide, told_zero, isB_nil, by decide⟩, Nat.zero_le _⟩))
  exact Rp.both (fun _ => Rp.now ⟨⟨h.1, h.2.1, told_zero, h.2.2.2⟩, Nat.le_refl _⟩) (fun _ => Rp.now ⟨h, Nat.le_refl _⟩)
theorem half_ok : ∀ m : Fin 5, fok .quo (fofi ((m.val : Int) - 2)) 4611686018427387904 = true ∧ fval .quo (fofi ((m.val : Int) - 2)) 4611686018427387904 < 2 ^ 64 ∧ isn (fval .quo (fofi ((m.val : Int) - 2)) 4611686018427387904) = false := by decide +kernel
theorem quarter_ok : ∀ m : Fin 64, fok .quo (fofi ((m.val : Int) - 32)) 4616189618054758400 = true ∧ fval .quo (fofi ((m.val : Int) - 32)) 4616189618054758400 < 2 ^ 64 ∧ isn (fval .quo (fofi ((m.val : Int) - 32)) 4616189618054758400) = false := by decide +kernel
theorem wi_int (n : Int) (h : IsI64 n) : WI 1 n 0 [] := ⟨by unfold IsI64; decide, h, told_zero, isB_nil, by decide⟩
theorem wi_text (t : List Int) (h : IsBytes t) (hl : t.length ≤ 40) : WI 3 0 0 t := ⟨by unfold IsI64; decide, by unfold IsI64; decide, told_zero, h, by omega⟩
theorem wi_float (b : Nat) (h : told b) : WI 2 0 b [] := ⟨by unfold IsI64; decide, by unfold IsI64; decide, h, isB_nil, by decide⟩
theorem key_f (l : List Int) (hl : l.length ≤ 1048576) (i h : Int) (hi : 0 ≤ i) : Rp (WR 40) (fun k => spec_l3key.f k l i h) := by
  unfold spec_l3key.f
  obtain ⟨x, c1, h1, e1, x0, x1, q1⟩ := below_f l hl i h hi 6
  have last : ∀ c h', 0 ≤ c → Rp (WR 40) (fun _ => (spec_l1Below.f l c h' 6).bind fun bt286 => (some (1, wrap64 (bt286.1 - 1), 0, ([] : List Int), bt286.2.1, bt286.2.2))) := by
    intro c h' hc
    obtain ⟨y, c2, h2, e2, y0, y1, q2⟩ := below_f l hl c h' hc 6
    exact Rp.bind0 e2 (Rp.now ⟨⟨wi_int _ (w64_in _), Nat.zero_le _⟩, q2⟩)
  refine Rp.bind0 e1 (Rp.both (fun _ => ?_) (fun _ => Rp.both (fun _ => ?_) (fun _ => Rp.both (fun _ => ?_) (fun _ => Rp.both (fun _ => ?_) (fun _ => last c1 h1 q1)))))
  · obtain ⟨y, c2, h2, e2, y0, y1, q2⟩ := below_f l hl c1 h1 q1 3
    exact Rp.bind0 e2 (Rp.now ⟨⟨wi_text _ (isB_one _) (show 1 ≤ 40 by decide), show 1 ≤ 40 by decide⟩, q2⟩)
  · obtain ⟨y, c2, h2, e2, y0, y1, q2⟩ := below_f l hl c1 h1 q1 5
    have y2 := y1 (by omega)
    obtain ⟨m, rfl⟩ := Int.eq_ofNat_of_zero_le y0
    obtain ⟨f1, f2, f3⟩ := half_ok ⟨m, by omega⟩
    refine Rp.bind0 e2 ?_
    show Rp (WR 40) (fun k => if (fok .quo (fofi (wrap64 ((m : Int) - 2))) 4611686018427387904) = true then _ else _)
    rw [w64 (x := (m : Int) - 2) (by omega) (by omega)]
    refine Rp.pos f1 (Rp.thn (clean_f 2 0 _ [] (wi_float _ (told_cn f2))) (fun a ha => Rp.now ⟨⟨ha.1, Nat.le_trans ha.2 (by decide)⟩, q2⟩))
  · obtain ⟨o, c2, h2, e2, q2⟩ := once_f l hl c1 h1 q1 3
    refine Rp.bind0 e2 (Rp.both (fun _ => ?_) (fun _ => last c2 h2 q2))
    obtain ⟨f, c3, h3, e3, hf, q3⟩ := l2float_f l hl c2 h2 q2
    exact Rp.bind e3 (Rp.thn (clean_f 2 0 f [] (wi_float _ hf)) (fun a ha => Rp.now ⟨⟨ha.1, Nat.le_trans ha.2 (by decide)⟩, q3⟩))
  · obtain ⟨o, c2, h2, e2, q2⟩ := once_f l hl c1 h1 q1 4
    refine Rp.bind0 e2 (Rp.both (fun _ => ?_) (fun _ => last c2 h2 q2))
    exact Rp.thn (some_f l hl c2 h2 q2 40 (by omega)) (fun a ha => Rp.now ⟨⟨wi_text _ ha.1.1 ha.1.2, ha.1.2⟩, ha.2⟩)
theorem value_f (l : List Int) (hl : l.length ≤ 1048576) (i h : Int) (hi : 0 ≤ i) : Rp (WR 40) (fun k => spec_l3value.f k l i h) := by
  unfold spec_l3value.f
  obtain ⟨x, c1, h1, e1, x0, x1, q1⟩ := below_f l hl i h hi 5
  have last : ∀ c h', 0 ≤ c → Rp (WR 40) (fun k => (spec_l1number.f k l c h').bind fun bt344 => (some (1, bt344.1, 0, ([] : List Int), bt344.2.1, bt344.2.2))) := by
    intro c h' hc
    exact Rp.thn (number_f l hl c h' hc) (fun a ha => Rp.now ⟨⟨wi_int _ ha.1, Nat.zero_le _⟩, ha.2⟩)
  refine Rp.bind0 e1 (Rp.both (fun _ => ?_) (fun _ => Rp.both (fun _ => ?_) (fun _ => Rp.both (fun _ => ?_) (fun _ => Rp.both (fun _ => ?_) (fun _ => last c1 h1 q1)))))
  · exact Rp.thn (some_f l hl c1 h1 q1 8 (by omega)) (fun a ha => Rp.now ⟨⟨wi_text _ ha.1.1 (Nat.le_trans ha.1.2 (by decide)), Nat.le_trans ha.1.2 (by decide)⟩, ha.2⟩)
  · obtain ⟨f, c3, h3, e3, hf, q3⟩ := l2float_f l hl c1 h1 q1
    exact Rp.bind e3 (Rp.now ⟨⟨wi_float _ hf, Nat.zero_le _⟩, q3⟩)
  · obtain ⟨y, c2, h2, e2, y0, y1, q2⟩ := below_f l hl c1 h1 q1 64
    have y2 := y1 (by omega)
    obtain ⟨m, rfl⟩ := Int.eq_ofNat_of_zero_le y0
    obtain ⟨f1, f2, f3⟩ := quarter_ok ⟨m, by omega⟩
    refine Rp.bind0 e2 ?_
    show Rp (WR 40) (fun k => if (fok .quo (fofi (wrap64 ((m : Int) - 32))) 4616189618054758400) = true then (some (2, 0, cn (fval .quo (fofi (wrap64 ((m : Int) - 32))) 4616189618054758400), ([] : List Int), c2, h2)) else none)
    rw [w64 (x := (m : Int) - 32) (by omega) (by omega)]
    exact Rp.pos f1 (Rp.now ⟨⟨wi_float _ (told_cn f2), Nat.zero_le _⟩, q2⟩)
  · obtain ⟨o, c2, h2, e2, q2⟩ := once_f l hl c1 h1 q1 5
    refine Rp.bind0 e2 (Rp.both (fun _ => ?_) (fun _ => last c2 h2 q2))
    exact Rp.thn (some_f l hl c2 h2 q2 40 (by omega)) (fun a ha => Rp.now ⟨⟨wi_text _ ha.1.1 ha.1.2, ha.1.2⟩, ha.2⟩)
theorem any_l (l : List Int) (hl : l.length ≤ 1048576) (kd n : Int) (b : Nat) (d : Nat) : ∀ (t : List Int) (c h : Int), 0 ≤ c → IsBytes t → 41 ≤ t.length + d → t.length + d ≤ 100 → Rp (WR 100) (fun k => spec_l3any.l0 k l c h kd n b t) := by
  induction d with
  | zero =>
    intro t c h hc ht h1 h2
    obtain ⟨y, c1, h1', e1, y0, y1, q1⟩ := below_f l hl c h hc 2
    have y2 := y1 (by omega)
    refine Rp.step (fun k => by rw [spec_l3any.l0]) (Rp.bind0 e1 ?_)
    refine Rp.neg ?_ (Rp.now (P := WR 100) (r := (3, 0, 0, t, c1, h1')) ⟨⟨⟨i64_three, i64_zero, told_zero, ht, by show t.length ≤ 110; omega⟩, by show t.length ≤ 100; omega⟩, q1⟩)
    show ¬ (t.length : Int) < wrap64 (40 + y)
    rw [w64 (by omega) (by omega)]
    omega
  | succ d ih =>
    intro t c h hc ht h1 h2
    obtain ⟨y, c1, h1', e1, y0, y1, q1⟩ := below_f l hl c h hc 2
    have y2 := y1 (by omega)
    refine Rp.step (fun k => by rw [spec_l3any.l0]) (Rp.bind0 e1 ?_)
    refine Rp.both (fun _ => Rp.pos (show t.length < 140737488355328 by omega) ?_) (fun _ => Rp.now (P := WR 100) (r := (3, 0, 0, t, c1, h1')) ⟨⟨⟨i64_three, i64_zero, told_zero, ht, by show t.length ≤ 110; omega⟩, by show t.length ≤ 100; omega⟩, q1⟩)
    exact ih (t ++ [120]) c1 h1' q1 (isB_app ht (fun x hx => by rcases List.mem_cons.1 hx with rfl | hx; decide; cases hx)) (by rw [List.length_append, List.length_cons, List.length_nil]; omega) (by rw [List.length_append, List.length_cons, List.length_nil]; omega)
theorem any_j (l : List Int) (hl : l.length ≤ 1048576) (i h : Int) (hi : 0 ≤ i) (kd n : Int) (b : Nat) (t : List Int) (w : WI kd n b t) (ht : t.length ≤ 40) : Rp (WR 100) (fun k => spec_l3any.j0 k l i h kd n b t) := by
  obtain ⟨x, c1, h1, e1, x0, x1, q1⟩ := below_f l hl i h hi 14
  refine Rp.step (fun k => by rw [spec_l3any.j0]) (Rp.bind0 e1 (Rp.both (fun _ => ?_) (fun _ => Rp.both (fun _ => ?_) (fun _ => Rp.both (fun _ => ?_) (fun _ => Rp.both (fun _ => ?_) (fun _ => Rp.both (fun _ => ?_) (fun _ => Rp.both (fun _ => ?_) (fun _ => Rp.now (P := WR 100) (r := (kd, n, b, t, c1, h1)) ⟨⟨w, (Nat.le_trans ht (by decide))⟩, q1⟩))))))))
  · obtain ⟨y, c2, h2, e2, y0, y1, q2⟩ := below_f l hl c1 h1 q1 7
    exact Rp.bind0 e2 (Rp.now ⟨⟨⟨w64_in _, w.2⟩, (Nat.le_trans ht (by decide))⟩, q2⟩)
  · exact Rp.now ⟨⟨⟨w.1, w64_in _, w.2.2⟩, (Nat.le_trans ht (by decide))⟩, q1⟩
  · obtain ⟨f, c3, h3, e3, hf, q3⟩ := l2float_f l hl c1 h1 q1
    exact Rp.bind e3 (Rp.now ⟨⟨⟨w.1, w.2.1, hf, w.2.2.2⟩, (Nat.le_trans ht (by decide))⟩, q3⟩)
  · refine Rp.thn (some_f l hl c1 h1 q1 3 (by omega)) (fun a ha => ?_)
    have hq := ha.1.2
    have hn : (t ++ a.1).length ≤ 100 := by rw [List.length_append]; omega
    exact Rp.pos (show t.length + a.1.length < 140737488355328 by omega) (Rp.now ⟨⟨⟨w.1, w.2.1, w.2.2.1, isB_app w.2.2.2.1 ha.1.1, Nat.le_trans hn (by decide)⟩, hn⟩, ha.2⟩)
  · exact any_l l hl kd n b 41 t c1 h1 q1 w.2.2.2.1 (by omega) (by omega)
  · exact Rp.now ⟨⟨wi_float _ told_nzero, Nat.zero_le _⟩, q1⟩
theorem any_f (l : List Int) (hl : l.length ≤ 1048576) (i h : Int) (hi : 0 ≤ i) : Rp (WR 100) (fun k => spec_l3any.f k l i h) := by
  unfold spec_l3any.f
  refine Rp.thn (value_f l hl i h hi) (fun a ha => ?_)
  obtain ⟨o, c2, h2, e2, q2⟩ := once_f l hl a.2.2.2.2.1 a.2.2.2.2.2 ha.2 2
  refine Rp.bind0 e2 (Rp.both (fun _ => ?_) (fun _ => any_j l hl c2 h2 q2 _ _ _ _ ha.1.1 ha.1.2))
  exact Rp.thn (key_f l hl c2 h2 q2) (fun b hb => any_j l hl _ _ hb.2 _ _ _ _ hb.1.1 hb.1.2)
theorem lex_neg : ∀ (a b : List Int), lex b a = -lex a b
  | [], [] => rfl
  | [], _ :: _ => rfl
  | _ :: _, [] => rfl
  | x :: a, y :: b => by
    rw [lex, lex, lex_neg a b]
    by_cases h1 : x < y
    · rw [if_neg (by omega), if_pos (by omega), if_pos h1]; rfl
    · by_cases h2 : x > y
      · rw [if_pos (by omega), if_neg h1, if_pos h2]
      · rw [if_neg (by omega), if_neg (by omega), if_neg h1, if_neg h2]
theorem lex_zero : ∀ (a b : List Int), lex a b = 0 → a = b
  | [], [], _ => rfl
  | [], _ :: _, h => absurd h (by rw [lex]; decide)
  | _ :: _, [], h => absurd h (by rw [lex]; decide)
  | x :: a, y :: b, h => by
    rw [lex] at h
    by_cases h1 : x < y
    · rw [if_pos h1] at h; exact absurd h (by decide)
    · by_cases h2 : x > y
      · rw [if_neg h1, if_pos h2] at h; exact absurd h (by decide)
      · rw [if_neg h1, if_neg h2] at h
        rw [show x = y by omega, lex_zero a b h]
theorem less_lex : ∀ (a b : List Int), IsBytes a → IsBytes b → Op.bytesLess (Lib.bytesOf a) (Lib.bytesOf b) = decide (lex a b < 0)
  | [], [], _, _ => rfl
  | [], _ :: _, _, _ => rfl
  | _ :: _, [], _, _ => rfl
  | x :: a, y :: b, ha, hb => by
    have hx := ha x (List.mem_cons_self ..)
    have hy := hb y (List.mem_cons_self ..)
    have ih := less_lex a b (fun z hz => ha z (List.mem_cons_of_mem _ hz)) (fun z hz => hb z (List.mem_cons_of_mem _ hz))
    show Op.bytesLess (UInt8.ofNat x.toNat :: Lib.bytesOf a) (UInt8.ofNat y.toNat :: Lib.bytesOf b) = _
    have lt : (UInt8.ofNat x.toNat < UInt8.ofNat y.toNat ↔ x < y) := by
      rw [UInt8.lt_iff_toNat_lt, UInt8.toNat_ofNat', UInt8.toNat_ofNat']
      omega
    have eq : (UInt8.ofNat x.toNat = UInt8.ofNat y.toNat ↔ x = y) := by
      rw [← UInt8.toNat_inj, UInt8.toNat_ofNat', UInt8.toNat_ofNat']
      omega
    rw [Op.bytesLess, lex, ih]
    by_cases h1 : x < y
    · rw [if_pos h1, decide_eq_true (lt.2 h1)]; rfl
    · rw [if_neg h1, decide_eq_false (fun q => h1 (lt.1 q)), Bool.false_or]
      by_cases h2 : x > y
      · rw [if_pos h2, beq_eq_false_iff_ne.mpr (fun q => by have := eq.1 q; omega), Bool.false_and]; rfl
      · rw [if_neg h2, beq_iff_eq.mpr (eq.2 (by omega)), Bool.true_and]
theorem str_less (a b : List Int) (ha : IsBytes a) (hb : IsBytes b) : Op.bytesLess (strOfNums a).toList (strOfNums b).toList = decide (lex a b < 0) := by
  rw [Lib.strOfNums_toList, Lib.strOfNums_toList]
  exact less_lex a b ha hb
theorem str_inj (a b : List Int) (ha : IsBytes a) (hb : IsBytes b) (h : (strOfNums a).toList = (strOfNums b).toList) : a = b := by
  have h1 := str_less a b ha hb
  have h2 := str_less b a hb ha
  have h3 : ∀ s : List UInt8, Op.bytesLess s s = false := by
    intro s
    induction s with
    | nil => rfl
    | cons x s ih => rw [Op.bytesLess, ih]; simp
  rw [h, h3] at h1
  rw [h, h3] at h2
  have g1 := of_decide_eq_false h1.symm
  have g2 := of_decide_eq_false h2.symm
  rw [lex_neg a b] at g2
  exact lex_zero a b (by omega)
theorem key_isB (kd n : Int) (b : Nat) (t : List Int) (ht : IsBytes t) : IsBytes (kyO kd n b t) := by
  unfold kyO
  split
  · exact itemBytesOf_bytes _ _ _ _ ht
  · exact isB_nil
theorem low_step (a d : Int) (h0 : 0 ≤ a) (h1 : a < 72057594037927936) (g0 : 0 ≤ d) (g1 : d ≤ 255) : Go.bits .or .u64 (IntKind.u64.wrap (a * 256)) (IntKind.u64.wrap d) = a * 256 + d := by
  have e : IntKind.u64.wrap (a * 256) = a * 256 := by simp [IntKind.wrap, IntKind.bits, IntKind.signed]; omega
  have e2 : IntKind.u64.wrap d = d := by simp [IntKind.wrap, IntKind.bits, IntKind.signed]; omega
  rw [e, e2, bits_join .u64 64 (by decide) (fun n a b => by simp [IntKind.wrap, IntKind.bits, IntKind.signed]; omega) 8 (a * 256) d (by omega) (by simp) (by omega) g0 (by omega) (by omega)]
theorem low_cons (c : Int) (l : List Int) (a : Int) (h0 : 0 ≤ a) (h1 : a < 72057594037927936) (g0 : 0 ≤ c) (g1 : c ≤ 255) : lowN (c :: l) a = lowN l (a * 256 + c) := by
  show lowN l (Go.bits .or .u64 (IntKind.u64.wrap (a * 256)) (IntKind.u64.wrap c)) = _
  rw [low_step a c h0 h1 g0 g1]
theorem low_hi (x : Int) (h0 : 0 ≤ x) (h1 : x < 18446744073709551616) : lowN (hi x 8) 0 = x := by
  have e : hi x 8 = [x / 72057594037927936 % 256, x / 281474976710656 % 256, x / 1099511627776 % 256, x / 4294967296 % 256, x / 16777216 % 256, x / 65536 % 256, x / 256 % 256, x / 1 % 256] := rfl
  rw [e, low_cons _ _ _ (by omega) (by omega) (by omega) (by omega), low_cons _ _ _ (by omega) (by omega) (by omega) (by omega), low_cons _ _ _ (by omega) (by omega) (by omega) (by omega), low_cons _ _ _ (by omega) (by omega) (by omega) (by omega), low_cons _ _ _ (by omega) (by omega) (by omega) (by omega), low_cons _ _ _ (by omega) (by omega) (by omega) (by omega), low_cons _ _ _ (by omega) (by omega) (by omega) (by omega), low_cons _ _ _ (by omega) (by omega) (by omega) (by omega)]
  show _ = x
  simp only [lowN]
  omega
def fbI (b : Nat) : Int := if isn b then 9221120237041090560 else (b : Int)
theorem num_back (c n : Int) (h : -9223372036854775808 ≤ n ∧ n ≤ 9223372036854775807) : numOf (c :: hi (turned n) 8) = n := by
  have e : turned n = n + 9223372036854775808 := by unfold turned; omega
  show wrap64 (subSign (lowN (hi (turned n) 8) 0)) = n
  rw [low_hi _ (by omega) (by omega), e]
  unfold subSign
  rw [wrap_mod, show n + 9223372036854775808 - 9223372036854775808 = n by omega]
  unfold wrap64
  omega
theorem rankN_ne {b : Nat} (hn : isn b = false) (hb : b < 2 ^ 64) : 0 ≤ rankOf b ∧ rankOf b < 18446744073709551615 := by
  have h := hn
  unfold isn at h
  have := of_decide_eq_false h
  unfold rankOf
  rw [hn, if_neg Bool.false_ne_true]
  split
  · omega
  · split <;> omega
theorem flt_back (c : Int) (b : Nat) (hb : b < 2 ^ 64) (hz : b ≠ 9223372036854775808) : fltOf (c :: hi (rankOf b) 8) < 2 ^ 64 ∧ fbI (fltOf (c :: hi (rankOf b) 8)) = fbI b ∧ rankOf (fltOf (c :: hi (rankOf b) 8)) = rankOf b ∧ fltOf (c :: hi (rankOf b) 8) ≠ 9223372036854775808 := by
  have hr := rankOf_bound b hb
  have e : fltOf (c :: hi (rankOf b) 8) = (unr (rankOf b).toNat).1 := by
    show (unr (lowN (hi (rankOf b) 8) 0).toNat).1 = _
    rw [low_hi _ hr.1 hr.2]
  rw [e]
  cases hn : isn b with
  | true =>
    have r : rankOf b = 18446744073709551615 := by unfold rankOf; rw [if_pos hn]
    rw [r]
    have u : (unr (18446744073709551615 : Int).toNat).1 = 9221120237041090561 := by unfold unr; rw [if_pos (by decide)]
    rw [u]
    refine ⟨by decide, ?_, by decide, by decide⟩
    unfold fbI
    rw [hn, if_pos rfl, if_pos (by decide)]
  | false =>
    have hr2 := rankN_ne hn hb
    obtain ⟨n, en⟩ := Int.eq_ofNat_of_zero_le hr2.1
    have hbb := of_decide_eq_false (show decide (9218868437227405312 < b % 9223372036854775808) = false from hn)
    have e2 := en
    unfold rankOf at e2
    rw [hn, if_neg Bool.false_ne_true] at e2
    have hq : bU n = b := by
      unfold bU
      rw [if_neg (by omega)]
      split at e2
      · rename_i hz2
        rw [if_pos (by omega)]
        omega
      · split at e2
        · rw [if_pos (by omega)]; omega
        · rw [if_neg (by omega)]; omega
    have u : (unr (rankOf b).toNat).1 = b := by
      rw [en, Int.toNat_natCast]
      unfold unr
      rw [if_neg (by omega), hq, hn, if_neg Bool.false_ne_true]
      unfold unrank
      rw [hq, if_pos en]
    rw [u]
    exact ⟨hb, rfl, rfl, hz⟩
theorem key_parts2 {kd n : Int} {b : Nat} {t : List Int} (h : keyOkP kd n b t = true) : (1 ≤ kd ∧ kd ≤ 3) ∧ t.length ≤ 40 ∧ (kd = 1 ∨ n = 0) ∧ (kd = 2 ∨ b = 0) ∧ (kd = 3 ∨ t = []) ∧ b ≠ 9223372036854775808 := by
  simp only [keyOkP, itemOkP, Bool.and_eq_true, decide_eq_true_eq] at h
  obtain ⟨⟨h1, h2, h3, h4, h5, h6⟩, h7, h8⟩ := h
  refine ⟨⟨by omega, h2⟩, h3, h4, h5, ?_, h8⟩
  rcases h6 with h6 | h6
  · exact Or.inl h6
  · exact Or.inr (List.eq_nil_of_length_eq_zero h6)
theorem key_back (kd n : Int) (b : Nat) (t : List Int) (hb : b < 2 ^ 64) (hn : -9223372036854775808 ≤ n ∧ n ≤ 9223372036854775807) (h : keyOkP kd n b t = true) :
    ∃ u, vrOf (kyO kd n b t) = (kd, n, u, t, true) ∧ u < 2 ^ 64 ∧ fbI u = fbI b := by
  obtain ⟨k1, k2, k3, k4, k5, k6⟩ := key_parts2 h
  have e : kyO kd n b t = kd :: (if kd = 1 then hi (turned n) 8 else if kd = 2 then hi (rankOf b) 8 else t) := by
    unfold kyO itemBytesOf
    rw [if_pos h, show kd % 256 = kd by omega]
  have back : ∀ (u : Nat), kyO kd n u t = kyO kd n b t → readOf (kyO kd n b t) kd n u t = (kd, n, u, t, true) := by
    intro u hu
    unfold readOf
    rw [hu, if_pos rfl]
  by_cases c1 : kd = 1
  · obtain rfl : b = 0 := by omega
    obtain rfl : t = [] := k5.resolve_left (by omega)
    refine ⟨0, ?_, by decide, rfl⟩
    rw [← back 0 rfl]
    rw [e, if_pos c1]
    have hl : (kd :: hi (turned n) 8).length = 9 := by rw [List.length_cons, hi_length]
    have hnum := num_back kd n hn
    unfold vrOf
    rw [if_neg (by omega), rd_cons, if_neg (by omega), if_neg (by omega), if_pos c1, hnum, c1]
  · obtain rfl : n = 0 := by omega
    by_cases c2 : kd = 2
    · obtain rfl : t = [] := k5.resolve_left (by omega)
      obtain ⟨f1, f2, f3, f4⟩ := flt_back kd b hb k6
      refine ⟨fltOf (kd :: hi (rankOf b) 8), ?_, f1, f2⟩
      have hk : kyO kd 0 (fltOf (kd :: hi (rankOf b) 8)) [] = kyO kd 0 b [] := by
        unfold kyO
        have h2 : keyOkP kd 0 (fltOf (kd :: hi (rankOf b) 8)) [] = true := by
          simp only [keyOkP, itemOkP, Bool.and_eq_true, decide_eq_true_eq]
          exact ⟨⟨by omega, by omega, by simp, by simp, Or.inl c2, by simp⟩, by omega, f4⟩
        rw [if_pos h2, if_pos h, f3]
      rw [← back _ hk]
      rw [e, if_neg c1, if_pos c2]
      have hl : (kd :: hi (rankOf b) 8).length = 9 := by rw [List.length_cons, hi_length]
      unfold vrOf
      rw [if_neg (by omega), rd_cons, if_neg (by omega), if_neg (by omega), if_neg c1, if_pos c2, c2]
    · obtain rfl : b = 0 := by omega
      have c3 : kd = 3 := by omega
      refine ⟨0, ?_, by decide, rfl⟩
      rw [← back 0 rfl]
      rw [e, if_neg c1, if_neg c2]
      have hl : (kd :: t).length = t.length + 1 := List.length_cons
      unfold vrOf
      rw [if_neg (by omega), rd_cons, if_pos c3, List.drop_one, List.tail_cons, c3]
theorem value_back (kd n : Int) (b : Nat) (t : List Int) (hb : b < 2 ^ 64) (hn : -9223372036854775808 ≤ n ∧ n ≤ 9223372036854775807) (h : itemOkP kd n b t = true) (h0 : kd ≠ 0) :
    ∃ u, vrV (vlO kd n b t) = (kd, n, u, t, true) ∧ u < 2 ^ 64 ∧ fbI u = fbI b := by
  have hp := h
  simp only [itemOkP, decide_eq_true_eq] at hp
  obtain ⟨p1, p2, p3, p4, p5, p6⟩ := hp
  have k5 : kd = 3 ∨ t = [] := p6.imp id (fun q => List.eq_nil_of_length_eq_zero q)
  have cb : 0 ≤ fbI b ∧ fbI b < 18446744073709551616 := canon_bound b hb
  have e : vlO kd n b t = kd :: (if kd = 1 then hi (turned n) 8 else if kd = 2 then hi (fbI b) 8 else t) := by
    unfold vlO itemBytesOf
    rw [if_pos ⟨h, h0⟩, show kd % 256 = kd by omega]
    rfl
  have back : ∀ (u : Nat), vlO kd n u t = vlO kd n b t → rdV (vlO kd n b t) kd n u t = (kd, n, u, t, true) := by
    intro u hu
    unfold rdV
    rw [hu, if_pos rfl]
  by_cases c1 : kd = 1
  · obtain rfl : b = 0 := by omega
    obtain rfl : t = [] := k5.resolve_left (by omega)
    refine ⟨0, ?_, by decide, rfl⟩
    rw [← back 0 rfl]
    rw [e, if_pos c1]
    have hl : (kd :: hi (turned n) 8).length = 9 := by rw [List.length_cons, hi_length]
    have hnum := num_back kd n hn
    unfold vrV
    rw [if_neg (by omega), rd_cons, if_neg (by omega), if_neg (by omega), if_pos c1, hnum, c1]
  · obtain rfl : n = 0 := by omega
    by_cases c2 : kd = 2
    · obtain rfl : t = [] := k5.resolve_left (by omega)
      have ef : flV (kd :: hi (fbI b) 8) = (fbI b).toNat := by
        show (lowN (hi (fbI b) 8) 0).toNat = _
        rw [low_hi _ cb.1 cb.2]
      have fu : (fbI b).toNat < 2 ^ 64 ∧ fbI (fbI b).toNat = fbI b ∧ ((fbI b).toNat = 0 ↔ b = 0) := by
        unfold fbI
        cases hn : isn b with
        | true =>
          rw [if_pos rfl]
          refine ⟨by decide, by decide, ?_⟩
          constructor
          · intro q; exact absurd q (by decide)
          · intro q; subst q; exact absurd hn (by decide)
        | false =>
          rw [if_neg Bool.false_ne_true, Int.toNat_natCast, hn, if_neg Bool.false_ne_true]
          exact ⟨hb, rfl, Iff.rfl⟩
      refine ⟨(fbI b).toNat, ?_, fu.1, fu.2.1⟩
      have hk : vlO kd 0 (fbI b).toNat [] = vlO kd 0 b [] := by
        unfold vlO
        have h2 : itemOkP kd 0 (fbI b).toNat [] = true := by
          simp only [itemOkP, decide_eq_true_eq]
          exact ⟨p1, p2, by simp, by simp, Or.inl c2, by simp⟩
        rw [if_pos (And.intro h2 h0), if_pos (And.intro h h0)]
        exact congrArg (itemBytesOf kd 0 []) fu.2.1
      rw [← back _ hk]
      rw [e, if_neg c1, if_pos c2]
      have hl : (kd :: hi (fbI b) 8).length = 9 := by rw [List.length_cons, hi_length]
      unfold vrV
      rw [if_neg (by omega), rd_cons, if_neg (by omega), if_neg (by omega), if_neg c1, if_pos c2, ef, c2]
    · obtain rfl : b = 0 := by omega
      have c3 : kd = 3 := by omega
      refine ⟨0, ?_, by decide, rfl⟩
      rw [← back 0 rfl]
      rw [e, if_neg c1, if_neg c2]
      have hl : (kd :: t).length = t.length + 1 := List.length_cons
      unfold vrV
      rw [if_neg (by omega), rd_cons, if_pos c3, List.drop_one, List.tail_cons, c3]
theorem sameItem_u (kd n : Int) (b u : Nat) (t : List Int) (hb : b < 2 ^ 64) (hu : u < 2 ^ 64) (e : fbI u = fbI b) : Ev (fun k => laws_sameItem.f k kd n b t kd n u t) true := by
  unfold laws_sameItem.f
  refine ev_pos rfl (ev_pos rfl (Ev.bind (spec_FloatBits_f b hb) (Ev.bind (spec_FloatBits_f u hu) (ev_pos (show fbI b = fbI u from e.symm) ?_))))
  rw [beq_self_eq_true]
  exact Ev.now _
theorem value_isB (kd n : Int) (b : Nat) (t : List Int) (ht : IsBytes t) : IsBytes (vlO kd n b t) := by
  unfold vlO
  split
  · exact itemBytesOf_bytes _ _ _ _ ht
  · exact isB_nil
theorem isB_tail {l : List Int} (hb : IsBytes l) (n : Nat) : IsBytes (l.drop n) := isB_sub hb (fun x hx => List.mem_of_mem_drop hx)
theorem vrOf_isB (l : List Int) (hb : IsBytes l) : IsBytes (vrOf l).2.2.2.1 := by
  unfold vrOf readOf
  repeat' split
  all_goals first | exact isB_nil | exact isB_tail hb 1
theorem vrV_isB (l : List Int) (hb : IsBytes l) : IsBytes (vrV l).2.2.2.1 := by
  unfold vrV rdV
  repeat' split
  all_goals first | exact isB_nil | exact isB_tail hb 1
theorem vrOf_true {l : List Int} {kd n : Int} {u : Nat} {t : List Int} (h : vrOf l = (kd, n, u, t, true)) : (strOfNums (kyO kd n u t)).toList = (strOfNums l).toList := by
  unfold vrOf readOf at h
  repeat' split at h
  all_goals first | (simp [zItem] at h; done) | (simp only [Prod.mk.injEq] at h; obtain ⟨rfl, rfl, rfl, rfl, _⟩ := h; assumption)
theorem vrV_true {l : List Int} {kd n : Int} {u : Nat} {t : List Int} (h : vrV l = (kd, n, u, t, true)) : (strOfNums (vlO kd n u t)).toList = (strOfNums l).toList := by
  unfold vrV rdV at h
  repeat' split at h
  all_goals first | (simp [zItem] at h; done) | (simp only [Prod.mk.injEq] at h; obtain ⟨rfl, rfl, rfl, rfl, _⟩ := h; assumption)
theorem pn4 (x : Int) (h0 : 0 ≤ x) (h1 : x ≤ 400) : pn x 4 = [x % 256, x / 256 % 256, x / 256 / 256 % 256, x / 256 / 256 / 256 % 256] := by
  unfold pn
  rw [if_pos ⟨by omega, h0, by show x / 256 ^ 4 = 0; omega⟩]
  rfl
theorem pn4_isB (x : Int) : IsBytes (pn x 4) := by
  unfold pn
  split
  · exact le_bytes _ _
  · exact isB_nil
theorem tuple_isB (x y ka kb : Int) (kf : Nat) (kt : List Int) (va vb : Int) (vf : Nat) (vt : List Int) (hk : IsBytes kt) (hv : IsBytes vt) : IsBytes (tuB x y ka kb kf kt va vb vf vt) := by
  unfold tuB
  split
  · exact isB_app (isB_app (isB_app (isB_app (isB_app (pn4_isB x) (pn4_isB y)) (isB_one _)) (key_isB _ _ _ _ hk)) (isB_one _)) (value_isB _ _ _ _ hv)
  · exact isB_nil
theorem tuple_parts {x y ka kb : Int} {kf : Nat} {kt : List Int} {va vb : Int} {vf : Nat} {vt : List Int} (h : tupleOkP x y ka kb kf kt va vb vf vt = true) : (1 ≤ x ∧ x ≤ 400) ∧ (0 ≤ y ∧ y ≤ 400) ∧ keyOkP ka kb kf kt = true ∧ itemOkP va vb vf vt = true ∧ va ≠ 0 := by
  simp only [tupleOkP, Bool.and_eq_true, decide_eq_true_eq, bne_iff_ne] at h
  exact ⟨h.1.1.1.1, h.1.1.1.2, h.1.1.2, h.1.2, h.2⟩
theorem tuple_eq {x y ka kb : Int} {kf : Nat} {kt : List Int} {va vb : Int} {vf : Nat} {vt : List Int} (h : tupleOkP x y ka kb kf kt va vb vf vt = true) :
    tuB x y ka kb kf kt va vb vf vt = (x % 256) :: (x / 256 % 256) :: (x / 256 / 256 % 256) :: (x / 256 / 256 / 256 % 256) :: (y % 256) :: (y / 256 % 256) :: (y / 256 / 256 % 256) :: (y / 256 / 256 / 256 % 256) :: ((kyO ka kb kf kt).length : Int) :: (kyO ka kb kf kt ++ ((vlO va vb vf vt).length : Int) :: vlO va vb vf vt) := by
  obtain ⟨p1, p2, _⟩ := tuple_parts h
  have l3 := key_len ka kb kf kt
  have l4 := value_len va vb vf vt
  unfold tuB
  rw [h, if_pos rfl, pn4 x (by omega) p1.2, pn4 y p2.1 p2.2, show ((kyO ka kb kf kt).length : Int) % 256 = (kyO ka kb kf kt).length by omega, show ((vlO va vb vf vt).length : Int) % 256 = (vlO va vb vf vt).length by omega]
  simp only [List.append_assoc, List.cons_append, List.nil_append]
theorem value_pos {va vb : Int} {vf : Nat} {vt : List Int} (h : itemOkP va vb vf vt = true) (h0 : va ≠ 0) : 1 ≤ (vlO va vb vf vt).length := by
  unfold vlO itemBytesOf
  rw [if_pos ⟨h, h0⟩, List.length_cons]
  omega
theorem key_pos {va vb : Int} {vf : Nat} {vt : List Int} (h : keyOkP va vb vf vt = true) : 1 ≤ (kyO va vb vf vt).length := by
  unfold kyO itemBytesOf
  rw [if_pos h, List.length_cons]
  omega
theorem rd_mid (K V : List Int) (v a0 a1 a2 a3 a4 a5 a6 a7 a8 : Int) : rd (a0 :: a1 :: a2 :: a3 :: a4 :: a5 :: a6 :: a7 :: a8 :: (K ++ v :: V)) (9 + (K.length : Int)) = v := by
  unfold rd
  rw [show (9 + (K.length : Int)).toNat = K.length + 9 by omega]
  show (K ++ v :: V).getD K.length 0 = v
  simp [List.getD_eq_getElem?_getD]
theorem tuple_shape {x y ka kb : Int} {kf : Nat} {kt : List Int} {va vb : Int} {vf : Nat} {vt : List Int} (h : tupleOkP x y ka kb kf kt va vb vf vt = true) :
    (tuB x y ka kb kf kt va vb vf vt).length = 10 + (kyO ka kb kf kt).length + (vlO va vb vf vt).length ∧ rd (tuB x y ka kb kf kt va vb vf vt) 8 = (kyO ka kb kf kt).length ∧ rd (tuB x y ka kb kf kt va vb vf vt) (9 + ((kyO ka kb kf kt).length : Int)) = (vlO va vb vf vt).length := by
  rw [tuple_eq h]
  refine ⟨?_, rfl, rd_mid _ _ _ _ _ _ _ _ _ _ _ _⟩
  simp only [List.length_cons, List.length_append]
  omega
theorem rd_take (l : List Int) (n : Nat) (i : Int) (h0 : 0 ≤ i) (h : i < n) : rd (l.take n) i = rd l i := by
  unfold rd
  rw [List.getD_eq_getElem?_getD, List.getD_eq_getElem?_getD, List.getElem?_take_of_lt (by omega)]
theorem tuple_back {x y ka kb : Int} {kf : Nat} {kt : List Int} {va vb : Int} {vf : Nat} {vt : List Int} (h : tupleOkP x y ka kb kf kt va vb vf vt = true) (b1 : kf < 2 ^ 64) (b2 : vf < 2 ^ 64) (i1 : IsI64 kb) (i2 : IsI64 vb) (hk : IsBytes kt) (hv : IsBytes vt) :
    ∃ u v, trOf (tuB x y ka kb kf kt va vb vf vt) = (x, y, ka, kb, u, kt, va, vb, v, vt, true) ∧ (u < 2 ^ 64 ∧ fbI u = fbI kf) ∧ (v < 2 ^ 64 ∧ fbI v = fbI vf) := by
  obtain ⟨p1, p2, p3, p4, p5⟩ := tuple_parts h
  obtain ⟨u, e1, u1, u2⟩ := key_back ka kb kf kt b1 i1 p3
  obtain ⟨v, e2, v1, v2⟩ := value_back va vb vf vt b2 i2 p4 p5
  refine ⟨u, v, ?_, ⟨u1, u2⟩, v1, v2⟩
  have l3 := key_len ka kb kf kt
  have l4 := value_len va vb vf vt
  have n3 := key_pos p3
  have n4 := value_pos p4 p5
  obtain ⟨s1, s2, s3⟩ := tuple_shape h
  have kk : kyO ka kb u kt = kyO ka kb kf kt := str_inj _ _ (key_isB _ _ _ _ hk) (key_isB _ _ _ _ hk) (vrOf_true e1)
  have vv : vlO va vb v vt = vlO va vb vf vt := str_inj _ _ (value_isB _ _ _ _ hv) (value_isB _ _ _ _ hv) (vrV_true e2)
  have ok1 : keyOkP ka kb u kt = true := by
    cases q : keyOkP ka kb u kt with
    | true => rfl
    | false =>
      exfalso
      have : (kyO ka kb u kt).length = 0 := by
        unfold kyO
        rw [q]
        rfl
      rw [kk] at this
      omega
  have ok2 : itemOkP va vb v vt = true := by
    cases q : itemOkP va vb v vt with
    | true => rfl
    | false =>
      exfalso
      have : (vlO va vb v vt).length = 0 := by
        unfold vlO
        rw [q, if_neg (fun z => absurd z.1 Bool.false_ne_true)]
        rfl
      rw [vv] at this
      omega
  have hq : tupleOkP x y ka kb u kt va vb v vt = true := by
    simp only [tupleOkP, Bool.and_eq_true, decide_eq_true_eq, bne_iff_ne]
    exact ⟨⟨⟨⟨p1, p2⟩, ok1⟩, ok2⟩, p5⟩
  have same : tuB x y ka kb u kt va vb v vt = tuB x y ka kb kf kt va vb vf vt := by rw [tuple_eq hq, tuple_eq h, kk, vv]
  have ky : kyB (tuB x y ka kb kf kt va vb vf vt) = kyO ka kb kf kt := by
    unfold kyB
    rw [s2, tuple_eq h, show (9 + ((kyO ka kb kf kt).length : Int)).toNat = (kyO ka kb kf kt).length + 9 by omega]
    show List.take (kyO ka kb kf kt).length (kyO ka kb kf kt ++ _) = _
    exact List.take_left' rfl
  have vl : vlB (tuB x y ka kb kf kt va vb vf vt) = vlO va vb vf vt := by
    unfold vlB
    rw [s2, tuple_eq h, show (10 + ((kyO ka kb kf kt).length : Int)).toNat = ((kyO ka kb kf kt).length + 1) + 9 by omega]
    show List.drop ((kyO ka kb kf kt).length + 1) (kyO ka kb kf kt ++ ((vlO va vb vf vt).length : Int) :: vlO va vb vf vt) = _
    rw [show kyO ka kb kf kt ++ ((vlO va vb vf vt).length : Int) :: vlO va vb vf vt = (kyO ka kb kf kt ++ [((vlO va vb vf vt).length : Int)]) ++ vlO va vb vf vt by simp]
    exact List.drop_left' (by simp)
  have gx : gv (tuB x y ka kb kf kt va vb vf vt) 0 4 = x := by
    rw [tuple_eq h]
    show x % 256 + 256 * (x / 256 % 256 + 256 * (x / 256 / 256 % 256 + 256 * (x / 256 / 256 / 256 % 256 + 256 * 0))) = x
    omega
  have gy : gv (tuB x y ka kb kf kt va vb vf vt) 4 4 = y := by
    rw [tuple_eq h]
    show y % 256 + 256 * (y / 256 % 256 + 256 * (y / 256 / 256 % 256 + 256 * (y / 256 / 256 / 256 % 256 + 256 * 0))) = y
    omega
  unfold trOf
  rw [if_neg (by omega), if_neg (by omega), ky, vl, gx, gy, e1, e2]
  unfold restT bytesT
  rw [if_pos ⟨rfl, rfl, by rw [same]⟩]
  rfl
theorem tuple_short {x y ka kb : Int} {kf : Nat} {kt : List Int} {va vb : Int} {vf : Nat} {vt : List Int} (h : tupleOkP x y ka kb kf kt va vb vf vt = true) (B : List Int) (hB : B = (tuB x y ka kb kf kt va vb vf vt).take ((tuB x y ka kb kf kt va vb vf vt).length - 1)) (hb : IsBytes B) : (trOf B).2.2.2.2.2.2.2.2.2.2 = false := by
  obtain ⟨p1, p2, p3, p4, p5⟩ := tuple_parts h
  have n4 := value_pos p4 p5
  obtain ⟨s1, s2, s3⟩ := tuple_shape h
  have hl : B.length = 9 + (kyO ka kb kf kt).length + (vlO va vb vf vt).length := by rw [hB, List.length_take]; omega
  unfold trOf
  split
  · rfl
  · rename_i c1
    split
    · rfl
    · unfold restT
      split
      · rename_i c2 c
        exfalso
        have bk : IsBytes (kyB B) := isB_sub hb (fun x hx => List.mem_of_mem_take (List.mem_of_mem_drop hx))
        have bv : IsBytes (vlB B) := isB_sub hb (fun x hx => List.mem_of_mem_drop hx)
        have e := str_inj _ _ (tuple_isB _ _ _ _ _ _ _ _ _ _ (vrOf_isB _ bk) (vrV_isB _ bv)) hb c.2.2
        cases q : tupleOkP (gv B 0 4) (gv B 4 4) (vrOf (kyB B)).1 (vrOf (kyB B)).2.1 (vrOf (kyB B)).2.2.1 (vrOf (kyB B)).2.2.2.1 (vrV (vlB B)).1 (vrV (vlB B)).2.1 (vrV (vlB B)).2.2.1 (vrV (vlB B)).2.2.2.1 with
        | false =>
          have z := tuple_bad _ _ _ _ _ _ _ _ _ _ q
          have : B.length = 0 := by rw [← e]; exact z
          omega
        | true =>
          obtain ⟨r1, r2, r3⟩ := tuple_shape q
          have e' : tuB (gv B 0 4) (gv B 4 4) (vrOf (kyB B)).1 (vrOf (kyB B)).2.1 (vrOf (kyB B)).2.2.1 (vrOf (kyB B)).2.2.2.1 (vrV (vlB B)).1 (vrV (vlB B)).2.1 (vrV (vlB B)).2.2.1 (vrV (vlB B)).2.2.2.1 = B := e
          rw [e'] at r1 r2 r3
          generalize (kyO (vrOf (kyB B)).1 (vrOf (kyB B)).2.1 (vrOf (kyB B)).2.2.1 (vrOf (kyB B)).2.2.2.1).length = lk at r1 r2 r3
          generalize (vlO (vrV (vlB B)).1 (vrV (vlB B)).2.1 (vrV (vlB B)).2.2.1 (vrV (vlB B)).2.2.2.1).length = lv at r1 r2 r3
          have t1 : rd B 8 = (kyO ka kb kf kt).length := by rw [hB, rd_take _ _ _ (by omega) (by omega), s2]
          have t2 : rd B (9 + ((kyO ka kb kf kt).length : Int)) = (vlO va vb vf vt).length := by rw [hB, rd_take _ _ _ (by omega) (by omega), s3]
          have t3 : (lk : Int) = (kyO ka kb kf kt).length := by rw [← r2, t1]
          rw [t3, t2] at r3
          omega
      · rfl
abbrev TT := Int × Int × Int × Int × Nat × List Int × Int × Int × Nat × List Int
def WT (r : TT) : Prop := (r.1 ≤ 1000 ∧ r.2.1 ≤ 1000) ∧ WI r.2.2.1 r.2.2.2.1 r.2.2.2.2.1 r.2.2.2.2.2.1 ∧ WI r.2.2.2.2.2.2.1 r.2.2.2.2.2.2.2.1 r.2.2.2.2.2.2.2.2.1 r.2.2.2.2.2.2.2.2.2
abbrev TTC := Int × Int × Int × Int × Nat × List Int × Int × Int × Nat × List Int × Int × Int
def WTC (r : TTC) : Prop := ((r.1 ≤ 1000 ∧ r.2.1 ≤ 1000) ∧ WI r.2.2.1 r.2.2.2.1 r.2.2.2.2.1 r.2.2.2.2.2.1 ∧ WI r.2.2.2.2.2.2.1 r.2.2.2.2.2.2.2.1 r.2.2.2.2.2.2.2.2.1 r.2.2.2.2.2.2.2.2.2.1) ∧ 0 ≤ r.2.2.2.2.2.2.2.2.2.2.1
theorem l6tuple_f (l : List Int) (hl : l.length ≤ 1048576) (i h : Int) (hi : 0 ≤ i) : Rp WTC (fun k => spec_l6tuple.f k l i h) := by
  unfold spec_l6tuple.f
  obtain ⟨x, c1, h1, e1, x0, x1, q1⟩ := below_f l hl i h hi 9
  have x2 := x1 (by omega)
  have wx : wrap64 (1 + x) = 1 + x := w64 (by omega) (by omega)
  refine Rp.bind0 e1 (Rp.thn (key_f l hl c1 h1 q1) (fun a ha => Rp.thn (value_f l hl _ _ ha.2) (fun b hb => ?_)))
  obtain ⟨o, c2, h2, e2, q2⟩ := once_f l hl _ b.2.2.2.2.2 hb.2 3
  refine Rp.bind0 e2 (Rp.both (fun _ => ?_) (fun _ => ?_))
  · obtain ⟨y, c3, h3, e3, y0, y1, q3⟩ := below_f l hl c2 h2 q2 9
    have y2 := y1 (by omega)
    have wy : wrap64 (1 + y) = 1 + y := w64 (by omega) (by omega)
    exact Rp.bind0 e3 (Rp.now (P := WTC) (r := (wrap64 (1 + x), wrap64 (1 + y), a.1, a.2.1, a.2.2.1, a.2.2.2.1, b.1, b.2.1, b.2.2.1, b.2.2.2.1, c3, h3)) ⟨⟨⟨by show wrap64 (1 + x) ≤ 1000; omega, by show wrap64 (1 + y) ≤ 1000; omega⟩, ha.1.1, hb.1.1⟩, q3⟩)
  · exact Rp.now (P := WTC) (r := (wrap64 (1 + x), 0, a.1, a.2.1, a.2.2.1, a.2.2.2.1, b.1, b.2.1, b.2.2.1, b.2.2.2.1, c2, h2)) ⟨⟨⟨by show wrap64 (1 + x) ≤ 1000; omega, by show (0 : Int) ≤ 1000; omega⟩, ha.1.1, hb.1.1⟩, q2⟩
theorem DrawTupleBytes_f (l : List Int) (hl : l.length ≤ 1048576) : Rp WT (fun k => spec_DrawTupleBytes.f k l) := by
  unfold spec_DrawTupleBytes.f
  obtain ⟨h, e0⟩ := l1New_f l hl
  refine Rp.bind e0 (Rp.thn (l6tuple_f l hl 0 h (by omega)) (fun a ha => ?_))
  obtain ⟨o, c2, h2, e2, q2⟩ := once_f l hl _ a.2.2.2.2.2.2.2.2.2.2.2 ha.2 8
  refine Rp.bind0 e2 (Rp.both (fun _ => ?_) (fun _ => Rp.now (P := WT) (r := (a.1, a.2.1, a.2.2.1, a.2.2.2.1, a.2.2.2.2.1, a.2.2.2.2.2.1, a.2.2.2.2.2.2.1, a.2.2.2.2.2.2.2.1, a.2.2.2.2.2.2.2.2.1, a.2.2.2.2.2.2.2.2.2.1)) ha.1))
  exact Rp.thn (any_f l hl c2 h2 q2) (fun d hd => Rp.now (P := WT) (r := (a.1, a.2.1, d.1, d.2.1, d.2.2.1, d.2.2.2.1, a.2.2.2.2.2.2.1, a.2.2.2.2.2.2.2.1, a.2.2.2.2.2.2.2.2.1, a.2.2.2.2.2.2.2.2.2.1)) ⟨ha.1.1, hd.1.1, ha.1.2.2⟩)
theorem main : laws_FnTuples.Pure := by
  intro l hm hs hw
  refine Ev.rounds ?_
  unfold laws_FnTuples.f
  by_cases hl : l.length ≤ 1048576
  case neg => exact ev_bind0 (a := true) (by unfold laws_big.f; rw [decide_eq_true (by omega)]) (ev_pos rfl (Ev.now _))
  refine ev_bind0 (a := false) (by unfold laws_big.f; rw [decide_eq_false (by omega)]) (ev_neg (fun h => by cases h) ?_)
  obtain ⟨r, e, w0, w1, w2⟩ := DrawTupleBytes_f l hl
  obtain ⟨x, y, ka, kb, kf, kt, va, vb, vf, vt⟩ := r
  dsimp only at w0 w1 w2
  have lt1 : kt.length ≤ 1048576 := by have := w1.2.2.2.2; omega
  have lt2 : vt.length ≤ 1048576 := by have := w2.2.2.2.2; omega
  refine Ev.bind e (Ev.bind (impl_TupleBytes_f x y ka kb kf kt va vb vf vt w1.2.2.1.1 w2.2.2.1.1 lt1 lt2 (by omega) (by omega)) (Ev.bind (spec_TupleOk_f x y ka kb kf kt va vb vf vt w1.2.2.1.1 w2.2.2.1.1) ?_))
  dsimp only
  cases q : tupleOkP x y ka kb kf kt va vb vf vt with
  | false =>
    have z := tuple_bad _ _ _ _ _ _ _ _ _ _ q
    refine ev_neg Bool.false_ne_true (ev_pos (by omega) (ev_bind0 (impl_TupleOk_f x y ka kb kf kt va vb vf vt w1.2.2.1.1) ?_))
    rw [q]
    exact Ev.now _
  | true =>
    obtain ⟨p1, p2, p3, p4, p5⟩ := tuple_parts q
    have n3 := key_pos p3
    have n4 := value_pos p4 p5
    obtain ⟨s1, s2, s3⟩ := tuple_shape q
    have tl := tuple_len x y ka kb kf kt va vb vf vt
    have tb := tuple_isB x y ka kb kf kt va vb vf vt w1.2.2.2.1 w2.2.2.2.1
    obtain ⟨u, v, eb, ⟨u1, u2⟩, v1, v2⟩ := tuple_back q w1.2.2.1.1 w2.2.2.1.1 w1.2.1 w2.2.1 w1.2.2.2.1 w2.2.2.2.1
    have wl : wrap64 (((tuB x y ka kb kf kt va vb vf vt).length : Int) - 1) = ((tuB x y ka kb kf kt va vb vf vt).length : Int) - 1 := w64 (by omega) (by omega)
    have sb : IsBytes ((tuB x y ka kb kf kt va vb vf vt).take ((tuB x y ka kb kf kt va vb vf vt).length - 1)) := isB_sub tb (fun z hz => List.mem_of_mem_take hz)
    have sh := tuple_short q _ rfl sb
    have r1 := impl_TupleRead_f _ tb (by omega)
    have r2 := impl_TupleRead_f _ sb (by rw [List.length_take]; omega)
    rw [eb] at r1
    refine ev_pos rfl (Ev.bind r1 ?_)
    rw [wl, show ((((tuB x y ka kb kf kt va vb vf vt).length : Int) - 1) : Int).toNat = (tuB x y ka kb kf kt va vb vf vt).length - 1 by omega]
    refine ev_pos (by omega) (ev_pos (by omega) (Ev.bind r2 ?_))
    dsimp only
    rw [sh]
    refine ev_pos rfl (Ev.bind (a := true) ?_ (ev_pos rfl (ev_pos (by omega) (ev_pos (by omega) (Ev.now _)))))
    unfold laws_sameTuple.f
    exact ev_pos rfl (ev_pos rfl (Ev.bind (sameItem_u ka kb kf u kt w1.2.2.1.1 u1 u2) (ev_pos rfl (Ev.bind (sameItem_u va vb vf v vt w2.2.2.1.1 v1 v2) (Ev.now _)))))
end Go.Proofs.Ytjjkhlphdbmdfaa.Pure.ofFnTuples
namespace Go.Proofs.Ytjjkhlphdbmdfaa.PrintWords
abbrev sized_ints := @Go.Proofs.YtjjkhlphdbmdfaaW.PrintWords.sized_ints
end Go.Proofs.Ytjjkhlphdbmdfaa.PrintWords
namespace Go.Proofs.Ytjjkhlphdbmdfaa.Pure
open Go.Proofs.Ytjjkhlphdbmdfaa.PFnTuples
theorem FnTuples : laws_FnTuples.Pure := ofFnTuples.main
end Go.Proofs.Ytjjkhlphdbmdfaa.Pure
