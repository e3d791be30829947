/-
The law FnExactInSpan answers true: for all items the program's InSpan gives the reference's answer, and the items stay as they were.
Conditions: none beyond the bounds of the statement itself.
-/
import Derived.Test.YtcjeokkhpjppaaaPFnExactInSpanx6
import Derived.Test.YtcjeokkhpjppaaaWSized
import Derived.Test.YtcjeokkhpjppaaaXIeee
set_option linter.unusedVariables false
set_option linter.unusedSimpArgs false
namespace Go.Proofs.Ytcjeokkhpjppaaa.Pure.ofFnExactInSpan
open Go.Proofs.YtcjeokkhpjppaaaX
open Go.RowKit Go.Proofs.Ytcjeokkhpjppaaa.PFnExactInSpan Go.Proofs.YtcjeokkhpjppaaaW.PrintWords Go.Proofs.YtcjeokkhpjppaaaW.PrintLast Go.Proofs.YtcjeokkhpjppaaaW.PrintMore

theorem ev_pos {α : Type} {c : Prop} [Decidable c] {A B : Nat → Option α} {r : α} (hc : c) (h : Ev A r) : Ev (fun k => if c then A k else B k) r := by
  refine Ev.congr (fun k => ?_) h
  rw [if_pos hc]
theorem ev_neg {α : Type} {c : Prop} [Decidable c] {A B : Nat → Option α} {r : α} (hc : ¬ c) (h : Ev B r) : Ev (fun k => if c then A k else B k) r := by
  refine Ev.congr (fun k => ?_) h
  rw [if_neg hc]
theorem ev_bind0 {α β : Type} {g : Option α} {f : Nat → α → Option β} {a : α} {r : β} (h : g = some a) (k : Ev (fun n => f n a) r) : Ev (fun n => g.bind (f n)) r := by
  refine Ev.congr (fun n => ?_) k
  rw [h]; rfl
theorem w64 {x : Int} (h0 : -9223372036854775808 ≤ x) (h1 : x ≤ 9223372036854775807) : wrap64 x = x := by
  unfold wrap64; omega
theorem rd_cons (x : Int) (l : List Int) : rd (x :: l) 0 = x := rfl
theorem rd_nat (l : List Int) (i : Nat) (h : i < l.length) : rd l (i : Int) = l[i] := by
  simp [rd, List.getD_eq_getElem?_getD, List.getElem?_eq_getElem h]
theorem rd_at (l : List Int) (i : Int) (h0 : 0 ≤ i) (h : i < l.length) : ∃ x, x ∈ l ∧ rd l i = x := by
  obtain ⟨n, rfl⟩ := Int.eq_ofNat_of_zero_le h0
  exact ⟨l[n]'(by omega), List.getElem_mem _, rd_nat l n (by omega)⟩
def marks (m : Int) : Nat → List Int
  | 0 => []
  | n + 1 => m :: marks (m + 1) n
def marksB (m : Int) : Nat → List Int
  | 0 => []
  | n + 1 => (m % 256) :: marksB (m + 1) n
theorem marks_length (n : Nat) : ∀ m, (marks m n).length = n := by
  induction n with
  | zero => intro m; rfl
  | succ n ih => intro m; simp [marks, ih]
theorem marksB_length (n : Nat) : ∀ m, (marksB m n).length = n := by
  induction n with
  | zero => intro m; rfl
  | succ n ih => intro m; simp [marksB, ih]
theorem marks_get (n : Nat) : ∀ m (i : Nat) (h : i < (marks m n).length), (marks m n)[i] = m + i := by
  induction n with
  | zero => intro m i h; simp [marks] at h
  | succ n ih =>
    intro m i h
    cases i with
    | zero => simp [marks]
    | succ i => simp only [marks, List.getElem_cons_succ]; rw [ih]; push_cast; omega
theorem marksB_get (n : Nat) : ∀ m (i : Nat) (h : i < (marksB m n).length), (marksB m n)[i] = (m + i) % 256 := by
  induction n with
  | zero => intro m i h; simp [marksB] at h
  | succ n ih =>
    intro m i h
    cases i with
    | zero => simp [marksB]
    | succ i => simp only [marksB, List.getElem_cons_succ]; rw [ih]; push_cast; omega

theorem u64_or_add (i : Nat) {x y : Int} (hx0 : 0 ≤ x) (hx : x % 2 ^ i = 0) (hx1 : x < 18446744073709551616) (hy0 : 0 ≤ y) (hy : y < 2 ^ i) (hy1 : y < 18446744073709551616) : Go.bits .or .u64 x y = x + y :=
  bits_join .u64 64 (by decide) (fun n a b => by simp [IntKind.wrap, IntKind.bits, IntKind.signed]; omega) i x y hx0 hx hx1 hy0 hy hy1
theorem fival_u64 (a : Nat) (n : Int) (h : (Ieee.double.read a).toInt .zero = some n) (h0 : 0 ≤ n) (h1 : n < 18446744073709551616) : fiok .u64 a = true ∧ fival .u64 a = n := by
  have e : floatToIntVal .f64 a .u64 = some n := by
    unfold floatToIntVal
    have : FloatKind.decode .f64 a = Ieee.double.read a := rfl
    rw [this, h]
    have e1 : IntKind.u64.min = 0 := by rfl
    have e2 : IntKind.u64.max = 18446744073709551615 := by rfl
    exact if_pos ⟨by omega, by omega⟩
  unfold fiok fival
  rw [e]
  exact ⟨rfl, rfl⟩
theorem fls_nat (a b : Nat) (ha : a ≤ 9218868437227405312) (hb : b ≤ 9218868437227405312) : fls a b = decide (a < b) := by
  rw [fls_key a b (by omega) (by omega) (isn_pos a ha) (isn_pos b hb), fkey_pos a (by omega), fkey_pos b (by omega)]
  exact decide_eq_decide.2 (by omega)
theorem fge_nat (a b : Nat) (ha : a ≤ 9218868437227405312) (hb : b ≤ 9218868437227405312) : fge a b = decide (b ≤ a) := by
  rw [fge_key a b (by omega) (by omega) (isn_pos a ha) (isn_pos b hb), fkey_pos a (by omega), fkey_pos b (by omega)]
  exact decide_eq_decide.2 (by omega)
theorem fgt_nat (a b : Nat) (ha : a ≤ 9218868437227405312) (hb : b ≤ 9218868437227405312) : fgt a b = decide (b < a) := by
  rw [fgt_key a b (by omega) (by omega) (isn_pos a ha) (isn_pos b hb), fkey_pos a (by omega), fkey_pos b (by omega)]
  exact decide_eq_decide.2 (by omega)
theorem feq_nat (a b : Nat) (ha : a ≤ 9218868437227405312) (hb : b ≤ 9218868437227405312) : feq a b = decide (a = b) := by
  rw [feq_key a b (by omega) (by omega) (isn_pos a ha) (isn_pos b hb), fkey_pos a (by omega), fkey_pos b (by omega)]
  exact decide_eq_decide.2 (by omega)
theorem lt_one (N : Nat) (q : Int) (h : 0 < N) (h2 : N < 2 ^ 53) (hq : -1074 ≤ q) (hv : q + N.log2 ≤ 1023) : fls (fl N q) 4607182418800017408 = decide (q + N.log2 < 0) := by
  rw [fls_nat _ _ (fl_lt N q h h2 hq).2 (by omega)]
  have := fl_below N q h h2 hq hv 1022 (by omega)
  exact decide_eq_decide.2 (by omega)
theorem ge_two (N : Nat) (q : Int) (h : 0 < N) (h2 : N < 2 ^ 53) (hq : -1074 ≤ q) (hv : q + N.log2 ≤ 1023) : fge (fl N q) 4611686018427387904 = decide (1 ≤ q + N.log2) := by
  rw [fge_nat _ _ (fl_lt N q h h2 hq).2 (by omega)]
  have := fl_below N q h h2 hq hv 1023 (by omega)
  exact decide_eq_decide.2 (by omega)
theorem pow_mod (a b k : Nat) (h : k ≤ b) : ((a * 2 ^ b : Nat) : Int) % 2 ^ k = 0 := by
  obtain ⟨c, rfl⟩ := Nat.le.dest h
  rw [Nat.pow_add]
  have : ((a * (2 ^ k * 2 ^ c) : Nat) : Int) = ((a * 2 ^ c : Nat) : Int) * 2 ^ k := by push_cast; rw [Int.mul_assoc, Int.mul_comm (2 ^ c : Int)]
  rw [this]
  exact Int.mul_emod_left _ _
/-- the last step where the float stands in [1, 2) -/
theorem bits_unit (S : Int) (hS : S = 0 ∨ S = 9223372036854775808) (N : Nat) (q : Int) (h : 0 < N) (h2 : N < 2 ^ 53) (hq : -1074 ≤ q) (hv : q + N.log2 ≤ 1023) (E : Int) (hE : -1022 ≤ E) (hE2 : q + N.log2 = E) : Ev (fun k => spec_FloatBits.l1 k S (fl N (q - E)) E) (S + (fl N q : Nat)) := by
  have hlog := log2_le N h h2
  have hfin := fl_finite N q h h2 hq hv
  have hself : 2 ^ N.log2 ≤ N := Nat.log2_self_le (by omega)
  have hup : N < 2 ^ (N.log2 + 1) := Nat.lt_log2_self
  have hL : lastOf N q = E - 52 := by unfold lastOf; omega
  rw [hL] at hfin
  have hsub := sub_one N h h2
  rw [show q - E = -(N.log2 : Int) by omega]
  refine Ev.step (fun k => by rw [spec_FloatBits.l1, if_neg (by rw [lt_one N _ h h2 (by omega) (by omega), decide_eq_false (by omega)]; exact Bool.false_ne_true)]) ?_
  have hs := fl_ok (o := .sub) hsub
  refine ev_pos hs.1 ?_
  rw [hs.2]
  have key : fok .mul (if N = 2 ^ N.log2 then 0 else fl (N - 2 ^ N.log2) (-(N.log2 : Int))) 4841369599423283200 = true ∧ fiok .u64 (fval .mul (if N = 2 ^ N.log2 then 0 else fl (N - 2 ^ N.log2) (-(N.log2 : Int))) 4841369599423283200) = true ∧ fival .u64 (fval .mul (if N = 2 ^ N.log2 then 0 else fl (N - 2 ^ N.log2) (-(N.log2 : Int))) 4841369599423283200) = ((N - 2 ^ N.log2) * 2 ^ (52 - N.log2) : Nat) := by
    have hb : (N - 2 ^ N.log2) * 2 ^ (52 - N.log2) < 4503599627370496 := by
      have h3 : N - 2 ^ N.log2 < 2 ^ N.log2 := by rw [Nat.pow_succ] at hup; omega
      have h4 : (N - 2 ^ N.log2) * 2 ^ (52 - N.log2) < 2 ^ N.log2 * 2 ^ (52 - N.log2) := Nat.mul_lt_mul_of_pos_right h3 (Nat.two_pow_pos _)
      rw [← Nat.pow_add, show N.log2 + (52 - N.log2) = 52 by omega] at h4
      exact h4
    by_cases hz : N = 2 ^ N.log2
    · rw [if_pos hz, show N - 2 ^ N.log2 = 0 by omega, Nat.zero_mul]
      have hm := fl_ok (o := .mul) (a := 0) (b := 4841369599423283200) (r := 0) (by
        show Ieee.double.mul 0 4841369599423283200 = some 0
        unfold Ieee.Format.mul
        rw [read_zero, read_wide]
        show some (Ieee.double.write (.number false (0 * 4503599627370496) _)) = _
        rw [Nat.zero_mul, write_zero, word_false])
      rw [hm.2]
      exact ⟨hm.1, fival_u64 0 0 toInt_zero (by omega) (by omega)⟩
    · rw [if_neg hz]
      have hlt : N - 2 ^ N.log2 < 2 ^ 53 := Nat.lt_of_le_of_lt (Nat.sub_le _ _) h2
      have hlog' := log2_le (N - 2 ^ N.log2) (by omega) hlt
      have hm := fl_ok (o := .mul) (mul_pow (N - 2 ^ N.log2) (-(N.log2 : Int)) 4841369599423283200 0 (by omega) hlt (by omega) (by omega) read_wide (by omega))
      rw [hm.2, show -(N.log2 : Int) + 0 + 52 = ((52 - N.log2 : Nat) : Int) by omega]
      exact ⟨hm.1, fival_u64 _ _ (toInt_fl (N - 2 ^ N.log2) (52 - N.log2) (by omega) hlt (by omega)) (by omega) (by omega)⟩
  refine ev_pos key.1 ?_
  refine ev_pos key.2.1 ?_
  rw [key.2.2, hfin.1]
  have hmul : N * 2 ^ (52 - N.log2) = (N - 2 ^ N.log2) * 2 ^ (52 - N.log2) + 4503599627370496 := by
    have h1 : (4503599627370496 : Nat) = 2 ^ N.log2 * 2 ^ (52 - N.log2) := by rw [← Nat.pow_add, show N.log2 + (52 - N.log2) = 52 by omega]
    rw [h1, ← Nat.add_mul, show N - 2 ^ N.log2 + 2 ^ N.log2 = N by omega]
  have hb : (N - 2 ^ N.log2) * 2 ^ (52 - N.log2) < 4503599627370496 := by
    have h3 : N - 2 ^ N.log2 < 2 ^ N.log2 := by rw [Nat.pow_succ] at hup; omega
    have h4 : (N - 2 ^ N.log2) * 2 ^ (52 - N.log2) < 2 ^ N.log2 * 2 ^ (52 - N.log2) := Nat.mul_lt_mul_of_pos_right h3 (Nat.two_pow_pos _)
    rw [← Nat.pow_add, show N.log2 + (52 - N.log2) = 52 by omega] at h4
    exact h4
  rw [show (q - (E - 52)).toNat = 52 - N.log2 by omega, hmul]
  generalize (N - 2 ^ N.log2) * 2 ^ (52 - N.log2) = F at hb
  rw [w64 (by omega) (by omega)]
  have e1 : IntKind.u64.wrap (E + 1023) = E + 1023 := by simp [IntKind.wrap, IntKind.bits, IntKind.signed]; omega
  have e2 : IntKind.u64.wrap ((E + 1023) * 4503599627370496) = (E + 1023) * 4503599627370496 := by simp [IntKind.wrap, IntKind.bits, IntKind.signed]; omega
  rw [e1, e2, u64_or_add 63 (x := S) (y := (E + 1023) * 4503599627370496) (by omega) (by rcases hS with rfl | rfl <;> rfl) (by omega) (by omega) (show _ < (9223372036854775808 : Int) by omega) (by omega)]
  rw [u64_or_add 52 (by omega) (show _ % (4503599627370496 : Int) = 0 by omega) (by omega) (by omega) (show _ < (4503599627370496 : Int) by omega) (by omega)]
  have e3 : S + (E + 1023) * 4503599627370496 + (F : Int) = S + (((E - 52 + 1074).toNat * 4503599627370496 + (F + 4503599627370496) : Nat) : Int) := by omega
  rw [e3]
  exact Ev.now _
/-- the last step: the bits of what is left, E places below -/
theorem bits_l1 (S : Int) (hS : S = 0 ∨ S = 9223372036854775808) (N : Nat) (q : Int) (h : 0 < N) (h2 : N < 2 ^ 53) (hq : -1074 ≤ q) (hv : q + N.log2 ≤ 1023) : ∀ (n : Nat) (E : Int), E ≤ 1023 → -1022 ≤ E → q + N.log2 ≤ E → -1074 ≤ q - E → (n : Int) = E + 1022 → Ev (fun k => spec_FloatBits.l1 k S (fl N (q - E)) E) (S + (fl N q : Nat)) := by
  have hlog := log2_le N h h2
  have hl := last_le N q h h2 hq
  have hm := mag_bound N q h h2 hq
  have hfin := fl_finite N q h h2 hq hv
  have hself : 2 ^ N.log2 ≤ N := Nat.log2_self_le (by omega)
  have hup : N < 2 ^ (N.log2 + 1) := Nat.lt_log2_self
  intro n
  induction n with
  | zero =>
    intro E hE1 hE2 hE3 hE4 hn
    have hE : E = -1022 := by omega
    subst hE
    by_cases hz : q + N.log2 = -1022
    · exact bits_unit S hS N q h h2 hq hv _ (by omega) (by omega)
    · have hL : lastOf N q = -1074 := by unfold lastOf; omega
      rw [hL] at hm hfin
      have hsmall : N * 2 ^ (q - -1074).toNat < 9007199254740992 := hm.2.1
      refine Ev.step (fun k => by rw [spec_FloatBits.l1, if_pos (by rw [lt_one N _ h h2 (by omega) (by omega)]; exact decide_eq_true (by omega)), if_neg (by omega)]) ?_
      have hmul := fl_ok (o := .mul) (mul_pow N (q - -1022) 4841369599423283200 0 h h2 (by omega) (by omega) read_wide (by omega))
      have hq2 : q - -1022 + 0 + 52 = ((q - -1074).toNat : Int) := by omega
      rw [hq2] at hmul
      have hi := fival_u64 _ _ (toInt_fl N (q - -1074).toNat h h2 (by omega)) (by omega) (by omega)
      refine ev_pos hmul.1 ?_
      rw [hmul.2]
      refine ev_pos hi.1 ?_
      rw [hi.2, hfin.1]
      rw [show (-1074 + 1074 : Int).toNat = 0 by omega, Nat.zero_mul, Nat.zero_add]
      have hlt : N * 2 ^ (q - -1074).toNat < 9007199254740992 := hm.2.1
      rw [u64_or_add 53 (by omega) (by rcases hS with rfl | rfl <;> rfl) (by omega) (by omega) (show _ < (9007199254740992 : Int) by omega) (by omega)]
      exact Ev.now _
  | succ n ih =>
    intro E hE1 hE2 hE3 hE4 hn
    by_cases hz : q + N.log2 = E
    · exact bits_unit S hS N q h h2 hq hv _ (by omega) (by omega)
    · refine Ev.step (fun k => by rw [spec_FloatBits.l1, if_pos (by rw [lt_one N _ h h2 (by omega) (by omega)]; exact decide_eq_true (by omega)), if_pos (by omega)]) ?_
      have hmul := fl_ok (o := .mul) (mul_pow N (q - E) 4611686018427387904 (-51) h h2 (by omega) (by omega) read_two (by omega))
      refine ev_pos hmul.1 ?_
      rw [hmul.2, w64 (by omega) (by omega), show q - E + -51 + 52 = q - (E - 1) by omega]
      exact ih (E - 1) (by omega) (by omega) (by omega) (by omega) (by omega)
/-- halving while the float is two or more -/
theorem bits_l0 (S : Int) (hS : S = 0 ∨ S = 9223372036854775808) (N : Nat) (q : Int) (h : 0 < N) (h2 : N < 2 ^ 53) (hq : -1074 ≤ q) (hv : q + N.log2 ≤ 1023) : ∀ (n : Nat) (E : Int), 0 ≤ E → (E = 0 ∨ E ≤ q + N.log2) → (n : Int) = 1023 - E → Ev (fun k => spec_FloatBits.l0 k S (fl N (q - E)) E) (S + (fl N q : Nat)) := by
  have hlog := log2_le N h h2
  intro n
  induction n with
  | zero =>
    intro E h0 hE hn
    refine Ev.step (fun k => by rw [spec_FloatBits.l0, if_neg (by rw [ge_two N _ h h2 (by omega) (by omega), decide_eq_false (by omega)]; exact Bool.false_ne_true)]) ?_
    exact bits_l1 S hS N q h h2 hq hv (E + 1022).toNat E (by omega) (by omega) (by omega) (by omega) (by omega)
  | succ n ih =>
    intro E h0 hE hn
    by_cases hz : q + N.log2 ≤ E
    · refine Ev.step (fun k => by rw [spec_FloatBits.l0, if_neg (by rw [ge_two N _ h h2 (by omega) (by omega), decide_eq_false (by omega)]; exact Bool.false_ne_true)]) ?_
      exact bits_l1 S hS N q h h2 hq hv (E + 1022).toNat E (by omega) (by omega) (by omega) (by omega) (by omega)
    · refine Ev.step (fun k => by rw [spec_FloatBits.l0, if_pos (by rw [ge_two N _ h h2 (by omega) (by omega)]; exact decide_eq_true (by omega))]) ?_
      have hquo := fl_ok (o := .quo) (quo_pow N (q - E) 4611686018427387904 (-51) h h2 (by omega) (by omega) read_two (by omega))
      refine ev_pos hquo.1 ?_
      rw [hquo.2, w64 (by omega) (by omega), show q - E - -51 - 52 = q - (E + 1) by omega]
      exact ih (E + 1) (by omega) (by omega) (by omega)
theorem bits_j1 (S : Int) (hS : S = 0 ∨ S = 9223372036854775808) (c : Nat) (hc : c ≤ 9218868437227405312) : Ev (fun k => spec_FloatBits.j1 k S c) (S + (c : Nat)) := by
  by_cases h0 : c = 0
  · subst h0
    refine Ev.step (fun k => by rw [spec_FloatBits.j1, if_pos (by rw [feq_nat _ _ (by omega) (by omega)]; rfl)]) ?_
    rw [show S + ((0 : Nat) : Int) = S by omega]
    exact Ev.now _
  by_cases hi : c = 9218868437227405312
  · subst hi
    refine Ev.step (fun k => by rw [spec_FloatBits.j1, if_neg (by rw [feq_nat _ _ (by omega) (by omega), decide_eq_false (by omega)]; exact Bool.false_ne_true), if_pos (by rw [fgt_nat _ _ (by omega) (by omega)]; exact decide_eq_true (by omega))]) ?_
    rw [u64_or_add 63 (by omega) (by rcases hS with rfl | rfl <;> rfl) (by omega) (by omega) (show _ < (9223372036854775808 : Int) by omega) (by omega)]
    exact Ev.now _
  · obtain ⟨a1, a2, a3, a4⟩ := log2_mg c (by omega) (by omega)
    obtain ⟨e, hp, hp2, hm, hn⟩ := mg_pl c (by omega)
    refine Ev.step (fun k => by rw [spec_FloatBits.j1, if_neg (by rw [feq_nat _ _ (by omega) (by omega)]; simp [h0]), if_neg (by rw [fgt_nat _ _ (by omega) (by omega), decide_eq_false (by omega)]; exact Bool.false_ne_true)]) ?_
    have := bits_l0 S hS (mg c) (pl c) a1 a2 hp a4 1023 0 (by omega) (Or.inl rfl) (by omega)
    rw [show pl c - 0 = pl c by omega, fl_eta c (by omega) (by omega)] at this
    exact this
/-- THE REFERENCE's BITS: the float's own, of every NaN one -/
theorem spec_FloatBits_f (a : Nat) (ha : a < 2 ^ 64) : Ev (fun k => spec_FloatBits.f k a) (if isn a then 9221120237041090560 else (a : Int)) := by
  unfold spec_FloatBits.f
  cases hn : isn a with
  | true =>
    refine ev_neg (by rw [feq_self a ha, hn]; simp) ?_
    exact Ev.now _
  | false =>
    refine ev_pos (by rw [feq_self a ha, hn]; rfl) ?_
    rw [if_neg (by simp)]
    have hz : isn 0 = false := isn_pos 0 (by omega)
    have low : ∀ c, c ≤ 9218868437227405312 → a = c → Ev (fun k => if fls a 0 = true then spec_FloatBits.j0 k a 0 a true else if feq a 0 = true then if fok .quo 4607182418800017408 a = true then spec_FloatBits.j0 k a 0 a (fls (fval .quo 4607182418800017408 a) 0) else none else spec_FloatBits.j0 k a 0 a false) (a : Int) := by
      intro c hc hac
      subst hac
      have fin : Ev (fun k => spec_FloatBits.j0 k a 0 a false) (a : Int) := by
        refine Ev.step (fun k => by rw [spec_FloatBits.j0, if_neg (by simp)]) ?_
        have := bits_j1 0 (Or.inl rfl) a hc
        rw [Int.zero_add] at this
        exact this
      refine ev_neg (by rw [fls_nat a 0 hc (by omega)]; simp) ?_
      by_cases h0 : a = 0
      · subst h0
        refine ev_pos (by rw [feq_nat 0 0 (by omega) (by omega)]; rfl) ?_
        have hq := fl_ok (o := .quo) (a := 4607182418800017408) (b := 0) (r := 9218868437227405312) (by
          show Ieee.double.div 4607182418800017408 0 = some 9218868437227405312
          unfold Ieee.Format.div
          rw [read_zero, read_one]
          rfl)
        refine ev_pos hq.1 ?_
        rw [hq.2, fls_nat _ _ (by omega) (by omega)]
        exact fin
      · refine ev_neg (by rw [feq_nat a 0 hc (by omega)]; simp [h0]) ?_
        exact fin
    have high : ∀ c, c ≤ 9218868437227405312 → a = 9223372036854775808 + c → Ev (fun k => if fls a 0 = true then spec_FloatBits.j0 k a 0 a true else if feq a 0 = true then if fok .quo 4607182418800017408 a = true then spec_FloatBits.j0 k a 0 a (fls (fval .quo 4607182418800017408 a) 0) else none else spec_FloatBits.j0 k a 0 a false) (a : Int) := by
      intro c hc hac
      have fin : Ev (fun k => spec_FloatBits.j0 k a 0 a true) (a : Int) := by
        refine Ev.step (fun k => by rw [spec_FloatBits.j0, if_pos rfl]) ?_
        have := bits_j1 9223372036854775808 (Or.inr rfl) c hc
        rw [hac, fneg_neg c (by omega)]
        rw [show ((9223372036854775808 + c : Nat) : Int) = 9223372036854775808 + (c : Int) by omega]
        exact this
      have hk := fkey_neg c a hac
      have hk0 : fkey 0 = 0 := fkey_pos 0 (by omega)
      by_cases h0 : c = 0
      · subst h0
        refine ev_neg (by rw [fls_key a 0 ha (by omega) hn hz, hk, hk0]; simp) ?_
        refine ev_pos (by rw [feq_key a 0 ha (by omega) hn hz, hk, hk0]; rfl) ?_
        have hq := fl_ok (o := .quo) (a := 4607182418800017408) (b := 9223372036854775808) (r := 18442240474082181120) (by
          show Ieee.double.div 4607182418800017408 9223372036854775808 = some 18442240474082181120
          unfold Ieee.Format.div
          rw [read_nzero, read_one]
          rfl)
        rw [Nat.add_zero] at hac
        rw [hac] at fin ⊢
        refine ev_pos hq.1 ?_
        rw [hq.2]
        have e : fls 18442240474082181120 0 = true := by
          rw [fls_key _ 0 (by omega) (by omega) (isn_neg 9218868437227405312 (by omega)) hz, hk0, fkey_neg 9218868437227405312 18442240474082181120 rfl]
          exact decide_eq_true (by omega)
        rw [e]
        exact fin
      · refine ev_pos (by rw [fls_key a 0 ha (by omega) hn hz, hk, hk0]; exact decide_eq_true (by omega)) ?_
        exact fin
    rcases word_real a ha hn with g | g | ⟨c, g, hc⟩ | g
    · exact low a (by omega) rfl
    · exact low a (by omega) rfl
    · exact high c (by omega) g
    · exact high 9218868437227405312 (by omega) g

theorem fkey_zero (a : Nat) (ha : a < 2 ^ 64) : fkey a = 0 ↔ a = 0 ∨ a = 9223372036854775808 := by
  unfold fkey
  split <;> omega
theorem feq_zero (a : Nat) (ha : a < 2 ^ 64) (hn : isn a = false) : feq a 0 = decide (a = 0 ∨ a = 9223372036854775808) := by
  rw [feq_key a 0 ha (by omega) hn (isn_pos 0 (by omega)), fkey_pos 0 (by omega)]
  exact decide_eq_decide.2 (fkey_zero a ha)
theorem fgt_zero (a : Nat) (ha : a < 2 ^ 64) (hn : isn a = false) : fgt a 0 = decide (0 < a ∧ a < 9223372036854775808) := by
  rw [fgt_key a 0 ha (by omega) hn (isn_pos 0 (by omega)), fkey_pos 0 (by omega)]
  refine decide_eq_decide.2 ?_
  unfold fkey
  split <;> omega
theorem fls_zero (a : Nat) (ha : a < 2 ^ 64) (hn : isn a = false) : fls a 0 = decide (9223372036854775808 < a) := by
  rw [fls_key a 0 ha (by omega) hn (isn_pos 0 (by omega)), fkey_pos 0 (by omega)]
  refine decide_eq_decide.2 ?_
  unfold fkey
  split <;> omega

theorem bits_or_comm (k : IntKind) (x y : Int) : Go.bits .or k x y = Go.bits .or k y x := by
  unfold Go.bits
  dsimp only
  rw [BitVec.or_comm]
theorem u64_not (b : Nat) (h : b < 2 ^ 64) : Go.bits .xor .u64 IntKind.u64.max (b : Int) = 18446744073709551615 - (b : Int) := by
  have e1 : IntKind.u64.max = 18446744073709551615 := by rfl
  have e2 : Go.bits .xor .u64 IntKind.u64.max (b : Int) = IntKind.u64.wrap ((BitVec.ofInt 64 IntKind.u64.max ^^^ BitVec.ofInt 64 (b : Int)).toNat : Int) := rfl
  have e3 : BitVec.ofInt 64 (18446744073709551615 : Int) = BitVec.allOnes 64 := by rfl
  rw [e2, e1, e3, BitVec.allOnes_xor, BitVec.toNat_not, BitVec.ofInt_natCast, BitVec.toNat_ofNat, Nat.mod_eq_of_lt h]
  have e4 : ((2 ^ 64 - 1 - b : Nat) : Int) = 18446744073709551615 - (b : Int) := by omega
  rw [e4]
  simp [IntKind.wrap, IntKind.bits, IntKind.signed]
  omega
/-- a float's rank -/
def rankOf (a : Nat) : Int := if isn a then 18446744073709551615 else if a = 0 ∨ a = 9223372036854775808 then 9223372036854775808 else if a < 9223372036854775808 then 9223372036854775808 + (a : Int) else 18446744073709551615 - (a : Int)
theorem real_ne_nan (a : Nat) (hn : isn a = false) : (a : Int) ≠ 9221120237041090560 := by
  intro h
  have : a = 9221120237041090560 := by omega
  subst this
  exact absurd hn (by decide)
theorem or_sign (a : Nat) (h : a < 9223372036854775808) : Go.bits .or .u64 (a : Int) 9223372036854775808 = 9223372036854775808 + (a : Int) := by
  rw [bits_or_comm, u64_or_add 63 (by omega) (by rfl) (by omega) (by omega) (show _ < (9223372036854775808 : Int) by omega) (by omega)]
theorem spec_FloatRank_f (a : Nat) (ha : a < 2 ^ 64) : Ev (fun k => spec_FloatRank.f k a) (rankOf a) := by
  unfold spec_FloatRank.f rankOf
  refine Ev.bind (spec_FloatBits_f a ha) ?_
  cases hn : isn a with
  | true => exact ev_pos rfl (Ev.now _)
  | false =>
    simp only [Bool.false_eq_true, if_false]
    refine ev_neg (real_ne_nan a hn) ?_
    rw [feq_zero a ha hn]
    by_cases hz : a = 0 ∨ a = 9223372036854775808
    · rw [if_pos hz]
      exact ev_pos (decide_eq_true hz) (Ev.now _)
    · rw [if_neg hz]
      refine ev_neg (by rw [decide_eq_false hz]; exact Bool.false_ne_true) ?_
      by_cases hs : a < 9223372036854775808
      · rw [if_pos hs]
        refine ev_neg (by omega) ?_
        rw [or_sign a hs]
        exact Ev.now _
      · rw [if_neg hs]
        refine ev_pos (by omega) ?_
        rw [u64_not a ha]
        exact Ev.now _
theorem impl_FloatRank_f (a : Nat) (ha : a < 2 ^ 64) : impl_FloatRank.f a = some (rankOf a) := by
  unfold impl_FloatRank.f rankOf
  rw [feq_self a ha]
  cases hn : isn a with
  | true => rfl
  | false =>
    rw [if_pos (show (!false) = true from rfl), if_neg Bool.false_ne_true, feq_zero a ha hn, fgt_zero a ha hn]
    by_cases hz : a = 0 ∨ a = 9223372036854775808
    · rw [if_pos hz, decide_eq_true hz]
      rfl
    · rw [if_neg hz, decide_eq_false hz, if_neg Bool.false_ne_true]
      by_cases hs : a < 9223372036854775808
      · rw [if_pos hs, decide_eq_true (by omega), if_pos rfl, or_sign a hs]
      · rw [if_neg hs, decide_eq_false (by omega), if_neg Bool.false_ne_true, u64_not a ha]

def IsBytes (l : List Int) : Prop := ∀ x ∈ l, 0 ≤ x ∧ x ≤ 255
theorem isBytes_of {l : List Int} (h : ∀ x ∈ l, (Lit.int .u8 x).wf = true) : IsBytes l := by
  intro x hx
  have := h x hx
  simpa [Lit.wf, IntKind.min, IntKind.max, IntKind.signed, IntKind.bits] using this
theorem rd_byte {l : List Int} (h : IsBytes l) (i : Int) : 0 ≤ rd l i ∧ rd l i ≤ 255 := by
  by_cases hi : i.toNat < l.length
  · have : rd l i = l[i.toNat] := by simp [rd, List.getD_eq_getElem?_getD, List.getElem?_eq_getElem hi]
    rw [this]
    exact h _ (List.getElem_mem _)
  · have : rd l i = 0 := by simp [rd, List.getD_eq_getElem?_getD, List.getElem?_eq_none (by omega : l.length ≤ i.toNat)]
    omega

theorem isBytes_append {a b : List Int} (ha : IsBytes a) (hb : IsBytes b) : IsBytes (a ++ b) := by
  intro x hx
  rcases List.mem_append.1 hx with h | h
  · exact ha x h
  · exact hb x h
theorem isBytes_one {x : Int} (h : 0 ≤ x ∧ x ≤ 255) : IsBytes [x] := by
  intro y hy
  rw [List.mem_singleton.1 hy]
  exact h
theorem isBytes_nil : IsBytes [] := fun x hx => by cases hx
theorem isBytes_take {a : List Int} (h : IsBytes a) (n : Nat) : IsBytes (a.take n) := fun x hx => h x (List.mem_of_mem_take hx)
theorem isBytes_drop {a : List Int} (h : IsBytes a) (n : Nat) : IsBytes (a.drop n) := fun x hx => h x (List.mem_of_mem_drop hx)

theorem impl_within_f (a b c : Int) : impl_within.f a b c = some (decide (b ≤ a ∧ a ≤ c)) := by
  unfold impl_within.f
  by_cases h : b ≤ a <;> simp [h]

theorem toByteS_l (l : List Int) (hn : l.length ≤ 1048576) (d : Nat) : ∀ (i : Nat) (y : List Int), i + d = l.length → y.length = l.length → (∀ j, j < i → y[j]? = l[j]?) → Ev (fun k => laws_toByteS.l0 k l y (i : Int)) l := by
  induction d with
  | zero =>
    intro i y hi hy hj
    refine Ev.step (f := fun _ => some l) (fun k => ?_) (Ev.now _)
    simp only [laws_toByteS.l0]
    rw [if_neg (by omega)]
    congr 1
    refine List.ext_getElem? fun j => ?_
    by_cases h : j < i
    · exact hj j h
    · rw [List.getElem?_eq_none (by omega), List.getElem?_eq_none (by omega)]
  | succ d ih =>
    intro i y hi hy hj
    refine Ev.step (f := fun k => laws_toByteS.l0 k l (y.set i (rd l i)) ((i + 1 : Nat) : Int)) (fun k => ?_) (ih (i + 1) _ (by omega) (by simp [hy]) ?_)
    · simp only [laws_toByteS.l0]
      rw [if_pos (by omega), if_pos (by omega), if_pos (by omega), w64 (by omega) (by omega)]
      simp
    · intro j hlt
      by_cases h : j = i
      · subst h
        rw [List.getElem?_set_self (by omega), rd_nat l j (by omega), List.getElem?_eq_getElem (by omega)]
      · rw [List.getElem?_set_ne (by omega)]
        exact hj j (by omega)
theorem toByteS_f (l : List Int) (hn : l.length ≤ 1048576) : Ev (fun k => laws_toByteS.f k l) l := by
  unfold laws_toByteS.f
  refine ev_pos (by omega) (ev_pos (by omega) ?_)
  exact toByteS_l l hn l.length 0 _ (by omega) (by simp) (by intro j h; omega)

theorem eqByteS_l (a b : List Int) (hn : a.length ≤ 1048576) (hab : a.length = b.length) (d : Nat) : ∀ (i : Nat), i + d = a.length → (∀ j, j < i → a[j]? = b[j]?) → Ev (fun k => laws_eqByteS.l0 k a b (i : Int)) (decide (a = b)) := by
  induction d with
  | zero =>
    intro i hi hj
    refine Ev.step (f := fun _ => some true) (fun k => ?_) ?_
    · simp only [laws_eqByteS.l0]
      rw [if_neg (by omega)]
    · have : a = b := by
        refine List.ext_getElem? fun j => ?_
        by_cases h : j < i
        · exact hj j h
        · rw [List.getElem?_eq_none (by omega), List.getElem?_eq_none (by omega)]
      rw [decide_eq_true this]
      exact Ev.now _
  | succ d ih =>
    intro i hi hj
    have ha : rd a (i : Int) = a[i]'(by omega) := rd_nat a i (by omega)
    have hb : rd b (i : Int) = b[i]'(by omega) := rd_nat b i (by omega)
    by_cases he : rd a (i : Int) = rd b (i : Int)
    · refine Ev.step (f := fun k => laws_eqByteS.l0 k a b ((i + 1 : Nat) : Int)) (fun k => ?_) (ih (i + 1) (by omega) ?_)
      · simp only [laws_eqByteS.l0]
        rw [if_pos (by omega), if_pos (by omega), if_pos (by omega), if_pos he, w64 (by omega) (by omega)]
        simp
      · intro j hlt
        by_cases h : j = i
        · subst h
          rw [List.getElem?_eq_getElem (by omega), List.getElem?_eq_getElem (by omega), ← ha, ← hb, he]
        · exact hj j (by omega)
    · refine Ev.step (f := fun _ => some false) (fun k => ?_) ?_
      · simp only [laws_eqByteS.l0]
        rw [if_pos (by omega), if_pos (by omega), if_pos (by omega), if_neg he]
      · have : ¬ a = b := by
          rintro rfl
          exact he rfl
        rw [decide_eq_false this]
        exact Ev.now _
theorem eqByteS_f (a b : List Int) (hn : a.length ≤ 1048576) : Ev (fun k => laws_eqByteS.f k a b) (decide (a = b)) := by
  unfold laws_eqByteS.f
  by_cases h : a.length = b.length
  · refine ev_pos (by omega) ?_
    exact eqByteS_l a b hn h a.length 0 (by omega) (by intro j h; omega)
  · refine ev_neg (by omega) ?_
    rw [decide_eq_false (by rintro rfl; exact h rfl)]
    exact Ev.now _
theorem eqByteS_same (a : List Int) (hn : a.length ≤ 1048576) : Ev (fun k => laws_eqByteS.f k a a) true := by
  have := eqByteS_f a a hn
  rwa [decide_eq_true rfl] at this

/-- one value: the same bits, or both no number -/
def SameF (a b : Nat) : Prop := a = b ∨ (isn a = true ∧ isn b = true)
theorem sameFloat_f (a b : Nat) (ha : a < 2 ^ 64) (hb : b < 2 ^ 64) (h : SameF a b) : Ev (fun k => laws_sameFloat.f k a b) true := by
  unfold laws_sameFloat.f
  rcases h with rfl | ⟨na, nb⟩
  · rw [feq_self a ha]
    cases hn : isn a with
    | true =>
      refine ev_neg (by simp) ?_
      refine Ev.step (fun k => by rw [laws_sameFloat.j0, if_pos rfl, if_neg (by rw [feq_self a ha, hn]; simp), feq_self a ha, hn]) ?_
      exact Ev.now _
    | false =>
      refine ev_pos rfl ?_
      have hself : feq a a = true := by rw [feq_self a ha, hn]; rfl
      refine Ev.step (fun k => by rw [laws_sameFloat.j0, if_neg (by simp)]) ?_
      by_cases hz : feq a 0 = true
      · refine ev_pos hz ?_
        refine ev_pos hz ?_
        have hok : fok .quo 4607182418800017408 a = true := by
          rw [feq_zero a ha hn] at hz
          rcases of_decide_eq_true hz with rfl | rfl
          · exact (fl_ok (o := .quo) (a := 4607182418800017408) (b := 0) (r := 9218868437227405312) (by
              show Ieee.double.div 4607182418800017408 0 = some 9218868437227405312
              unfold Ieee.Format.div
              rw [read_zero, read_one]
              rfl)).1
          · exact (fl_ok (o := .quo) (a := 4607182418800017408) (b := 9223372036854775808) (r := 18442240474082181120) (by
              show Ieee.double.div 4607182418800017408 9223372036854775808 = some 18442240474082181120
              unfold Ieee.Format.div
              rw [read_nzero, read_one]
              rfl)).1
        refine ev_pos hok ?_
        refine ev_pos hok ?_
        rw [beq_self_eq_true]
        exact Ev.now _
      · refine ev_neg hz ?_
        rw [hself]
        exact Ev.now _
  · rw [feq_self a ha, na]
    refine ev_neg (by simp) ?_
    refine Ev.step (fun k => by rw [laws_sameFloat.j0, if_pos rfl, if_neg (by rw [feq_self a ha, na]; simp), feq_self b hb, nb]) ?_
    exact Ev.now _
theorem toItem_f (kd n : Int) (b : Nat) (t : List Int) (ht : t.length ≤ 1048576) : Ev (fun k => laws_toItem.f k kd n b t) (kd, n, b, t) := by
  unfold laws_toItem.f
  refine Ev.bind (toByteS_f t ht) ?_
  exact Ev.now _
theorem eqItem_f (kd n : Int) (a b : Nat) (t : List Int) (ht : t.length ≤ 1048576) (ha : a < 2 ^ 64) (hb : b < 2 ^ 64) (h : SameF a b) : Ev (fun k => laws_eqItem.f k kd n a t kd n b t) true := by
  unfold laws_eqItem.f
  refine ev_pos rfl ?_
  refine ev_pos rfl ?_
  refine Ev.bind (sameFloat_f a b ha hb h) ?_
  refine ev_pos rfl ?_
  refine Ev.bind (eqByteS_same t ht) ?_
  exact ev_pos rfl (Ev.now _)

theorem szItem_f (kd n : Int) (b : Nat) (t : List Int) (m : Int) (h : -9223372036854775808 ≤ m - t.length ∧ m - t.length ≤ 9223372036854775807) : laws_szItem.f kd n b t m = some (if m - t.length < 0 then -1 else m - t.length) := by
  unfold laws_szItem.f laws_szByteS.f
  rw [w64 h.1 h.2]
  by_cases h0 : m - t.length < 0
  · simp only [if_pos h0, Option.bind_some]
    rfl
  · simp only [if_neg h0, Option.bind_some]

/-- when an item is valid -/
def itemOkP (kd n : Int) (b : Nat) (t : List Int) : Bool := decide (0 ≤ kd ∧ kd ≤ 3 ∧ t.length ≤ 40 ∧ (kd = 1 ∨ n = 0) ∧ (kd = 2 ∨ b = 0) ∧ (kd = 3 ∨ t.length = 0))
theorem canon_zero (b : Nat) : (if isn b then 9221120237041090560 else (b : Int)) = 0 ↔ b = 0 := by
  cases hn : isn b with
  | true =>
    rw [if_pos rfl]
    constructor
    · omega
    · rintro rfl
      exact absurd hn (by decide)
  | false =>
    rw [if_neg Bool.false_ne_true]
    omega
theorem spec_ItemOk_j1 (x : Bool) (kd n : Int) (b : Nat) (t : List Int) (hb : b < 2 ^ 64) : Ev (fun k => spec_ItemOk.j1 k x kd n b t) (decide (x = false ∧ (kd = 2 ∨ b = 0) ∧ (kd = 3 ∨ t.length = 0))) := by
  cases x with
  | true =>
    refine Ev.step (fun k => by rw [spec_ItemOk.j1, if_pos rfl]) ?_
    rw [decide_eq_false (by simp)]
    exact Ev.now _
  | false =>
    refine Ev.step (fun k => by rw [spec_ItemOk.j1, if_neg Bool.false_ne_true]) ?_
    have fin : Ev (fun _ => if kd = 3 then some true else some ((t.length : Int) == 0)) (decide (kd = 3 ∨ t.length = 0)) := by
      by_cases h3 : kd = 3
      · refine ev_pos h3 ?_
        rw [decide_eq_true (Or.inl h3)]
        exact Ev.now _
      · refine ev_neg h3 ?_
        rw [show ((t.length : Int) == 0) = decide (kd = 3 ∨ t.length = 0) by rw [Bool.eq_iff_iff]; simp [h3]]
        exact Ev.now _
    by_cases h2 : kd = 2
    · refine ev_pos h2 ?_
      rw [show decide (false = false ∧ (kd = 2 ∨ b = 0) ∧ (kd = 3 ∨ t.length = 0)) = decide (kd = 3 ∨ t.length = 0) from decide_eq_decide.2 (by simp [h2])]
      exact fin
    · refine ev_neg h2 ?_
      refine Ev.bind (spec_FloatBits_f b hb) ?_
      by_cases h0 : b = 0
      · refine ev_pos ((canon_zero b).2 h0) ?_
        rw [show decide (false = false ∧ (kd = 2 ∨ b = 0) ∧ (kd = 3 ∨ t.length = 0)) = decide (kd = 3 ∨ t.length = 0) from decide_eq_decide.2 (by simp [h0])]
        exact fin
      · refine ev_neg (fun h => h0 ((canon_zero b).1 h)) ?_
        rw [decide_eq_false (by simp [h0, h2])]
        exact Ev.now _
theorem spec_ItemOk_j0 (x : Bool) (kd n : Int) (b : Nat) (t : List Int) (hb : b < 2 ^ 64) : Ev (fun k => spec_ItemOk.j0 k x kd n b t) (decide (x = false ∧ (kd = 1 ∨ n = 0) ∧ (kd = 2 ∨ b = 0) ∧ (kd = 3 ∨ t.length = 0))) := by
  cases x with
  | true =>
    refine Ev.step (fun k => by rw [spec_ItemOk.j0, if_pos rfl]) ?_
    rw [decide_eq_false (by simp)]
    exact Ev.now _
  | false =>
    refine Ev.step (fun k => by rw [spec_ItemOk.j0, if_neg Bool.false_ne_true]) ?_
    by_cases h1 : kd = 1
    · refine ev_pos h1 ?_
      rw [show decide (false = false ∧ (kd = 1 ∨ n = 0) ∧ (kd = 2 ∨ b = 0) ∧ (kd = 3 ∨ t.length = 0)) = decide (false = false ∧ (kd = 2 ∨ b = 0) ∧ (kd = 3 ∨ t.length = 0)) from decide_eq_decide.2 (by simp [h1])]
      exact spec_ItemOk_j1 false kd n b t hb
    · refine ev_neg h1 ?_
      rw [show decide (false = false ∧ (kd = 1 ∨ n = 0) ∧ (kd = 2 ∨ b = 0) ∧ (kd = 3 ∨ t.length = 0)) = decide ((n != 0) = false ∧ (kd = 2 ∨ b = 0) ∧ (kd = 3 ∨ t.length = 0)) from decide_eq_decide.2 (by simp [h1])]
      exact spec_ItemOk_j1 _ kd n b t hb
theorem spec_ItemOk_f (kd n : Int) (b : Nat) (t : List Int) (hb : b < 2 ^ 64) : Ev (fun k => spec_ItemOk.f k kd n b t) (itemOkP kd n b t) := by
  unfold spec_ItemOk.f itemOkP
  by_cases h1 : kd < 0
  · refine ev_pos h1 ?_
    rw [decide_eq_false (by omega)]
    have := spec_ItemOk_j0 true kd n b t hb
    rwa [decide_eq_false (by simp)] at this
  · refine ev_neg h1 ?_
    by_cases h2 : kd > 3
    · refine ev_pos h2 ?_
      rw [decide_eq_false (by omega)]
      have := spec_ItemOk_j0 true kd n b t hb
      rwa [decide_eq_false (by simp)] at this
    · refine ev_neg h2 ?_
      have := spec_ItemOk_j0 (decide ((t.length : Int) > 40)) kd n b t hb
      rwa [show decide (decide ((t.length : Int) > 40) = false ∧ (kd = 1 ∨ n = 0) ∧ (kd = 2 ∨ b = 0) ∧ (kd = 3 ∨ t.length = 0)) = decide (0 ≤ kd ∧ kd ≤ 3 ∧ t.length ≤ 40 ∧ (kd = 1 ∨ n = 0) ∧ (kd = 2 ∨ b = 0) ∧ (kd = 3 ∨ t.length = 0)) from decide_eq_decide.2 (by rw [decide_eq_false_iff_not]; omega)] at this
theorem impl_ItemOk_f (kd n : Int) (b : Nat) (t : List Int) : impl_ItemOk.f kd n b t = some (itemOkP kd n b t) := by
  unfold impl_ItemOk.f itemOkP
  rw [impl_within_f]
  simp only [Option.bind_some]
  repeat' split
  all_goals refine congrArg some ?_
  all_goals simp only [decide_eq_true_eq] at *
  all_goals first
    | (symm; rw [decide_eq_true_eq]; omega)
    | (symm; rw [decide_eq_false_iff_not]; omega)
    | (rw [decide_eq_decide]; omega)

def cmp3 (a b : Int) : Int := if a < b then -1 else if a > b then 1 else 0
def lex : List Int → List Int → Int
  | [], [] => 0
  | [], _ :: _ => -1
  | _ :: _, [] => 1
  | a :: xs, b :: ys => if a < b then -1 else if a > b then 1 else lex xs ys
theorem lex_drop (a b : List Int) (i : Nat) (h1 : i < a.length) (h2 : i < b.length) : lex (a.drop i) (b.drop i) = if rd a i < rd b i then -1 else if rd a i > rd b i then 1 else lex (a.drop (i + 1)) (b.drop (i + 1)) := by
  rw [List.drop_eq_getElem_cons h1, List.drop_eq_getElem_cons h2, rd_nat a i h1, rd_nat b i h2, lex]
theorem lex_end (a b : List Int) (i : Nat) (h0 : i ≤ a.length) (h1 : i ≤ b.length) (h : a.length = i ∨ b.length = i) : lex (a.drop i) (b.drop i) = cmp3 a.length b.length := by
  unfold cmp3
  have e1 : ∀ l : List Int, l.length = i → l.drop i = [] := fun l h => List.drop_eq_nil_of_le (by omega)
  have e2 : ∀ l : List Int, i < l.length → ∃ x xs, l.drop i = x :: xs := fun l h => ⟨_, _, List.drop_eq_getElem_cons h⟩
  by_cases ha : a.length = i
  · by_cases hb : b.length = i
    · rw [e1 a ha, e1 b hb, if_neg (by omega), if_neg (by omega)]
      rfl
    · obtain ⟨x, xs, e⟩ := e2 b (by omega)
      rw [e1 a ha, e, if_pos (by omega)]
      rfl
  · obtain ⟨x, xs, e⟩ := e2 a (by omega)
    rw [e1 b (by omega), e, if_neg (by omega), if_pos (by omega)]
    rfl
theorem spec_l3texts_l (a b : List Int) (ha : a.length ≤ 1048576) : ∀ (d i : Nat), i + d = a.length → i ≤ b.length → Ev (fun k => spec_l3texts.l0 k a b (i : Int)) (lex (a.drop i) (b.drop i)) := by
  have fin : ∀ i : Nat, i ≤ a.length → i ≤ b.length → (a.length = i ∨ b.length = i) → Ev (fun k => spec_l3texts.j1 k a b (i : Int) false) (lex (a.drop i) (b.drop i)) := by
    intro i h0 h1 h
    rw [lex_end a b i h0 h1 h]
    unfold cmp3
    refine Ev.step (fun k => by rw [spec_l3texts.j1, if_neg Bool.false_ne_true]) ?_
    refine Ev.congr (f := fun _ => some _) (fun k => ?_) (Ev.now _)
    split
    · rfl
    · split <;> rfl
  intro d
  induction d with
  | zero =>
    intro i hi hb
    refine Ev.step (fun k => by rw [spec_l3texts.l0, if_neg (by omega)]) ?_
    exact fin i (by omega) hb (Or.inl (by omega))
  | succ d ih =>
    intro i hi hb
    refine Ev.step (fun k => by rw [spec_l3texts.l0, if_pos (by omega)]) ?_
    by_cases h : i < b.length
    · rw [decide_eq_true (by omega : (i : Int) < (b.length : Int))]
      refine Ev.step (fun k => by rw [spec_l3texts.j1, if_pos rfl]) ?_
      refine ev_pos (by omega) (ev_pos (by omega) (ev_pos (by omega) ?_))
      rw [lex_drop a b i (by omega) h]
      by_cases h1 : rd a i < rd b i
      · rw [if_pos h1]
        exact ev_pos h1 (Ev.now _)
      · rw [if_neg h1]
        refine ev_neg h1 ?_
        by_cases h2 : rd a i > rd b i
        · rw [if_pos h2]
          exact ev_pos h2 (Ev.now _)
        · rw [if_neg h2]
          refine ev_neg h2 ?_
          rw [w64 (by omega) (by omega)]
          exact ih (i + 1) (by omega) (by omega)
    · rw [decide_eq_false (by omega : ¬ (i : Int) < (b.length : Int))]
      exact fin i (by omega) hb (Or.inr (by omega))
theorem spec_l3texts_f (a b : List Int) (ha : a.length ≤ 1048576) : Ev (fun k => spec_l3texts.f k a b) (lex a b) := by
  unfold spec_l3texts.f
  exact spec_l3texts_l a b ha a.length 0 (by omega) (by omega)
theorem lex_bytes : ∀ (a b : List Int), IsBytes a → IsBytes b → Lib.compareBytes (Lib.bytesOf a) (Lib.bytesOf b) = lex a b
  | [], [], _, _ => rfl
  | [], _ :: _, _, _ => rfl
  | _ :: _, [], _, _ => rfl
  | x :: a, y :: b, ha, hb => by
    have hx := ha x (List.mem_cons_self ..)
    have hy := hb y (List.mem_cons_self ..)
    have ih := lex_bytes a b (fun z hz => ha z (List.mem_cons_of_mem _ hz)) (fun z hz => hb z (List.mem_cons_of_mem _ hz))
    show Lib.compareBytes (UInt8.ofNat x.toNat :: Lib.bytesOf a) (UInt8.ofNat y.toNat :: Lib.bytesOf b) = _
    have lt : ∀ u v : Int, 0 ≤ u ∧ u ≤ 255 → 0 ≤ v ∧ v ≤ 255 → (UInt8.ofNat u.toNat < UInt8.ofNat v.toNat ↔ u < v) := by
      intro u v hu hv
      rw [UInt8.lt_iff_toNat_lt, UInt8.toNat_ofNat', UInt8.toNat_ofNat']
      omega
    rw [Lib.compareBytes, lex]
    by_cases h1 : x < y
    · rw [if_pos ((lt x y hx hy).2 h1), if_pos h1]
    · rw [if_neg (fun h => h1 ((lt x y hx hy).1 h)), if_neg h1]
      by_cases h2 : x > y
      · rw [if_pos ((lt y x hy hx).2 h2), if_pos h2]
      · rw [if_neg (fun h => h2 ((lt y x hy hx).1 h)), if_neg h2, ih]
/-- the order of valid items -/
def itemOrder (kd n : Int) (b : Nat) (t : List Int) (kd' n' : Int) (b' : Nat) (t' : List Int) : Int := if cmp3 kd kd' = 0 then if cmp3 n n' = 0 then if cmp3 (rankOf b) (rankOf b') = 0 then lex t t' else cmp3 (rankOf b) (rankOf b') else cmp3 n n' else cmp3 kd kd'
theorem cmp3_zero (a b : Int) : cmp3 a b = 0 ↔ a = b := by
  unfold cmp3
  split
  · omega
  · split <;> omega
theorem spec_FloatCompare_f (a b : Nat) (ha : a < 2 ^ 64) (hb : b < 2 ^ 64) : Ev (fun k => spec_FloatCompare.f k a b) (cmp3 (rankOf a) (rankOf b)) := by
  unfold spec_FloatCompare.f cmp3
  refine Ev.bind (spec_FloatRank_f a ha) ?_
  refine Ev.bind (spec_FloatRank_f b hb) ?_
  refine Ev.congr (f := fun _ => some _) (fun k => ?_) (Ev.now _)
  split
  · rfl
  · split <;> rfl
theorem impl_FloatCompare_f (a b : Nat) (ha : a < 2 ^ 64) (hb : b < 2 ^ 64) : impl_FloatCompare.f a b = some (cmp3 (rankOf a) (rankOf b)) := by
  unfold impl_FloatCompare.f cmp3
  rw [impl_FloatRank_f a ha, impl_FloatRank_f b hb]
  simp only [Option.bind_some, cmp_Compare_uint64.f, cmp_isNaN_uint64.f, bne_self_eq_false, Bool.false_eq_true, if_false]
  split
  · rfl
  · split <;> rfl
theorem cmp_int_f (a b : Int) : cmp_Compare_int.f a b = some (cmp3 a b) := by
  unfold cmp3
  simp only [Option.bind_some, cmp_Compare_int.f, cmp_isNaN_int.f, bne_self_eq_false, Bool.false_eq_true, if_false]
  split
  · rfl
  · split <;> rfl
theorem cmp_or4 (a b c d : Int) : Ev (fun k => cmp_Or_int.f k [a, b, c, d]) (if a = 0 then if b = 0 then if c = 0 then d else c else b else a) := by
  unfold cmp_Or_int.f
  have r : ∀ (i : Nat) (x : Int), rd [a, b, c, d] (i : Int) = x → i < 4 → ∀ (A : Int), (x = 0 → Ev (fun k => cmp_Or_int.l0 k 0 [a, b, c, d] 4 ((i : Int) + 1)) A) → (x ≠ 0 → A = x) → Ev (fun k => cmp_Or_int.l0 k 0 [a, b, c, d] 4 (i : Int)) A := by
    intro i x hx hi A h1 h2
    refine Ev.step (fun k => by rw [cmp_Or_int.l0, if_pos (by omega)]) ?_
    refine ev_pos (by omega) (ev_pos (by simp; omega) ?_)
    rw [hx]
    by_cases h : x = 0
    · refine ev_pos h ?_
      rw [w64 (by omega) (by omega)]
      exact h1 h
    · rw [h2 h]
      exact ev_neg h (Ev.now _)
  show Ev (fun k => cmp_Or_int.l0 k 0 [a, b, c, d] 4 ((0 : Nat) : Int)) _
  refine r 0 a rfl (by omega) _ (fun h1 => ?_) (fun h1 => if_neg h1)
  rw [if_pos h1]
  refine r 1 b rfl (by omega) _ (fun h2 => ?_) (fun h2 => if_neg h2)
  rw [if_pos h2]
  refine r 2 c rfl (by omega) _ (fun h3 => ?_) (fun h3 => if_neg h3)
  rw [if_pos h3]
  refine r 3 d rfl (by omega) _ (fun h4 => ?_) (fun _ => rfl)
  refine Ev.step (fun k => by rw [cmp_Or_int.l0, if_neg (by omega)]) ?_
  rw [h4]
  exact Ev.now _
theorem impl_compareItems_f (kd n : Int) (b : Nat) (t : List Int) (kd' n' : Int) (b' : Nat) (t' : List Int) (hb : b < 2 ^ 64) (hb' : b' < 2 ^ 64) (ht : IsBytes t) (ht' : IsBytes t') : Ev (fun k => impl_compareItems.f k kd n b t kd' n' b' t') (itemOrder kd n b t kd' n' b' t') := by
  unfold impl_compareItems.f itemOrder
  refine ev_bind0 (cmp_int_f kd kd') (ev_bind0 (cmp_int_f n n') (ev_bind0 (impl_FloatCompare_f b b' hb hb') (ev_bind0 (show bytes_Compare.f t t' = some (lex t t') by unfold bytes_Compare.f; rw [lex_bytes t t' ht ht']) ?_)))
  refine Ev.bind (cmp_or4 _ _ _ _) ?_
  exact Ev.now _
theorem spec_compare_j0 (kd n : Int) (b : Nat) (t : List Int) (kd' n' : Int) (b' : Nat) (t' : List Int) (hb : b < 2 ^ 64) (hb' : b' < 2 ^ 64) (ht : t.length ≤ 1048576) : Ev (fun k => spec_ItemCompare.j0 k false kd n b t kd' n' b' t') (itemOrder kd n b t kd' n' b' t') := by
  unfold itemOrder
  refine Ev.step (fun k => by rw [spec_ItemCompare.j0, if_neg Bool.false_ne_true]) ?_
  have two : ∀ x y : Int, x ≠ y → (if x < y then some (-1 : Int) else some 1) = some (cmp3 x y) := by
    intro x y h
    unfold cmp3
    by_cases h1 : x < y
    · rw [if_pos h1, if_pos h1]
    · rw [if_neg h1, if_neg h1, if_pos (by omega)]
  by_cases h1 : kd = kd'
  · rw [if_pos ((cmp3_zero _ _).2 h1)]
    refine ev_pos h1 ?_
    by_cases h2 : n = n'
    · rw [if_pos ((cmp3_zero _ _).2 h2)]
      refine ev_pos h2 ?_
      refine Ev.bind (spec_FloatCompare_f b b' hb hb') ?_
      by_cases h3 : cmp3 (rankOf b) (rankOf b') = 0
      · rw [if_pos h3]
        refine ev_pos h3 ?_
        refine Ev.bind (spec_l3texts_f t t' ht) ?_
        exact Ev.now _
      · rw [if_neg h3]
        exact ev_neg h3 (Ev.now _)
    · rw [if_neg (fun h => h2 ((cmp3_zero _ _).1 h))]
      refine ev_neg h2 ?_
      rw [two n n' h2]
      exact Ev.now _
  · rw [if_neg (fun h => h1 ((cmp3_zero _ _).1 h))]
    refine ev_neg h1 ?_
    rw [two kd kd' h1]
    exact Ev.now _

def itemCompareOf (kd n : Int) (b : Nat) (t : List Int) (kd' n' : Int) (b' : Nat) (t' : List Int) : Int := if itemOkP kd n b t = true then if itemOkP kd' n' b' t' = true then itemOrder kd n b t kd' n' b' t' else -2 else -2
theorem spec_ItemCompare_f (kd n : Int) (b : Nat) (t : List Int) (kd' n' : Int) (b' : Nat) (t' : List Int) (hb : b < 2 ^ 64) (hb' : b' < 2 ^ 64) (ht : t.length ≤ 1048576) : Ev (fun k => spec_ItemCompare.f k kd n b t kd' n' b' t') (itemCompareOf kd n b t kd' n' b' t') := by
  unfold spec_ItemCompare.f itemCompareOf
  refine Ev.bind (spec_ItemOk_f kd n b t hb) ?_
  have bad : Ev (fun k => spec_ItemCompare.j0 k true kd n b t kd' n' b' t') (-2) := by
    refine Ev.step (fun k => by rw [spec_ItemCompare.j0, if_pos rfl]) ?_
    exact Ev.now _
  cases itemOkP kd n b t with
  | false => exact ev_neg Bool.false_ne_true bad
  | true =>
    refine ev_pos rfl ?_
    refine Ev.bind (spec_ItemOk_f kd' n' b' t' hb') ?_
    cases itemOkP kd' n' b' t' with
    | false => exact bad
    | true => exact spec_compare_j0 kd n b t kd' n' b' t' hb hb' ht

theorem feq_zero_any (b : Nat) (hb : b < 2 ^ 64) : feq b 0 = decide (b = 0 ∨ b = 9223372036854775808) := by
  cases hn : isn b with
  | true =>
    rw [(cmp_nan b 0 (Or.inl ⟨hb, hn⟩)).1]
    symm
    refine decide_eq_false ?_
    rintro (rfl | rfl)
    · exact absurd hn (by decide)
    · exact absurd hn (by decide)
  | false => exact feq_zero b hb hn
/-- when an item can be a key -/
def keyOkP (kd n : Int) (b : Nat) (t : List Int) : Bool := itemOkP kd n b t && decide (kd ≠ 0 ∧ b ≠ 9223372036854775808)
theorem spec_KeyOk_f (kd n : Int) (b : Nat) (t : List Int) (hb : b < 2 ^ 64) : Ev (fun k => spec_KeyOk.f k kd n b t) (keyOkP kd n b t) := by
  unfold spec_KeyOk.f keyOkP
  refine Ev.bind (spec_ItemOk_f kd n b t hb) ?_
  cases itemOkP kd n b t with
  | false => exact ev_neg Bool.false_ne_true (Ev.now _)
  | true =>
    refine ev_pos rfl ?_
    by_cases h0 : kd = 0
    · refine ev_pos h0 ?_
      rw [decide_eq_false (by simp [h0])]
      exact Ev.now _
    · refine ev_neg h0 ?_
      rw [feq_zero_any b hb]
      by_cases hz : b = 0 ∨ b = 9223372036854775808
      · refine ev_pos (decide_eq_true hz) ?_
        refine Ev.bind (spec_FloatBits_f b hb) ?_
        have : (!((if isn b then 9221120237041090560 else (b : Int)) != 0)) = (true && decide (kd ≠ 0 ∧ b ≠ 9223372036854775808)) := by
          rcases hz with rfl | rfl
          · rw [(canon_zero 0).2 rfl, decide_eq_true ⟨h0, by omega⟩]
            rfl
          · rw [show isn 9223372036854775808 = false by decide, decide_eq_false (by simp)]
            rfl
        rw [this]
        exact Ev.now _
      · refine ev_neg (by rw [decide_eq_false hz]; exact Bool.false_ne_true) ?_
        rw [decide_eq_true ⟨h0, fun h => hz (Or.inr h)⟩]
        exact Ev.now _
theorem impl_KeyOk_f (kd n : Int) (b : Nat) (t : List Int) (hb : b < 2 ^ 64) : impl_KeyOk.f kd n b t = some (keyOkP kd n b t) := by
  unfold impl_KeyOk.f keyOkP
  rw [impl_ItemOk_f, feq_zero_any b hb]
  cases itemOkP kd n b t with
  | false => rfl
  | true =>
    simp only [Option.bind_some, if_true, Bool.true_and]
    repeat' split
    all_goals refine congrArg some ?_
    all_goals try simp only [decide_eq_true_eq] at *
    all_goals first
      | (symm; rw [decide_eq_true_eq]; omega)
      | (symm; rw [decide_eq_false_iff_not]; omega)
      | (rw [Bool.eq_iff_iff]; simp; omega)

/-- whether a key lies between two others -/
def inSpanP (k1 n1 : Int) (b1 : Nat) (t1 : List Int) (k2 n2 : Int) (b2 : Nat) (t2 : List Int) (k3 n3 : Int) (b3 : Nat) (t3 : List Int) : Bool :=
  if keyOkP k1 n1 b1 t1 = true then if keyOkP k2 n2 b2 t2 = true then if keyOkP k3 n3 b3 t3 = true then if itemOrder k1 n1 b1 t1 k3 n3 b3 t3 ≤ 0 then decide (itemOrder k3 n3 b3 t3 k2 n2 b2 t2 ≤ 0) else false else false else false else false
theorem keyOk_item (kd n : Int) (b : Nat) (t : List Int) (h : keyOkP kd n b t = true) : itemOkP kd n b t = true := by
  unfold keyOkP at h
  exact (Bool.and_eq_true_iff.1 h).1
theorem order_of_key (kd n : Int) (b : Nat) (t : List Int) (kd' n' : Int) (b' : Nat) (t' : List Int) (h : keyOkP kd n b t = true) (h' : keyOkP kd' n' b' t' = true) : itemCompareOf kd n b t kd' n' b' t' = itemOrder kd n b t kd' n' b' t' := by
  unfold itemCompareOf
  rw [if_pos (keyOk_item _ _ _ _ h), if_pos (keyOk_item _ _ _ _ h')]
theorem spec_InSpan_f (k1 n1 : Int) (b1 : Nat) (t1 : List Int) (k2 n2 : Int) (b2 : Nat) (t2 : List Int) (k3 n3 : Int) (b3 : Nat) (t3 : List Int) (hb1 : b1 < 2 ^ 64) (hb2 : b2 < 2 ^ 64) (hb3 : b3 < 2 ^ 64)
    (ht1 : t1.length ≤ 1048576) (ht2 : t2.length ≤ 1048576) (ht3 : t3.length ≤ 1048576) : Ev (fun k => spec_InSpan.f k k1 n1 b1 t1 k2 n2 b2 t2 k3 n3 b3 t3) (inSpanP k1 n1 b1 t1 k2 n2 b2 t2 k3 n3 b3 t3) := by
  unfold spec_InSpan.f inSpanP
  refine Ev.bind (spec_KeyOk_f k1 n1 b1 t1 hb1) ?_
  by_cases h1 : keyOkP k1 n1 b1 t1 = true
  · rw [if_pos h1]
    refine ev_pos h1 ?_
    refine Ev.bind (spec_KeyOk_f k2 n2 b2 t2 hb2) ?_
    by_cases h2 : keyOkP k2 n2 b2 t2 = true
    · rw [if_pos h2]
      refine ev_pos h2 ?_
      refine Ev.bind (spec_KeyOk_f k3 n3 b3 t3 hb3) ?_
      by_cases h3 : keyOkP k3 n3 b3 t3 = true
      · rw [if_pos h3]
        refine ev_pos h3 ?_
        refine Ev.bind (spec_ItemCompare_f k1 n1 b1 t1 k3 n3 b3 t3 hb1 hb3 ht1) ?_
        rw [order_of_key _ _ _ _ _ _ _ _ h1 h3]
        by_cases h4 : itemOrder k1 n1 b1 t1 k3 n3 b3 t3 ≤ 0
        · rw [if_pos h4]
          refine ev_pos h4 ?_
          refine Ev.bind (spec_ItemCompare_f k3 n3 b3 t3 k2 n2 b2 t2 hb3 hb2 ht3) ?_
          rw [order_of_key _ _ _ _ _ _ _ _ h3 h2]
          exact Ev.now _
        · rw [if_neg h4]
          exact ev_neg h4 (Ev.now _)
      · rw [if_neg h3]
        exact ev_neg h3 (Ev.now _)
    · rw [if_neg h2]
      exact ev_neg h2 (Ev.now _)
  · rw [if_neg h1]
    exact ev_neg h1 (Ev.now _)
theorem impl_InSpan_f (k1 n1 : Int) (b1 : Nat) (t1 : List Int) (k2 n2 : Int) (b2 : Nat) (t2 : List Int) (k3 n3 : Int) (b3 : Nat) (t3 : List Int) (hb1 : b1 < 2 ^ 64) (hb2 : b2 < 2 ^ 64) (hb3 : b3 < 2 ^ 64)
    (ht1 : IsBytes t1) (ht2 : IsBytes t2) (ht3 : IsBytes t3) : Ev (fun k => impl_InSpan.f k k1 n1 b1 t1 k2 n2 b2 t2 k3 n3 b3 t3) (inSpanP k1 n1 b1 t1 k2 n2 b2 t2 k3 n3 b3 t3) := by
  unfold impl_InSpan.f inSpanP
  refine ev_bind0 (impl_KeyOk_f k1 n1 b1 t1 hb1) ?_
  by_cases h1 : keyOkP k1 n1 b1 t1 = true
  · rw [if_pos h1]
    refine ev_pos h1 ?_
    refine ev_bind0 (impl_KeyOk_f k2 n2 b2 t2 hb2) ?_
    by_cases h2 : keyOkP k2 n2 b2 t2 = true
    · rw [if_pos h2]
      refine ev_pos h2 ?_
      refine ev_bind0 (impl_KeyOk_f k3 n3 b3 t3 hb3) ?_
      by_cases h3 : keyOkP k3 n3 b3 t3 = true
      · rw [if_pos h3]
        refine ev_pos h3 ?_
        refine Ev.bind (impl_compareItems_f k1 n1 b1 t1 k3 n3 b3 t3 hb1 hb3 ht1 ht3) ?_
        by_cases h4 : itemOrder k1 n1 b1 t1 k3 n3 b3 t3 ≤ 0
        · rw [if_pos h4]
          refine ev_pos h4 ?_
          refine Ev.bind (impl_compareItems_f k3 n3 b3 t3 k2 n2 b2 t2 hb3 hb2 ht3 ht2) ?_
          exact Ev.now _
        · rw [if_neg h4]
          exact ev_neg h4 (Ev.now _)
      · rw [if_neg h3]
        exact ev_neg h3 (Ev.now _)
    · rw [if_neg h2]
      exact ev_neg h2 (Ev.now _)
  · rw [if_neg h1]
    exact ev_neg h1 (Ev.now _)

/-- The pure statement. -/
def Stmt : Prop := ∀ (a0_0 : Int) (a0_1 : Int) (a0_2 : Nat) (l0_3 : List Int) (a1_0 : Int) (a1_1 : Int) (a1_2 : Nat) (l1_3 : List Int) (a2_0 : Int) (a2_1 : Int) (a2_2 : Nat) (l2_3 : List Int), ((fun n => (Lit.int .i64 n).wf = true) a0_0) → ((fun n => (Lit.int .i64 n).wf = true) a0_1) → ((fun b => b < 2 ^ 64) a0_2) → ((fun xs => xs.length ≤ 9223372036854775807 ∧ ∀ x ∈ xs, (fun n => (Lit.int .u8 n).wf = true) x) l0_3) → ((fun n => (Lit.int .i64 n).wf = true) a1_0) → ((fun n => (Lit.int .i64 n).wf = true) a1_1) → ((fun b => b < 2 ^ 64) a1_2) → ((fun xs => xs.length ≤ 9223372036854775807 ∧ ∀ x ∈ xs, (fun n => (Lit.int .u8 n).wf = true) x) l1_3) → ((fun n => (Lit.int .i64 n).wf = true) a2_0) → ((fun n => (Lit.int .i64 n).wf = true) a2_1) → ((fun b => b < 2 ^ 64) a2_2) → ((fun xs => xs.length ≤ 9223372036854775807 ∧ ∀ x ∈ xs, (fun n => (Lit.int .u8 n).wf = true) x) l2_3) → ∃ k, laws_FnExactInSpan.f k a0_0 a0_1 a0_2 l0_3 a1_0 a1_1 a1_2 l1_3 a2_0 a2_1 a2_2 l2_3 = some true
theorem main : Stmt := by
  intro k1 n1 b1 t1 k2 n2 b2 t2 k3 n3 b3 t3 _ _ hb1 hw1 _ _ hb2 hw2 _ _ hb3 hw3
  refine Ev.rounds ?_
  unfold laws_FnExactInSpan.f
  refine ev_bind0 (szItem_f k1 n1 b1 t1 1048576 (by omega)) ?_
  by_cases hs1 : (1048576 : Int) - t1.length < 0
  · rw [if_pos hs1]
    exact ev_pos (by omega) (Ev.now _)
  rw [if_neg hs1]
  refine ev_neg hs1 ?_
  refine ev_bind0 (szItem_f k2 n2 b2 t2 _ (by omega)) ?_
  by_cases hs2 : (1048576 : Int) - t1.length - t2.length < 0
  · rw [if_pos hs2]
    exact ev_pos (by omega) (Ev.now _)
  rw [if_neg hs2]
  refine ev_neg hs2 ?_
  refine ev_bind0 (szItem_f k3 n3 b3 t3 _ (by omega)) ?_
  by_cases hs3 : (1048576 : Int) - t1.length - t2.length - t3.length < 0
  · rw [if_pos hs3]
    exact ev_pos (by omega) (Ev.now _)
  rw [if_neg hs3]
  refine ev_neg hs3 ?_
  have ht1 : t1.length ≤ 1048576 := by omega
  have ht2 : t2.length ≤ 1048576 := by omega
  have ht3 : t3.length ≤ 1048576 := by omega
  refine Ev.bind (toItem_f k1 n1 b1 t1 ht1) ?_
  refine Ev.bind (toItem_f k2 n2 b2 t2 ht2) ?_
  refine Ev.bind (toItem_f k3 n3 b3 t3 ht3) ?_
  refine Ev.bind (spec_InSpan_f k1 n1 b1 t1 k2 n2 b2 t2 k3 n3 b3 t3 hb1 hb2 hb3 ht1 ht2 ht3) ?_
  refine Ev.bind (toItem_f k1 n1 b1 t1 ht1) ?_
  refine Ev.bind (toItem_f k2 n2 b2 t2 ht2) ?_
  refine Ev.bind (toItem_f k3 n3 b3 t3 ht3) ?_
  refine Ev.bind (impl_InSpan_f k1 n1 b1 t1 k2 n2 b2 t2 k3 n3 b3 t3 hb1 hb2 hb3 (isBytes_of hw1.2) (isBytes_of hw2.2) (isBytes_of hw3.2)) ?_
  refine ev_neg (by simp) ?_
  refine Ev.bind (toItem_f k1 n1 b1 t1 ht1) ?_
  refine Ev.bind (eqItem_f k1 n1 b1 b1 t1 ht1 hb1 hb1 (Or.inl rfl)) (ev_pos rfl ?_)
  refine Ev.bind (toItem_f k2 n2 b2 t2 ht2) ?_
  refine Ev.bind (eqItem_f k2 n2 b2 b2 t2 ht2 hb2 hb2 (Or.inl rfl)) (ev_pos rfl ?_)
  refine Ev.bind (toItem_f k3 n3 b3 t3 ht3) ?_
  refine Ev.bind (eqItem_f k3 n3 b3 b3 t3 ht3 hb3 hb3 (Or.inl rfl)) ?_
  exact ev_pos rfl (Ev.now _)

end Go.Proofs.Ytcjeokkhpjppaaa.Pure.ofFnExactInSpan
namespace Go.Proofs.Ytcjeokkhpjppaaa.PrintWords
/-- The word that the printed row asks for, under the name by which it asks. -/
abbrev sized_ints := @Go.Proofs.YtcjeokkhpjppaaaW.PrintWords.sized_ints
end Go.Proofs.Ytcjeokkhpjppaaa.PrintWords
namespace Go.Proofs.Ytcjeokkhpjppaaa.Pure
open Go.Proofs.Ytcjeokkhpjppaaa.PFnExactInSpan
theorem FnExactInSpan : ofFnExactInSpan.Stmt := ofFnExactInSpan.main
end Go.Proofs.Ytcjeokkhpjppaaa.Pure
