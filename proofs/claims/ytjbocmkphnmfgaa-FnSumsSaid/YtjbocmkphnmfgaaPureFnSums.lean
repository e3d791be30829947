/-
The law FnSums answers true: for all bytes the sum of the drawn floats and one more is their sum and this one (by its bits), and the sum of none is +0.
Conditions: none beyond the bounds of the statement itself.
-/
import Derived.Test.YtjbocmkphnmfgaaPFnSumsx3
import Derived.Test.YtjbocmkphnmfgaaWSized
import Derived.Test.YtjbocmkphnmfgaaXIeee
set_option linter.unusedVariables false
set_option linter.unusedSimpArgs false
namespace Go.Proofs.Ytjbocmkphnmfgaa.Pure.ofFnSums
open Go.Proofs.YtjbocmkphnmfgaaX
open Go.RowKit Go.Proofs.Ytjbocmkphnmfgaa.PFnSums Go.Proofs.YtjbocmkphnmfgaaW.PrintWords Go.Proofs.YtjbocmkphnmfgaaW.PrintLast Go.Proofs.YtjbocmkphnmfgaaW.PrintMore

theorem ev_pos {α : Type} {c : Prop} [Decidable c] {A B : Nat → Option α} {r : α} (hc : c) (h : Ev A r) : Ev (fun k => if c then A k else B k) r := by
  refine Ev.congr (fun k => ?_) h
  rw [if_pos hc]
theorem ev_neg {α : Type} {c : Prop} [Decidable c] {A B : Nat → Option α} {r : α} (hc : ¬ c) (h : Ev B r) : Ev (fun k => if c then A k else B k) r := by
  refine Ev.congr (fun k => ?_) h
  rw [if_neg hc]
theorem ev_bind0 {α β : Type} {g : Option α} {f : Nat → α → Option β} {a : α} {r : β} (h : g = some a) (k : Ev (fun n => f n a) r) : Ev (fun n => g.bind (f n)) r := by
  refine Ev.congr (fun n => ?_) k
  rw [h]; rfl
theorem w64 {x : Int} (h0 : -9223372036854775808 ≤ x) (h1 : x ≤ 9223372036854775807) : wrap64 x = x := by
  unfold wrap64; omega
theorem rd_cons (x : Int) (l : List Int) : rd (x :: l) 0 = x := rfl
theorem rd_nat (l : List Int) (i : Nat) (h : i < l.length) : rd l (i : Int) = l[i] := by
  simp [rd, List.getD_eq_getElem?_getD, List.getElem?_eq_getElem h]
theorem rd_at (l : List Int) (i : Int) (h0 : 0 ≤ i) (h : i < l.length) : ∃ x, x ∈ l ∧ rd l i = x := by
  obtain ⟨n, rfl⟩ := Int.eq_ofNat_of_zero_le h0
  exact ⟨l[n]'(by omega), List.getElem_mem _, rd_nat l n (by omega)⟩
def marks (m : Int) : Nat → List Int
  | 0 => []
  | n + 1 => m :: marks (m + 1) n
def marksB (m : Int) : Nat → List Int
  | 0 => []
  | n + 1 => (m % 256) :: marksB (m + 1) n
theorem marks_length (n : Nat) : ∀ m, (marks m n).length = n := by
  induction n with
  | zero => intro m; rfl
  | succ n ih => intro m; simp [marks, ih]
theorem marksB_length (n : Nat) : ∀ m, (marksB m n).length = n := by
  induction n with
  | zero => intro m; rfl
  | succ n ih => intro m; simp [marksB, ih]
theorem marks_get (n : Nat) : ∀ m (i : Nat) (h : i < (marks m n).length), (marks m n)[i] = m + i := by
  induction n with
  | zero => intro m i h; simp [marks] at h
  | succ n ih =>
    intro m i h
    cases i with
    | zero => simp [marks]
    | succ i => simp only [marks, List.getElem_cons_succ]; rw [ih]; push_cast; omega
theorem marksB_get (n : Nat) : ∀ m (i : Nat) (h : i < (marksB m n).length), (marksB m n)[i] = (m + i) % 256 := by
  induction n with
  | zero => intro m i h; simp [marksB] at h
  | succ n ih =>
    intro m i h
    cases i with
    | zero => simp [marksB]
    | succ i => simp only [marksB, List.getElem_cons_succ]; rw [ih]; push_cast; omega


theorem u64_or_add (i : Nat) {x y : Int} (hx0 : 0 ≤ x) (hx : x % 2 ^ i = 0) (hx1 : x < 18446744073709551616) (hy0 : 0 ≤ y) (hy : y < 2 ^ i) (hy1 : y < 18446744073709551616) : Go.bits .or .u64 x y = x + y :=
  bits_join .u64 64 (by decide) (fun n a b => by simp [IntKind.wrap, IntKind.bits, IntKind.signed]; omega) i x y hx0 hx hx1 hy0 hy hy1
theorem fival_u64 (a : Nat) (n : Int) (h : (Ieee.double.read a).toInt .zero = some n) (h0 : 0 ≤ n) (h1 : n < 18446744073709551616) : fiok .u64 a = true ∧ fival .u64 a = n := by
  have e : floatToIntVal .f64 a .u64 = some n := by
    unfold floatToIntVal
    have : FloatKind.decode .f64 a = Ieee.double.read a := rfl
    rw [this, h]
    have e1 : IntKind.u64.min = 0 := by rfl
    have e2 : IntKind.u64.max = 18446744073709551615 := by rfl
    exact if_pos ⟨by omega, by omega⟩
  unfold fiok fival
  rw [e]
  exact ⟨rfl, rfl⟩
theorem fls_nat (a b : Nat) (ha : a ≤ 9218868437227405312) (hb : b ≤ 9218868437227405312) : fls a b = decide (a < b) := by
  rw [fls_key a b (by omega) (by omega) (isn_pos a ha) (isn_pos b hb), fkey_pos a (by omega), fkey_pos b (by omega)]
  exact decide_eq_decide.2 (by omega)
theorem fge_nat (a b : Nat) (ha : a ≤ 9218868437227405312) (hb : b ≤ 9218868437227405312) : fge a b = decide (b ≤ a) := by
  rw [fge_key a b (by omega) (by omega) (isn_pos a ha) (isn_pos b hb), fkey_pos a (by omega), fkey_pos b (by omega)]
  exact decide_eq_decide.2 (by omega)
theorem fgt_nat (a b : Nat) (ha : a ≤ 9218868437227405312) (hb : b ≤ 9218868437227405312) : fgt a b = decide (b < a) := by
  rw [fgt_key a b (by omega) (by omega) (isn_pos a ha) (isn_pos b hb), fkey_pos a (by omega), fkey_pos b (by omega)]
  exact decide_eq_decide.2 (by omega)
theorem feq_nat (a b : Nat) (ha : a ≤ 9218868437227405312) (hb : b ≤ 9218868437227405312) : feq a b = decide (a = b) := by
  rw [feq_key a b (by omega) (by omega) (isn_pos a ha) (isn_pos b hb), fkey_pos a (by omega), fkey_pos b (by omega)]
  exact decide_eq_decide.2 (by omega)
theorem lt_one (N : Nat) (q : Int) (h : 0 < N) (h2 : N < 2 ^ 53) (hq : -1074 ≤ q) (hv : q + N.log2 ≤ 1023) : fls (fl N q) 4607182418800017408 = decide (q + N.log2 < 0) := by
  rw [fls_nat _ _ (fl_lt N q h h2 hq).2 (by omega)]
  have := fl_below N q h h2 hq hv 1022 (by omega)
  exact decide_eq_decide.2 (by omega)
theorem ge_two (N : Nat) (q : Int) (h : 0 < N) (h2 : N < 2 ^ 53) (hq : -1074 ≤ q) (hv : q + N.log2 ≤ 1023) : fge (fl N q) 4611686018427387904 = decide (1 ≤ q + N.log2) := by
  rw [fge_nat _ _ (fl_lt N q h h2 hq).2 (by omega)]
  have := fl_below N q h h2 hq hv 1023 (by omega)
  exact decide_eq_decide.2 (by omega)
theorem pow_mod (a b k : Nat) (h : k ≤ b) : ((a * 2 ^ b : Nat) : Int) % 2 ^ k = 0 := by
  obtain ⟨c, rfl⟩ := Nat.le.dest h
  rw [Nat.pow_add]
  have : ((a * (2 ^ k * 2 ^ c) : Nat) : Int) = ((a * 2 ^ c : Nat) : Int) * 2 ^ k := by push_cast; rw [Int.mul_assoc, Int.mul_comm (2 ^ c : Int)]
  rw [this]
  exact Int.mul_emod_left _ _
/-- the last step where the float stands in [1, 2) -/
theorem bits_unit (S : Int) (hS : S = 0 ∨ S = 9223372036854775808) (N : Nat) (q : Int) (h : 0 < N) (h2 : N < 2 ^ 53) (hq : -1074 ≤ q) (hv : q + N.log2 ≤ 1023) (E : Int) (hE : -1022 ≤ E) (hE2 : q + N.log2 = E) : Ev (fun k => spec_FloatBits.l1 k S (fl N (q - E)) E) (S + (fl N q : Nat)) := by
  have hlog := log2_le N h h2
  have hfin := fl_finite N q h h2 hq hv
  have hself : 2 ^ N.log2 ≤ N := Nat.log2_self_le (by omega)
  have hup : N < 2 ^ (N.log2 + 1) := Nat.lt_log2_self
  have hL : lastOf N q = E - 52 := by unfold lastOf; omega
  rw [hL] at hfin
  have hsub := sub_one N h h2
  rw [show q - E = -(N.log2 : Int) by omega]
  refine Ev.step (fun k => by rw [spec_FloatBits.l1, if_neg (by rw [lt_one N _ h h2 (by omega) (by omega), decide_eq_false (by omega)]; exact Bool.false_ne_true)]) ?_
  have hs := fl_ok (o := .sub) hsub
  refine ev_pos hs.1 ?_
  rw [hs.2]
  have key : fok .mul (if N = 2 ^ N.log2 then 0 else fl (N - 2 ^ N.log2) (-(N.log2 : Int))) 4841369599423283200 = true ∧ fiok .u64 (fval .mul (if N = 2 ^ N.log2 then 0 else fl (N - 2 ^ N.log2) (-(N.log2 : Int))) 4841369599423283200) = true ∧ fival .u64 (fval .mul (if N = 2 ^ N.log2 then 0 else fl (N - 2 ^ N.log2) (-(N.log2 : Int))) 4841369599423283200) = ((N - 2 ^ N.log2) * 2 ^ (52 - N.log2) : Nat) := by
    have hb : (N - 2 ^ N.log2) * 2 ^ (52 - N.log2) < 4503599627370496 := by
      have h3 : N - 2 ^ N.log2 < 2 ^ N.log2 := by rw [Nat.pow_succ] at hup; omega
      have h4 : (N - 2 ^ N.log2) * 2 ^ (52 - N.log2) < 2 ^ N.log2 * 2 ^ (52 - N.log2) := Nat.mul_lt_mul_of_pos_right h3 (Nat.two_pow_pos _)
      rw [← Nat.pow_add, show N.log2 + (52 - N.log2) = 52 by omega] at h4
      exact h4
    by_cases hz : N = 2 ^ N.log2
    · rw [if_pos hz, show N - 2 ^ N.log2 = 0 by omega, Nat.zero_mul]
      have hm := fl_ok (o := .mul) (a := 0) (b := 4841369599423283200) (r := 0) (by
        show Ieee.double.mul 0 4841369599423283200 = some 0
        unfold Ieee.Format.mul
        rw [read_zero, read_wide]
        show some (Ieee.double.write (.number false (0 * 4503599627370496) _)) = _
        rw [Nat.zero_mul, write_zero, word_false])
      rw [hm.2]
      exact ⟨hm.1, fival_u64 0 0 toInt_zero (by omega) (by omega)⟩
    · rw [if_neg hz]
      have hlt : N - 2 ^ N.log2 < 2 ^ 53 := Nat.lt_of_le_of_lt (Nat.sub_le _ _) h2
      have hlog' := log2_le (N - 2 ^ N.log2) (by omega) hlt
      have hm := fl_ok (o := .mul) (mul_pow (N - 2 ^ N.log2) (-(N.log2 : Int)) 4841369599423283200 0 (by omega) hlt (by omega) (by omega) read_wide (by omega))
      rw [hm.2, show -(N.log2 : Int) + 0 + 52 = ((52 - N.log2 : Nat) : Int) by omega]
      exact ⟨hm.1, fival_u64 _ _ (toInt_fl (N - 2 ^ N.log2) (52 - N.log2) (by omega) hlt (by omega)) (by omega) (by omega)⟩
  refine ev_pos key.1 ?_
  refine ev_pos key.2.1 ?_
  rw [key.2.2, hfin.1]
  have hmul : N * 2 ^ (52 - N.log2) = (N - 2 ^ N.log2) * 2 ^ (52 - N.log2) + 4503599627370496 := by
    have h1 : (4503599627370496 : Nat) = 2 ^ N.log2 * 2 ^ (52 - N.log2) := by rw [← Nat.pow_add, show N.log2 + (52 - N.log2) = 52 by omega]
    rw [h1, ← Nat.add_mul, show N - 2 ^ N.log2 + 2 ^ N.log2 = N by omega]
  have hb : (N - 2 ^ N.log2) * 2 ^ (52 - N.log2) < 4503599627370496 := by
    have h3 : N - 2 ^ N.log2 < 2 ^ N.log2 := by rw [Nat.pow_succ] at hup; omega
    have h4 : (N - 2 ^ N.log2) * 2 ^ (52 - N.log2) < 2 ^ N.log2 * 2 ^ (52 - N.log2) := Nat.mul_lt_mul_of_pos_right h3 (Nat.two_pow_pos _)
    rw [← Nat.pow_add, show N.log2 + (52 - N.log2) = 52 by omega] at h4
    exact h4
  rw [show (q - (E - 52)).toNat = 52 - N.log2 by omega, hmul]
  generalize (N - 2 ^ N.log2) * 2 ^ (52 - N.log2) = F at hb
  rw [w64 (by omega) (by omega)]
  have e1 : IntKind.u64.wrap (E + 1023) = E + 1023 := by simp [IntKind.wrap, IntKind.bits, IntKind.signed]; omega
  have e2 : IntKind.u64.wrap ((E + 1023) * 4503599627370496) = (E + 1023) * 4503599627370496 := by simp [IntKind.wrap, IntKind.bits, IntKind.signed]; omega
  rw [e1, e2, u64_or_add 63 (x := S) (y := (E + 1023) * 4503599627370496) (by omega) (by rcases hS with rfl | rfl <;> rfl) (by omega) (by omega) (show _ < (9223372036854775808 : Int) by omega) (by omega)]
  rw [u64_or_add 52 (by omega) (show _ % (4503599627370496 : Int) = 0 by omega) (by omega) (by omega) (show _ < (4503599627370496 : Int) by omega) (by omega)]
  have e3 : S + (E + 1023) * 4503599627370496 + (F : Int) = S + (((E - 52 + 1074).toNat * 4503599627370496 + (F + 4503599627370496) : Nat) : Int) := by omega
  rw [e3]
  exact Ev.now _
/-- the last step: the bits of what is left, E places below -/
theorem bits_l1 (S : Int) (hS : S = 0 ∨ S = 9223372036854775808) (N : Nat) (q : Int) (h : 0 < N) (h2 : N < 2 ^ 53) (hq : -1074 ≤ q) (hv : q + N.log2 ≤ 1023) : ∀ (n : Nat) (E : Int), E ≤ 1023 → -1022 ≤ E → q + N.log2 ≤ E → -1074 ≤ q - E → (n : Int) = E + 1022 → Ev (fun k => spec_FloatBits.l1 k S (fl N (q - E)) E) (S + (fl N q : Nat)) := by
  have hlog := log2_le N h h2
  have hl := last_le N q h h2 hq
  have hm := mag_bound N q h h2 hq
  have hfin := fl_finite N q h h2 hq hv
  have hself : 2 ^ N.log2 ≤ N := Nat.log2_self_le (by omega)
  have hup : N < 2 ^ (N.log2 + 1) := Nat.lt_log2_self
  intro n
  induction n with
  | zero =>
    intro E hE1 hE2 hE3 hE4 hn
    have hE : E = -1022 := by omega
    subst hE
    by_cases hz : q + N.log2 = -1022
    · exact bits_unit S hS N q h h2 hq hv _ (by omega) (by omega)
    · have hL : lastOf N q = -1074 := by unfold lastOf; omega
      rw [hL] at hm hfin
      have hsmall : N * 2 ^ (q - -1074).toNat < 9007199254740992 := hm.2.1
      refine Ev.step (fun k => by rw [spec_FloatBits.l1, if_pos (by rw [lt_one N _ h h2 (by omega) (by omega)]; exact decide_eq_true (by omega)), if_neg (by omega)]) ?_
      have hmul := fl_ok (o := .mul) (mul_pow N (q - -1022) 4841369599423283200 0 h h2 (by omega) (by omega) read_wide (by omega))
      have hq2 : q - -1022 + 0 + 52 = ((q - -1074).toNat : Int) := by omega
      rw [hq2] at hmul
      have hi := fival_u64 _ _ (toInt_fl N (q - -1074).toNat h h2 (by omega)) (by omega) (by omega)
      refine ev_pos hmul.1 ?_
      rw [hmul.2]
      refine ev_pos hi.1 ?_
      rw [hi.2, hfin.1]
      rw [show (-1074 + 1074 : Int).toNat = 0 by omega, Nat.zero_mul, Nat.zero_add]
      have hlt : N * 2 ^ (q - -1074).toNat < 9007199254740992 := hm.2.1
      rw [u64_or_add 53 (by omega) (by rcases hS with rfl | rfl <;> rfl) (by omega) (by omega) (show _ < (9007199254740992 : Int) by omega) (by omega)]
      exact Ev.now _
  | succ n ih =>
    intro E hE1 hE2 hE3 hE4 hn
    by_cases hz : q + N.log2 = E
    · exact bits_unit S hS N q h h2 hq hv _ (by omega) (by omega)
    · refine Ev.step (fun k => by rw [spec_FloatBits.l1, if_pos (by rw [lt_one N _ h h2 (by omega) (by omega)]; exact decide_eq_true (by omega)), if_pos (by omega)]) ?_
      have hmul := fl_ok (o := .mul) (mul_pow N (q - E) 4611686018427387904 (-51) h h2 (by omega) (by omega) read_two (by omega))
      refine ev_pos hmul.1 ?_
      rw [hmul.2, w64 (by omega) (by omega), show q - E + -51 + 52 = q - (E - 1) by omega]
      exact ih (E - 1) (by omega) (by omega) (by omega) (by omega) (by omega)
/-- halving while the float is two or more -/
theorem bits_l0 (S : Int) (hS : S = 0 ∨ S = 9223372036854775808) (N : Nat) (q : Int) (h : 0 < N) (h2 : N < 2 ^ 53) (hq : -1074 ≤ q) (hv : q + N.log2 ≤ 1023) : ∀ (n : Nat) (E : Int), 0 ≤ E → (E = 0 ∨ E ≤ q + N.log2) → (n : Int) = 1023 - E → Ev (fun k => spec_FloatBits.l0 k S (fl N (q - E)) E) (S + (fl N q : Nat)) := by
  have hlog := log2_le N h h2
  intro n
  induction n with
  | zero =>
    intro E h0 hE hn
    refine Ev.step (fun k => by rw [spec_FloatBits.l0, if_neg (by rw [ge_two N _ h h2 (by omega) (by omega), decide_eq_false (by omega)]; exact Bool.false_ne_true)]) ?_
    exact bits_l1 S hS N q h h2 hq hv (E + 1022).toNat E (by omega) (by omega) (by omega) (by omega) (by omega)
  | succ n ih =>
    intro E h0 hE hn
    by_cases hz : q + N.log2 ≤ E
    · refine Ev.step (fun k => by rw [spec_FloatBits.l0, if_neg (by rw [ge_two N _ h h2 (by omega) (by omega), decide_eq_false (by omega)]; exact Bool.false_ne_true)]) ?_
      exact bits_l1 S hS N q h h2 hq hv (E + 1022).toNat E (by omega) (by omega) (by omega) (by omega) (by omega)
    · refine Ev.step (fun k => by rw [spec_FloatBits.l0, if_pos (by rw [ge_two N _ h h2 (by omega) (by omega)]; exact decide_eq_true (by omega))]) ?_
      have hquo := fl_ok (o := .quo) (quo_pow N (q - E) 4611686018427387904 (-51) h h2 (by omega) (by omega) read_two (by omega))
      refine ev_pos hquo.1 ?_
      rw [hquo.2, w64 (by omega) (by omega), show q - E - -51 - 52 = q - (E + 1) by omega]
      exact ih (E + 1) (by omega) (by omega) (by omega)
theorem bits_j1 (S : Int) (hS : S = 0 ∨ S = 9223372036854775808) (c : Nat) (hc : c ≤ 9218868437227405312) : Ev (fun k => spec_FloatBits.j1 k S c) (S + (c : Nat)) := by
  by_cases h0 : c = 0
  · subst h0
    refine Ev.step (fun k => by rw [spec_FloatBits.j1, if_pos (by rw [feq_nat _ _ (by omega) (by omega)]; rfl)]) ?_
    rw [show S + ((0 : Nat) : Int) = S by omega]
    exact Ev.now _
  by_cases hi : c = 9218868437227405312
  · subst hi
    refine Ev.step (fun k => by rw [spec_FloatBits.j1, if_neg (by rw [feq_nat _ _ (by omega) (by omega), decide_eq_false (by omega)]; exact Bool.false_ne_true), if_pos (by rw [fgt_nat _ _ (by omega) (by omega)]; exact decide_eq_true (by omega))]) ?_
    rw [u64_or_add 63 (by omega) (by rcases hS with rfl | rfl <;> rfl) (by omega) (by omega) (show _ < (9223372036854775808 : Int) by omega) (by omega)]
    exact Ev.now _
  · obtain ⟨a1, a2, a3, a4⟩ := log2_mg c (by omega) (by omega)
    obtain ⟨e, hp, hp2, hm, hn⟩ := mg_pl c (by omega)
    refine Ev.step (fun k => by rw [spec_FloatBits.j1, if_neg (by rw [feq_nat _ _ (by omega) (by omega)]; simp [h0]), if_neg (by rw [fgt_nat _ _ (by omega) (by omega), decide_eq_false (by omega)]; exact Bool.false_ne_true)]) ?_
    have := bits_l0 S hS (mg c) (pl c) a1 a2 hp a4 1023 0 (by omega) (Or.inl rfl) (by omega)
    rw [show pl c - 0 = pl c by omega, fl_eta c (by omega) (by omega)] at this
    exact this
/-- THE REFERENCE's BITS: the float's own, of every NaN one -/
theorem spec_FloatBits_f (a : Nat) (ha : a < 2 ^ 64) : Ev (fun k => spec_FloatBits.f k a) (if isn a then 9221120237041090560 else (a : Int)) := by
  unfold spec_FloatBits.f
  cases hn : isn a with
  | true =>
    refine ev_neg (by rw [feq_self a ha, hn]; simp) ?_
    exact Ev.now _
  | false =>
    refine ev_pos (by rw [feq_self a ha, hn]; rfl) ?_
    rw [if_neg (by simp)]
    have hz : isn 0 = false := isn_pos 0 (by omega)
    have low : ∀ c, c ≤ 9218868437227405312 → a = c → Ev (fun k => if fls a 0 = true then spec_FloatBits.j0 k a 0 a true else if feq a 0 = true then if fok .quo 4607182418800017408 a = true then spec_FloatBits.j0 k a 0 a (fls (fval .quo 4607182418800017408 a) 0) else none else spec_FloatBits.j0 k a 0 a false) (a : Int) := by
      intro c hc hac
      subst hac
      have fin : Ev (fun k => spec_FloatBits.j0 k a 0 a false) (a : Int) := by
        refine Ev.step (fun k => by rw [spec_FloatBits.j0, if_neg (by simp)]) ?_
        have := bits_j1 0 (Or.inl rfl) a hc
        rw [Int.zero_add] at this
        exact this
      refine ev_neg (by rw [fls_nat a 0 hc (by omega)]; simp) ?_
      by_cases h0 : a = 0
      · subst h0
        refine ev_pos (by rw [feq_nat 0 0 (by omega) (by omega)]; rfl) ?_
        have hq := fl_ok (o := .quo) (a := 4607182418800017408) (b := 0) (r := 9218868437227405312) (by
          show Ieee.double.div 4607182418800017408 0 = some 9218868437227405312
          unfold Ieee.Format.div
          rw [read_zero, read_one]
          rfl)
        refine ev_pos hq.1 ?_
        rw [hq.2, fls_nat _ _ (by omega) (by omega)]
        exact fin
      · refine ev_neg (by rw [feq_nat a 0 hc (by omega)]; simp [h0]) ?_
        exact fin
    have high : ∀ c, c ≤ 9218868437227405312 → a = 9223372036854775808 + c → Ev (fun k => if fls a 0 = true then spec_FloatBits.j0 k a 0 a true else if feq a 0 = true then if fok .quo 4607182418800017408 a = true then spec_FloatBits.j0 k a 0 a (fls (fval .quo 4607182418800017408 a) 0) else none else spec_FloatBits.j0 k a 0 a false) (a : Int) := by
      intro c hc hac
      have fin : Ev (fun k => spec_FloatBits.j0 k a 0 a true) (a : Int) := by
        refine Ev.step (fun k => by rw [spec_FloatBits.j0, if_pos rfl]) ?_
        have := bits_j1 9223372036854775808 (Or.inr rfl) c hc
        rw [hac, fneg_neg c (by omega)]
        rw [show ((9223372036854775808 + c : Nat) : Int) = 9223372036854775808 + (c : Int) by omega]
        exact this
      have hk := fkey_neg c a hac
      have hk0 : fkey 0 = 0 := fkey_pos 0 (by omega)
      by_cases h0 : c = 0
      · subst h0
        refine ev_neg (by rw [fls_key a 0 ha (by omega) hn hz, hk, hk0]; simp) ?_
        refine ev_pos (by rw [feq_key a 0 ha (by omega) hn hz, hk, hk0]; rfl) ?_
        have hq := fl_ok (o := .quo) (a := 4607182418800017408) (b := 9223372036854775808) (r := 18442240474082181120) (by
          show Ieee.double.div 4607182418800017408 9223372036854775808 = some 18442240474082181120
          unfold Ieee.Format.div
          rw [read_nzero, read_one]
          rfl)
        rw [Nat.add_zero] at hac
        rw [hac] at fin ⊢
        refine ev_pos hq.1 ?_
        rw [hq.2]
        have e : fls 18442240474082181120 0 = true := by
          rw [fls_key _ 0 (by omega) (by omega) (isn_neg 9218868437227405312 (by omega)) hz, hk0, fkey_neg 9218868437227405312 18442240474082181120 rfl]
          exact decide_eq_true (by omega)
        rw [e]
        exact fin
      · refine ev_pos (by rw [fls_key a 0 ha (by omega) hn hz, hk, hk0]; exact decide_eq_true (by omega)) ?_
        exact fin
    rcases word_real a ha hn with g | g | ⟨c, g, hc⟩ | g
    · exact low a (by omega) rfl
    · exact low a (by omega) rfl
    · exact high c (by omega) g
    · exact high 9218868437227405312 (by omega) g


theorem fkey_zero (a : Nat) (ha : a < 2 ^ 64) : fkey a = 0 ↔ a = 0 ∨ a = 9223372036854775808 := by
  unfold fkey
  split <;> omega
theorem feq_zero (a : Nat) (ha : a < 2 ^ 64) (hn : isn a = false) : feq a 0 = decide (a = 0 ∨ a = 9223372036854775808) := by
  rw [feq_key a 0 ha (by omega) hn (isn_pos 0 (by omega)), fkey_pos 0 (by omega)]
  exact decide_eq_decide.2 (fkey_zero a ha)
theorem fgt_zero (a : Nat) (ha : a < 2 ^ 64) (hn : isn a = false) : fgt a 0 = decide (0 < a ∧ a < 9223372036854775808) := by
  rw [fgt_key a 0 ha (by omega) hn (isn_pos 0 (by omega)), fkey_pos 0 (by omega)]
  refine decide_eq_decide.2 ?_
  unfold fkey
  split <;> omega
theorem fls_zero (a : Nat) (ha : a < 2 ^ 64) (hn : isn a = false) : fls a 0 = decide (9223372036854775808 < a) := by
  rw [fls_key a 0 ha (by omega) hn (isn_pos 0 (by omega)), fkey_pos 0 (by omega)]
  refine decide_eq_decide.2 ?_
  unfold fkey
  split <;> omega


open Ieee
theorem maskU (y : Int) (n : Nat) (hn : n ≤ 64) (h0 : 0 ≤ y) (h1 : y < 18446744073709551616) : Go.bits .and .u64 y (2 ^ n - 1) = y % 2 ^ n :=
  bits_mask .u64 64 (by decide) (fun n a b => by simp [IntKind.wrap, IntKind.bits, IntKind.signed]; omega) n (by omega) y h0 h1
theorem fofi_fl (n : Nat) : fofi (n : Int) = fl n 0 := by
  unfold fofi fl floatOfInt FloatKind.nearest
  show double.write (.number (decide ((n : Int) < 0)) (n : Int).natAbs 0) = _
  rw [decide_eq_false (by omega), Int.natAbs_natCast]
  rfl
theorem fl_zero (q : Int) : fl 0 q = 0 := by
  unfold fl Format.nearest
  rw [if_pos rfl, word_false]
theorem quo_zero (d : Nat) (r : Int) (hd : double.read d = .number false 4503599627370496 r) : double.div 0 d = some 0 := by
  unfold Format.div
  rw [read_zero, hd]
  unfold Datum.quotient
  dsimp only
  rw [if_neg (by omega), Nat.zero_shiftLeft, Nat.zero_div, Nat.zero_mod]
  show some (double.write (.number false (2 * 0 + 0) _)) = some 0
  rw [write_zero, word_false]
theorem add_one (N : Nat) (h0 : 0 < N) (h : N < 4503599627370496) : double.add (fl N (-52)) 4607182418800017408 = some (fl (4503599627370496 + N) (-52)) := by
  have hlog : N.log2 < 52 := (Nat.log2_lt (by omega)).2 h
  obtain ⟨s, e, hs, _⟩ := fl_reads N (-52) h0 (by omega) (by omega) (by omega)
  unfold Format.add
  rw [e, read_one]
  unfold Datum.sum
  dsimp only
  rw [show min ((-52 : Int) - s) (-52) = -52 - s by omega, signed_false, signed_false, show ((-52 : Int) - s - (-52 - s)).toNat = 0 by omega, show ((-52 : Int) - (-52 - s)).toNat = s by omega, Nat.pow_zero, Nat.mul_one]
  have ht : ((N * 2 ^ s : Nat) : Int) + ((4503599627370496 * 2 ^ s : Nat) : Int) = (((4503599627370496 + N) * 2 ^ s : Nat) : Int) := by
    rw [← Int.natCast_add, ← Nat.add_mul, Nat.add_comm N]
  rw [ht]
  have hpos : 0 < (4503599627370496 + N) * 2 ^ s := Nat.mul_pos (by omega) (Nat.two_pow_pos s)
  rw [if_neg (by omega), decide_eq_false (by omega), Int.natAbs_natCast]
  refine congrArg some ?_
  exact nearest_fl (4503599627370496 + N) (-52) s _ _ (by omega) (by omega) (by omega) rfl rfl
theorem fl_one : fl 4503599627370496 (-52) = 4607182418800017408 := by
  have := fl_eta 4607182418800017408 (by omega) (by omega)
  exact this
theorem one_of_zero : double.add 0 4607182418800017408 = some 4607182418800017408 := by
  unfold Format.add
  rw [read_one, read_zero]
  unfold Datum.sum
  dsimp only
  rw [show min (-1074 : Int) (-52) = -1074 by omega, signed_false, signed_false, Nat.zero_mul]
  obtain ⟨n, hn⟩ : ∃ n : Nat, n = 1022 := ⟨_, rfl⟩
  rw [show ((-52 : Int) - -1074).toNat = n by omega]
  have hpos : 0 < 4503599627370496 * 2 ^ n := Nat.mul_pos (by omega) (Nat.two_pow_pos _)
  generalize hq : 4503599627370496 * 2 ^ n = Q at hpos
  rw [show (((0 : Nat) : Int) + ((Q : Nat) : Int)) = (Q : Int) by omega, if_neg (by omega), decide_eq_false (by omega), Int.natAbs_natCast]
  refine congrArg some ?_
  rw [← fl_one]
  exact nearest_fl 4503599627370496 (-52) n _ _ (by omega) (by omega) (by omega) hq.symm (by omega)
/-- bits that stand for no number -/
def nanB (a : Int) : Bool := decide (a % 9223372036854775808 > 9218868437227405312)
theorem sign_f (a : Nat) (ha : a < 2 ^ 64) (b : Nat) (hb : b = a % 9223372036854775808) (k : Nat) (hx : b ≤ 9218868437227405312) : (if ((a : Int) / 9223372036854775808) = 1 then some (fneg b) else some b) = some a := by
  by_cases h : (a : Int) / 9223372036854775808 = 1
  · rw [if_pos h, fneg_pos b (by omega)]
    congr 1
    omega
  · rw [if_neg h]
    congr 1
    omega
theorem down_l (a : Nat) (ha : a < 2 ^ 64) (N : Nat) (h2 : N < 2 ^ 53) (b : Nat) (hb : b = a % 9223372036854775808) (hx : b < 9218868437227405312) (z : Int) (hz : fl N z = b) (hzl : -1074 ≤ z) (d : Nat) : ∀ (q : Int), d ≤ 2000 → q - d = z → (0 < N → q + N.log2 ≤ 1023) →
    Ev (fun k => spec_FloatOf.l1 k (a : Int) (fl N q) (-(d : Int))) a := by
  induction d with
  | zero =>
    intro q _ hq _
    have e : q = z := by omega
    rw [e, hz]
    refine Ev.step (fun k => by rw [spec_FloatOf.l1, if_neg (by omega)]) ?_
    rw [sign_f a ha b hb 0 (by omega)]
    exact Ev.now _
  | succ d ih =>
    intro q hd hq hv
    have e : fok .quo (fl N q) 4611686018427387904 = true ∧ fval .quo (fl N q) 4611686018427387904 = fl N (q - 1) := by
      by_cases h0 : N = 0
      · rw [h0, fl_zero, fl_zero]
        exact fl_ok (quo_zero _ _ read_two)
      · have := quo_pow N q 4611686018427387904 (-51) (by omega) h2 (by omega) (hv (by omega)) read_two (by omega)
        rw [show q - -51 - 52 = q - 1 by omega] at this
        exact fl_ok this
    refine Ev.step (fun k => by rw [spec_FloatOf.l1, if_pos (by omega), if_pos e.1, e.2, show wrap64 (-((d + 1 : Nat) : Int) + 1) = -(d : Int) by unfold wrap64; omega]) ?_
    exact ih (q - 1) (by omega) (by omega) (fun h => by have := hv h; omega)
theorem up_l (a : Nat) (ha : a < 2 ^ 64) (N : Nat) (h1 : 0 < N) (h2 : N < 2 ^ 53) (b : Nat) (hb : b = a % 9223372036854775808) (hx : b < 9218868437227405312) (z : Int) (hz : fl N z = b) (hzl : -1074 ≤ z) (hv : z + N.log2 ≤ 1023) (d : Nat) : ∀ (q : Int), d ≤ 2000 → -1074 ≤ q → q + d = z →
    Ev (fun k => spec_FloatOf.l0 k (a : Int) (fl N q) (d : Int)) a := by
  induction d with
  | zero =>
    intro q _ _ hq
    refine Ev.step (fun k => by rw [spec_FloatOf.l0, if_neg (by omega)]) ?_
    exact down_l a ha N h2 b hb hx z hz hzl 0 q (by omega) (by omega) (fun _ => by omega)
  | succ d ih =>
    intro q hd hl hq
    have e : fok .mul (fl N q) 4611686018427387904 = true ∧ fval .mul (fl N q) 4611686018427387904 = fl N (q + 1) := by
      have := mul_pow N q 4611686018427387904 (-51) h1 h2 hl (by omega) read_two (by omega)
      rw [show q + -51 + 52 = q + 1 by omega] at this
      exact fl_ok this
    refine Ev.step (fun k => by rw [spec_FloatOf.l0, if_pos (by omega), if_pos e.1, e.2, show wrap64 (((d + 1 : Nat) : Int) - 1) = (d : Int) by unfold wrap64; omega]) ?_
    exact ih (q + 1) (by omega) (by omega) (by omega)
theorem loop_f (a : Nat) (ha : a < 2 ^ 64) (N : Nat) (h1 : 0 < N) (h2 : N < 2 ^ 53) (b : Nat) (hb : b = a % 9223372036854775808) (hx : b < 9218868437227405312) (z : Int) (hz : fl N z = b) (hzl : -1074 ≤ z) (hv : z + N.log2 ≤ 1023) (m q : Int) (hm : -2000 ≤ m ∧ m ≤ 2000) (hq : q + m = z) (hql : -1074 ≤ q) (hqv : q + N.log2 ≤ 1023) :
    Ev (fun k => spec_FloatOf.j0 k (a : Int) (fl N q) m) a := by
  refine Ev.step (fun k => by rw [spec_FloatOf.j0]) ?_
  by_cases h : 0 ≤ m
  · obtain ⟨d, rfl⟩ : ∃ d : Nat, m = d := ⟨m.toNat, by omega⟩
    exact up_l a ha N h1 h2 b hb hx z hz hzl hv d q (by omega) hql hq
  · obtain ⟨d, rfl⟩ : ∃ d : Nat, m = -(d : Int) := ⟨(-m).toNat, by omega⟩
    refine Ev.step (fun k => by rw [spec_FloatOf.l0, if_neg (by omega)]) ?_
    exact down_l a ha N h2 b hb hx z hz hzl d q (by omega) (by omega) (fun _ => hqv)
theorem spec_FloatOf_f (a : Nat) (ha : a < 2 ^ 64) (hn : nanB a = false) : Ev (fun k => spec_FloatOf.f k (a : Int)) a := by
  have hn2 : ((a : Int) % 9223372036854775808) ≤ 9218868437227405312 := by
    unfold nanB at hn
    have := of_decide_eq_false hn
    omega
  unfold spec_FloatOf.f
  have m1 : Go.bits .and .u64 (a : Int) 4503599627370495 = ((a % 4503599627370496 : Nat) : Int) := by
    have := maskU (a : Int) 52 (by omega) (by omega) (by omega)
    rw [show ((2 : Int) ^ 52 - 1) = 4503599627370495 by decide] at this
    rw [this]
    omega
  have m2 : Go.bits .and .u64 ((a : Int) / 4503599627370496) 2047 = ((a / 4503599627370496 % 2048 : Nat) : Int) := by
    have := maskU ((a : Int) / 4503599627370496) 11 (by omega) (by omega) (by omega)
    rw [show ((2 : Int) ^ 11 - 1) = 2047 by decide] at this
    rw [this]
    omega
  rw [m1, m2]
  obtain ⟨F, hF⟩ : ∃ F, F = a % 4503599627370496 := ⟨_, rfl⟩
  obtain ⟨E, hE⟩ : ∃ E, E = a / 4503599627370496 % 2048 := ⟨_, rfl⟩
  rw [← hF, ← hE]
  have hb : E * 4503599627370496 + F = a % 9223372036854775808 := by omega
  have hFl : F < 4503599627370496 := by omega
  have w1 : wrap64 ((E : Nat) : Int) = (E : Int) := by unfold wrap64; omega
  have q1 : fok .quo (fofi ((F : Nat) : Int)) 4841369599423283200 = true ∧ fval .quo (fofi ((F : Nat) : Int)) 4841369599423283200 = fl F (-52) := by
    rw [fofi_fl]
    by_cases h0 : F = 0
    · rw [h0, fl_zero, fl_zero]
      exact fl_ok (quo_zero _ _ read_wide)
    · have hlog : F.log2 < 52 := (Nat.log2_lt (by omega)).2 hFl
      have := quo_pow F 0 4841369599423283200 0 (by omega) (by omega) (by omega) (by omega) read_wide (by omega)
      exact fl_ok this
  refine ev_pos q1.1 ?_
  rw [w1, q1.2]
  by_cases hinf : (E : Int) = 2047
  · refine ev_pos hinf ?_
    refine ev_pos (by omega) ?_
    have hd : fok .quo 4607182418800017408 0 = true ∧ fval .quo 4607182418800017408 0 = 9218868437227405312 := fl_ok (show floatBits .quo .f64 4607182418800017408 0 = some 9218868437227405312 from by
      show double.div 4607182418800017408 0 = some 9218868437227405312
      unfold Format.div
      rw [read_zero, read_one]
      rfl)
    refine ev_pos hd.1 ?_
    rw [hd.2, sign_f a ha 9218868437227405312 (by omega) 0 (by omega)]
    exact Ev.now _
  · refine ev_neg hinf ?_
    by_cases h0 : (E : Int) = 0
    · refine ev_pos h0 ?_
      by_cases hz : F = 0
      · refine Ev.step (fun k => by rw [spec_FloatOf.j0]) ?_
        refine Ev.step (fun k => by rw [spec_FloatOf.l0, if_neg (by omega)]) ?_
        exact down_l a ha F (by omega) (a % 9223372036854775808) rfl (by omega) (-1074) (by rw [hz, fl_zero]; omega) (by omega) 1022 (-52) (by omega) (by omega) (fun h => by omega)
      · have hlog : F.log2 < 52 := (Nat.log2_lt (by omega)).2 hFl
        have eta := fl_eta F (by omega) (by omega)
        rw [show mg F = F from if_pos hFl, show pl F = -1074 from if_pos hFl] at eta
        exact loop_f a ha F (by omega) (by omega) (a % 9223372036854775808) rfl (by omega) (-1074) (by rw [eta]; omega) (by omega) (by omega) (-1022) (-52) (by omega) (by omega) (by omega) (by omega)
    · refine ev_neg h0 ?_
      have add : fok .add (fl F (-52)) 4607182418800017408 = true ∧ fval .add (fl F (-52)) 4607182418800017408 = fl (4503599627370496 + F) (-52) := by
        by_cases hz : F = 0
        · rw [hz, fl_zero, Nat.add_zero, fl_one]
          exact fl_ok one_of_zero
        · exact fl_ok (add_one F (by omega) hFl)
      refine ev_pos add.1 ?_
      rw [add.2, show wrap64 ((E : Int) - 1023) = (E : Int) - 1023 by unfold wrap64; omega]
      have hlog : (4503599627370496 + F).log2 = 52 := (Nat.log2_eq_iff (by omega)).2 (by constructor <;> omega)
      have eta := fl_eta (E * 4503599627370496 + F) (by omega) (by omega)
      rw [show mg (E * 4503599627370496 + F) = 4503599627370496 + F from by unfold mg; rw [if_neg (by omega)]; omega, show pl (E * 4503599627370496 + F) = (E : Int) - 1075 from by unfold pl; rw [if_neg (by omega)]; omega] at eta
      exact loop_f a ha (4503599627370496 + F) (by omega) (by omega) (a % 9223372036854775808) rfl (by omega) ((E : Int) - 1075) (by rw [eta, hb]) (by omega) (by rw [hlog]; omega) ((E : Int) - 1023) (-52) (by omega) (by omega) (by omega) (by rw [hlog]; omega)
theorem nanC_of (a : Nat) (ha : a < 2 ^ 64) (hn : isn a = true) : spec_FloatOf.nanC (a : Int) := by
  have hn2 : 9218868437227405312 < a % 9223372036854775808 := of_decide_eq_true hn
  have m1 : Go.bits .and .u64 (a : Int) 4503599627370495 = ((a % 4503599627370496 : Nat) : Int) := by
    have := maskU (a : Int) 52 (by omega) (by omega) (by omega)
    rw [show ((2 : Int) ^ 52 - 1) = 4503599627370495 by decide] at this
    rw [this]
    omega
  have m2 : Go.bits .and .u64 ((a : Int) / 4503599627370496) 2047 = ((a / 4503599627370496 % 2048 : Nat) : Int) := by
    have := maskU ((a : Int) / 4503599627370496) 11 (by omega) (by omega) (by omega)
    rw [show ((2 : Int) ^ 11 - 1) = 2047 by decide] at this
    rw [this]
    omega
  unfold spec_FloatOf.nanC
  rw [m1, m2]
  have hF0 : 0 < a % 4503599627370496 := by omega
  have hE : a / 4503599627370496 % 2048 = 2047 := by omega
  have hFl : a % 4503599627370496 < 4503599627370496 := by omega
  generalize a % 4503599627370496 = F at *
  refine ⟨?_, ?_, ?_, ?_⟩
  · rw [fofi_fl]
    have hlog : F.log2 < 52 := (Nat.log2_lt (by omega)).2 hFl
    have t := quo_pow F 0 4841369599423283200 0 (by omega) (by omega) (by omega) (by omega) read_wide (by omega)
    exact (fl_ok (o := .quo) (a := fl F 0) (b := 4841369599423283200) t).1
  · rw [hE]
    unfold wrap64
    omega
  · omega
  · show (floatBits .quo .f64 0 0).isSome = false
    have : floatBits .quo .f64 0 0 = none := by
      show double.div 0 0 = none
      unfold Format.div
      rw [read_zero]
      rfl
    rw [this]
    rfl
theorem nanC_none (a : Int) (h : spec_FloatOf.nanC a) (k : Nat) : spec_FloatOf.f k a = none := by
  obtain ⟨h1, h2, h3, h4⟩ := h
  unfold spec_FloatOf.f
  rw [if_pos h1, if_pos h2, if_neg h3, if_neg (by rw [h4]; decide)]
theorem nanB_isn (a : Nat) : nanB (a : Int) = isn a := by
  unfold nanB isn
  exact decide_eq_decide.2 (by omega)

theorem i64_and255 (n : Int) : Go.bits .and .i64 n 255 = n % 256 := by
  have h127 : (BitVec.ofInt 64 255).toNat = 2 ^ 8 - 1 := by decide
  have key : (BitVec.ofInt 64 n &&& BitVec.ofInt 64 255).toNat = (n % ((2 ^ 64 : Nat) : Int)).toNat % 2 ^ 8 := by
    rw [BitVec.toNat_and, BitVec.toNat_ofInt, h127, Nat.and_two_pow_sub_one_eq_mod]
  show IntKind.i64.wrap ((BitVec.ofInt 64 n &&& BitVec.ofInt 64 255).toNat : Nat) = n % 256
  rw [key, IntKind.wrap_i64]
  omega
theorem u64_range (n : Int) : 0 ≤ IntKind.u64.wrap n ∧ IntKind.u64.wrap n < 18446744073709551616 := by
  have h : IntKind.u64.wrap n = n % 18446744073709551616 := by simp [IntKind.wrap, IntKind.bits, IntKind.signed]
  rw [h]
  omega
theorem or_range (x y : Int) : 0 ≤ Go.bits .or .u64 x y ∧ Go.bits .or .u64 x y < 18446744073709551616 := u64_range _
theorem byte_f (b : List Int) (hb : b.length ≤ 1048576) (i h : Int) (hi : 0 ≤ i) : ∃ x i' h', spec_l1Byte.f b i h = some (x, i', h') ∧ 0 ≤ x ∧ x ≤ 255 ∧ 0 ≤ i' := by
  unfold spec_l1Byte.f
  by_cases h1 : i < (b.length : Int)
  · rw [if_pos h1, if_pos hi]
    exact ⟨_, _, _, rfl, by rw [i64_and255]; omega, by rw [i64_and255]; omega, by rw [w64 (by omega) (by omega)]; omega⟩
  · rw [if_neg h1]
    exact ⟨_, _, _, rfl, by rw [i64_and255]; omega, by rw [i64_and255]; omega, hi⟩
theorem tmod_range (x n : Int) (hx : 0 ≤ x) (hn : 0 < n) : 0 ≤ Int.tmod x n ∧ Int.tmod x n < n := by
  rw [Int.tmod_eq_emod_of_nonneg hx]
  exact ⟨Int.emod_nonneg _ (by omega), Int.emod_lt_of_pos _ hn⟩
theorem below_f (b : List Int) (hb : b.length ≤ 1048576) (i h : Int) (hi : 0 ≤ i) (n : Int) : ∃ x i' h', spec_l1Below.f b i h n = some (x, i', h') ∧ 0 ≤ x ∧ (0 < n → x < n) ∧ 0 ≤ i' := by
  unfold spec_l1Below.f
  by_cases h1 : n ≤ 0
  · rw [if_pos h1]
    exact ⟨_, _, _, rfl, by omega, by omega, hi⟩
  rw [if_neg h1]
  by_cases h2 : n ≤ 256
  · rw [if_pos h2]
    obtain ⟨x, i1, h1', e1, x0, x1, q1⟩ := byte_f b hb i h hi
    rw [e1, Option.bind_some, if_neg (by omega)]
    have := tmod_range x n x0 (by omega)
    exact ⟨_, _, _, rfl, this.1, fun _ => this.2, q1⟩
  · rw [if_neg h2]
    obtain ⟨x, i1, g1, e1, x0, x1, q1⟩ := byte_f b hb i h hi
    obtain ⟨y, i2, g2, e2, y0, y1, q2⟩ := byte_f b hb i1 g1 q1
    obtain ⟨z, i3, g3, e3, z0, z1, q3⟩ := byte_f b hb i2 g2 q2
    obtain ⟨v, i4, g4, e4, v0, v1, q4⟩ := byte_f b hb i3 g3 q3
    simp only [e1, e2, e3, e4, Option.bind_some]
    rw [if_neg (by omega), w64 (x := x * 16777216) (by omega) (by omega), w64 (x := y * 65536) (by omega) (by omega), w64 (x := z * 256) (by omega) (by omega), w64 (x := x * 16777216 + y * 65536) (by omega) (by omega), w64 (x := x * 16777216 + y * 65536 + z * 256) (by omega) (by omega), w64 (by omega) (by omega)]
    have := tmod_range (x * 16777216 + y * 65536 + z * 256 + v) n (by omega) (by omega)
    exact ⟨_, _, _, rfl, this.1, fun _ => this.2, q4⟩
theorem l1New_l (l : List Int) (hl : l.length ≤ 1048576) (d : Nat) : ∀ (i : Nat) (x : Int), i + d = l.length → ∃ h, Ev (fun k => spec_l1New.l0 k l x (i : Int)) (l, 0, h) := by
  induction d with
  | zero =>
    intro i x hi
    exact ⟨x, Ev.step (fun k => by rw [spec_l1New.l0, if_neg (by omega)]) (Ev.now _)⟩
  | succ d ih =>
    intro i x hi
    by_cases h4 : (i : Int) < 4000
    · obtain ⟨h, hh⟩ := ih (i + 1) (Go.bits .and .i64 (wrap64 ((wrap64 ((wrap64 (x * 131)) + (wrap64 (rd l (i : Int))))) + 7)) 1073741823) (by omega)
      refine ⟨h, Ev.step (fun k => by rw [spec_l1New.l0, if_pos (by omega), if_pos h4, if_pos (by omega), w64 (x := (i : Int) + 1) (by omega) (by omega)]) ?_⟩
      exact hh
    · exact ⟨x, Ev.step (fun k => by rw [spec_l1New.l0, if_pos (by omega), if_neg h4]) (Ev.now _)⟩
theorem l1New_f (l : List Int) (hl : l.length ≤ 1048576) : ∃ h, Ev (fun k => spec_l1New.f k l) (l, 0, h) := by
  obtain ⟨h, hh⟩ := l1New_l l hl l.length 0 (wrap64 (25252 + (l.length : Int))) (by omega)
  refine ⟨h, ?_⟩
  unfold spec_l1New.f
  exact hh


theorem fofi_small : ∀ m : Fin 21, fofi ((m.val : Int) - 10) < 2 ^ 64 := by decide
theorem bits_total (a : Nat) (ha : a < 2 ^ 64) : ∃ r, Ev (fun k => spec_FloatBits.f k a) r ∧ 0 ≤ r ∧ r < 18446744073709551616 := by
  refine ⟨_, spec_FloatBits_f a ha, ?_, ?_⟩ <;> split <;> omega
theorem l2bits_end (b : List Int) (hb : b.length ≤ 1048576) (x : Int) (hx : 0 ≤ x ∧ x < 18446744073709551616) (i h : Int) (hi : 0 ≤ i) : ∃ r i' h', Ev (fun k => spec_l2bits.l0 k x 8 b i h) (r, i', h') ∧ 0 ≤ r ∧ r < 18446744073709551616 ∧ 0 ≤ i' := by
  obtain ⟨y, i1, h1, e1, y0, y1, q1⟩ := below_f b hb i h hi 9
  obtain ⟨z, i2, h2, e2, z0, z1, q2⟩ := below_f b hb i1 h1 q1 2
  obtain ⟨v, i3, h3, e3, v0, v1, q3⟩ := below_f b hb i2 h2 q2 3
  obtain ⟨z', i2', h2', e2', z0', z1', q2'⟩ := below_f b hb i1 h1 q1 12
  obtain ⟨v', i3', h3', e3', v0', v1', q3'⟩ := below_f b hb i2' h2' q2' 16
  obtain ⟨u, i4, h4, e4, u0, u1, q4⟩ := below_f b hb i1 h1 q1 21
  have y1' := y1 (by omega)
  have u1' := u1 (by omega)
  rcases (show y = 0 ∨ y = 1 ∨ y = 2 ∨ y = 3 ∨ y = 4 ∨ y = 5 ∨ (6 ≤ y) by omega) with rfl | rfl | rfl | rfl | rfl | rfl | h6
  · refine ⟨_, i3, h3, Ev.step (fun k => by rw [spec_l2bits.l0, if_neg (by omega), e1, Option.bind_some, if_pos rfl, e2, Option.bind_some, e3, Option.bind_some]) (Ev.now _), (or_range _ _).1, (or_range _ _).2, q3⟩
  · refine ⟨_, i3, h3, Ev.step (fun k => by rw [spec_l2bits.l0, if_neg (by omega), e1, Option.bind_some, if_neg (by omega), if_pos rfl, e2, Option.bind_some, e3, Option.bind_some]) (Ev.now _), (or_range _ _).1, (or_range _ _).2, q3⟩
  · refine ⟨_, i2, h2, Ev.step (fun k => by rw [spec_l2bits.l0, if_neg (by omega), e1, Option.bind_some, if_neg (by omega), if_neg (by omega), if_pos rfl, e2, Option.bind_some]) (Ev.now _), (or_range _ _).1, (or_range _ _).2, q2⟩
  · refine ⟨_, i3, h3, Ev.step (fun k => by rw [spec_l2bits.l0, if_neg (by omega), e1, Option.bind_some, if_neg (by omega), if_neg (by omega), if_neg (by omega), if_pos rfl, e2, Option.bind_some, e3, Option.bind_some]) (Ev.now _), (or_range _ _).1, (or_range _ _).2, q3⟩
  · refine ⟨_, i3', h3', Ev.step (fun k => by rw [spec_l2bits.l0, if_neg (by omega), e1, Option.bind_some, if_neg (by omega), if_neg (by omega), if_neg (by omega), if_neg (by omega), if_pos rfl, e2', Option.bind_some, e3', Option.bind_some]) (Ev.now _), (or_range _ _).1, (or_range _ _).2, q3'⟩
  · have hf := fofi_small ⟨u.toNat, by omega⟩
    rw [show (((⟨u.toNat, by omega⟩ : Fin 21).val : Int) - 10) = u - 10 by show ((u.toNat : Nat) : Int) - 10 = u - 10; omega] at hf
    obtain ⟨r, hr, r0, r1⟩ := bits_total _ hf
    refine ⟨r, i4, h4, Ev.step (fun k => by rw [spec_l2bits.l0, if_neg (by omega), e1, Option.bind_some, if_neg (by omega), if_neg (by omega), if_neg (by omega), if_neg (by omega), if_neg (by omega), if_pos rfl, e4, Option.bind_some, w64 (by omega) (by omega)]) (Ev.bind hr (Ev.now _)), r0, r1, q4⟩
  · exact ⟨x, i1, h1, Ev.step (fun k => by rw [spec_l2bits.l0, if_neg (by omega), e1, Option.bind_some, if_neg (by omega), if_neg (by omega), if_neg (by omega), if_neg (by omega), if_neg (by omega), if_neg (by omega)]) (Ev.now _), hx.1, hx.2, q1⟩
theorem l2bits_l (b : List Int) (hb : b.length ≤ 1048576) (d : Nat) (hd : d ≤ 8) : ∀ (x i h : Int), 0 ≤ x ∧ x < 18446744073709551616 → 0 ≤ i → ∃ r i' h', Ev (fun k => spec_l2bits.l0 k x (8 - (d : Int)) b i h) (r, i', h') ∧ 0 ≤ r ∧ r < 18446744073709551616 ∧ 0 ≤ i' := by
  induction d with
  | zero => intro x i h hx hi; exact l2bits_end b hb x hx i h hi
  | succ d ih =>
    intro x i h hx hi
    obtain ⟨y, i1, h1, e1, y0, y1, q1⟩ := byte_f b hb i h hi
    obtain ⟨r, i2, h2, e2, r0, r1, q2⟩ := ih (by omega) (IntKind.u64.wrap ((IntKind.u64.wrap (x * 256)) + (IntKind.u64.wrap y))) i1 h1 (u64_range _) q1
    refine ⟨r, i2, h2, Ev.step (fun k => by rw [spec_l2bits.l0, if_pos (by omega), e1, Option.bind_some, w64 (by omega) (by omega), show 8 - ((d + 1 : Nat) : Int) + 1 = 8 - (d : Int) by omega]) ?_, r0, r1, q2⟩
    exact e2
theorem l2bits_f (b : List Int) (hb : b.length ≤ 1048576) (i h : Int) (hi : 0 ≤ i) : ∃ r i' h', Ev (fun k => spec_l2bits.f k b i h) (r, i', h') ∧ 0 ≤ r ∧ r < 18446744073709551616 ∧ 0 ≤ i' := by
  unfold spec_l2bits.f
  exact l2bits_l b hb 8 (by omega) 0 i h (by omega) hi
/-- a float's word as it is told -/
def told (r : Nat) : Prop := r < 2 ^ 64 ∧ (isn r = true → r = 9221120237041090560)
theorem FloatOf_c (n : Int) (h0 : 0 ≤ n) (h1 : n < 18446744073709551616) : ∃ r, Ev (fun k => spec_FloatOf.c k n) r ∧ told r := by
  obtain ⟨a, rfl⟩ := Int.eq_ofNat_of_zero_le h0
  have ha : a < 2 ^ 64 := by omega
  cases hn : isn a with
  | true =>
    refine ⟨9221120237041090560, ?_, by decide, fun _ => rfl⟩
    unfold spec_FloatOf.c
    exact ev_pos (nanC_of a ha hn) (Ev.now _)
  | false =>
    have e := spec_FloatOf_f a ha (by rw [nanB_isn]; exact hn)
    have hc : ¬ spec_FloatOf.nanC (a : Int) := by
      intro h
      obtain ⟨k2, hk2⟩ := Ev.rounds e
      rw [nanC_none _ h] at hk2
      cases hk2
    refine ⟨a, ?_, ha, fun h => by rw [hn] at h; cases h⟩
    unfold spec_FloatOf.c
    refine ev_neg hc (Ev.bind e ?_)
    exact ev_pos ⟨(fun h => by have q := h.2; rw [hn] at q; cases q), ha⟩ (Ev.now _)
theorem l2float_f (b : List Int) (hb : b.length ≤ 1048576) (i h : Int) (hi : 0 ≤ i) : ∃ r i' h', Ev (fun k => spec_l2float.f k b i h) (r, i', h') ∧ told r ∧ 0 ≤ i' := by
  obtain ⟨x, i1, h1, e1, x0, x1, q1⟩ := l2bits_f b hb i h hi
  obtain ⟨r, e2, hr⟩ := FloatOf_c x x0 x1
  refine ⟨r, i1, h1, ?_, hr, q1⟩
  unfold spec_l2float.f
  exact Ev.bind e1 (Ev.bind e2 (Ev.now _))
theorem DrawFloatCompare_f (l : List Int) (hl : l.length ≤ 1048576) : ∃ a b, Ev (fun k => spec_DrawFloatCompare.f k l) (a, b) ∧ told a ∧ told b := by
  obtain ⟨h, e0⟩ := l1New_f l hl
  obtain ⟨a, i1, h1, e1, ha, q1⟩ := l2float_f l hl 0 h (by omega)
  obtain ⟨b, i2, h2, e2, hb, q2⟩ := l2float_f l hl i1 h1 q1
  obtain ⟨y, i3, h3, e3, y0, y1, q3⟩ := below_f l hl i2 h2 q2 4
  unfold spec_DrawFloatCompare.f
  by_cases hy0 : y = 0
  · exact ⟨a, a, Ev.bind e0 (Ev.bind e1 (Ev.bind e2 (ev_bind0 e3 (ev_pos hy0 (Ev.now _))))), ha, ha⟩
  by_cases hy1 : y = 1
  · obtain ⟨r, e4, r0, r1⟩ := bits_total a ha.1
    obtain ⟨c, e5, hc⟩ := FloatOf_c (IntKind.u64.wrap (r + 1)) (u64_range _).1 (u64_range _).2
    exact ⟨a, c, Ev.bind e0 (Ev.bind e1 (Ev.bind e2 (ev_bind0 e3 (ev_neg hy0 (ev_pos hy1 (Ev.bind e4 (Ev.bind e5 (Ev.now _)))))))), ha, hc⟩
  · exact ⟨a, b, Ev.bind e0 (Ev.bind e1 (Ev.bind e2 (ev_bind0 e3 (ev_neg hy0 (ev_neg hy1 (Ev.now _)))))), ha, hb⟩


set_option maxRecDepth 100000 in
theorem quo16 : ∀ m : Fin 4000, fok .quo (fofi ((m.val : Int) - 2000)) 4625196817309499392 = true := by decide +kernel
theorem once_f (b : List Int) (hb : b.length ≤ 1048576) (i h : Int) (hi : 0 ≤ i) (n : Int) : ∃ x i' h', spec_l1Once.f b i h n = some (x, i', h') ∧ 0 ≤ i' := by
  obtain ⟨x, i1, h1, e1, x0, x1, q1⟩ := below_f b hb i h hi n
  unfold spec_l1Once.f
  exact ⟨_, _, _, by rw [e1, Option.bind_some], q1⟩
theorem size_f (l : List Int) (hl : l.length ≤ 1048576) : ∃ r, spec_l1Size.f l 40 = some r ∧ r ≤ 40 := by
  unfold spec_l1Size.f
  split
  · exact ⟨_, rfl, by omega⟩
  · exact ⟨_, rfl, by omega⟩
theorem sum_l (l : List Int) (hl : l.length ≤ 1048576) (n : Int) (hn : n ≤ 1001) (b : Bool) (d : Nat) : ∀ (x : List Nat) (i c h : Int), 0 ≤ c → 0 ≤ i → n - i ≤ d → x.length + d ≤ 2000 → ∃ r, Ev (fun k => spec_DrawFloatSum.l0 k x n b i l c h) r := by
  induction d with
  | zero =>
    intro x i c h hc h0 h1 h2
    exact ⟨x, Ev.step (fun k => by rw [spec_DrawFloatSum.l0, if_neg (by omega)]) (Ev.now _)⟩
  | succ d ih =>
    intro x i c h hc h0 h1 h2
    by_cases h4 : i < n
    · obtain ⟨t, c1, h1', e1, t0, t1, q1⟩ := below_f l hl c h hc 4000
      have t2 := t1 (by omega)
      obtain ⟨m, rfl⟩ := Int.eq_ofNat_of_zero_le t0
      have hq : fok .quo (fofi (wrap64 ((m : Int) - 2000))) 4625196817309499392 = true := by
        rw [w64 (by omega) (by omega)]
        exact quo16 ⟨m, by omega⟩
      have hi : wrap64 (i + 1) = i + 1 := w64 (by omega) (by omega)
      have fin : ∀ (v : Nat) (c2 h2' : Int), 0 ≤ c2 → ∃ r, Ev (fun k => if x.length < 17592186044416 then spec_DrawFloatSum.l0 k (x ++ [v]) n b (wrap64 (i + 1)) l c2 h2' else none) r := by
        intro v c2 h2' hc2
        rw [hi]
        obtain ⟨r, hr⟩ := ih (x ++ [v]) (i + 1) c2 h2' hc2 (by omega) (by omega) (by rw [List.length_append, List.length_cons, List.length_nil]; omega)
        exact ⟨r, ev_pos (by omega) hr⟩
      cases b with
      | true =>
        obtain ⟨o, c2, h2', e2, q2⟩ := once_f l hl c1 h1' q1 9
        cases o with
        | true =>
          obtain ⟨f, c3, h3, e3, _, q3⟩ := l2float_f l hl c2 h2' q2
          obtain ⟨r, hr⟩ := fin f c3 h3 q3
          exact ⟨r, Ev.step (fun k => by rw [spec_DrawFloatSum.l0, if_pos h4]) (ev_bind0 e1 (ev_pos hq (ev_pos rfl (ev_bind0 e2 (ev_pos rfl (Ev.bind e3 hr))))))⟩
        | false =>
          obtain ⟨r, hr⟩ := fin (fval .quo (fofi (wrap64 ((m : Int) - 2000))) 4625196817309499392) c2 h2' q2
          exact ⟨r, Ev.step (fun k => by rw [spec_DrawFloatSum.l0, if_pos h4]) (ev_bind0 e1 (ev_pos hq (ev_pos rfl (ev_bind0 e2 (ev_neg (fun h_ : false = true => by cases h_) hr)))))⟩
      | false =>
        obtain ⟨f, c3, h3, e3, _, q3⟩ := l2float_f l hl c1 h1' q1
        obtain ⟨r, hr⟩ := fin f c3 h3 q3
        exact ⟨r, Ev.step (fun k => by rw [spec_DrawFloatSum.l0, if_pos h4]) (ev_bind0 e1 (ev_pos hq (ev_neg (fun h_ : false = true => by cases h_) (Ev.bind e3 hr))))⟩
    · exact ⟨x, Ev.step (fun k => by rw [spec_DrawFloatSum.l0, if_neg h4]) (Ev.now _)⟩
theorem sum_j (l : List Int) (hl : l.length ≤ 1048576) (n : Int) (hn : n ≤ 1001) (c h : Int) (hc : 0 ≤ c) : ∃ r, Ev (fun k => spec_DrawFloatSum.j0 k ([] : List Nat) n l c h) r := by
  obtain ⟨o, c2, h2', e2, q2⟩ := once_f l hl c h hc 2
  obtain ⟨r, hr⟩ := sum_l l hl n hn o 1001 [] 0 c2 h2' q2 (by omega) (by omega) (by decide)
  exact ⟨r, Ev.step (fun k => by rw [spec_DrawFloatSum.j0]) (ev_bind0 e2 hr)⟩
theorem DrawFloatSum_f (l : List Int) (hl : l.length ≤ 1048576) : ∃ r, Ev (fun k => spec_DrawFloatSum.f k l) r := by
  obtain ⟨h, e0⟩ := l1New_f l hl
  obtain ⟨s, e1, hs⟩ := size_f l hl
  obtain ⟨n, c1, h1, e2, n0, n1, q1⟩ := below_f l hl 0 h (by omega) s
  have hn : n ≤ 1001 := by
    by_cases h0 : 0 < s
    · have := n1 h0; omega
    · have : spec_l1Below.f l 0 h s = some (0, 0, h) := by
        unfold spec_l1Below.f
        rw [if_pos (by omega)]
      rw [this] at e2
      have := congrArg Prod.fst (Option.some.inj e2)
      have h3 : (0 : Int) = n := this
      omega
  obtain ⟨o, c2, h2, e3, q2⟩ := once_f l hl c1 h1 q1 40
  unfold spec_DrawFloatSum.f
  cases o with
  | true =>
    obtain ⟨y, c3, h3, e4, y0, y1, q3⟩ := below_f l hl c2 h2 q2 2
    have := y1 (by omega)
    obtain ⟨r, hr⟩ := sum_j l hl (wrap64 (1000 + y)) (by rw [w64 (by omega) (by omega)]; omega) c3 h3 q3
    exact ⟨r, Ev.bind e0 (ev_bind0 e1 (ev_bind0 e2 (ev_bind0 e3 (ev_pos rfl (ev_bind0 e4 hr)))))⟩
  | false =>
    obtain ⟨r, hr⟩ := sum_j l hl n hn c2 h2 q2
    exact ⟨r, Ev.bind e0 (ev_bind0 e1 (ev_bind0 e2 (ev_bind0 e3 (ev_neg (fun h_ : false = true => by cases h_) hr))))⟩
theorem bits_all : ∀ n : Nat, n ≤ 2 ^ 64 → ∃ K, ∀ k, K ≤ k → ∀ b, b < n → ∃ v, spec_FloatBits.f k b = some v
  | 0, _ => ⟨0, fun _ _ b hb => absurd hb (Nat.not_lt_zero b)⟩
  | n + 1, h => by
    obtain ⟨K, hK⟩ := bits_all n (by omega)
    obtain ⟨K2, hK2⟩ := spec_FloatBits_f n (by omega)
    refine ⟨max K K2, fun k hk b hb => ?_⟩
    by_cases e : b = n
    · rw [e]
      exact ⟨_, hK2 k (by omega)⟩
    · exact hK k (by omega) b (by omega)
theorem main : laws_FnSums.Pure := by
  intro l hm hs hw
  obtain ⟨K, hK⟩ := bits_all (2 ^ 64) (Nat.le_refl _)
  have e3 : Ev (fun k => laws_FnSums.f k l) true := by
    unfold laws_FnSums.f
    by_cases hl : l.length ≤ 1048576
    · obtain ⟨r, e1⟩ := DrawFloatSum_f l hl
      obtain ⟨a, b, e2, _⟩ := DrawFloatCompare_f l hl
      exact ev_bind0 (a := false) (by unfold laws_big.f; rw [decide_eq_false (by omega)]) (ev_neg (by decide) (Ev.bind e1 (Ev.bind e2 (Ev.now _))))
    · exact ev_bind0 (a := true) (by unfold laws_big.f; rw [decide_eq_true (by omega)]) (ev_pos rfl (Ev.now _))
  obtain ⟨K3, h3⟩ := e3
  exact ⟨max K K3, fun b hb => hK _ (by omega) b hb, h3 _ (by omega)⟩

end Go.Proofs.Ytjbocmkphnmfgaa.Pure.ofFnSums
namespace Go.Proofs.Ytjbocmkphnmfgaa.PrintWords
/-- The word that the printed row asks for, under the name by which it asks. -/
abbrev sized_ints := @Go.Proofs.YtjbocmkphnmfgaaW.PrintWords.sized_ints
end Go.Proofs.Ytjbocmkphnmfgaa.PrintWords
namespace Go.Proofs.Ytjbocmkphnmfgaa.Pure
open Go.Proofs.Ytjbocmkphnmfgaa.PFnSums
theorem FnSums : laws_FnSums.Pure := ofFnSums.main
end Go.Proofs.Ytjbocmkphnmfgaa.Pure
