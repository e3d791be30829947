/-
The law FnExactTupleBytes answers true: for every tuple the program's TupleBytes gives the reference's bytes, in new memory each time, and the tuple stays as it was.
Conditions: none beyond the bounds of the statement itself.
-/
import Derived.Test.YtjjkhlphdbmdfaaPFnExactTupleBytesx8
import Derived.Test.YtjjkhlphdbmdfaaWSized
import Derived.Test.YtjjkhlphdbmdfaaXIeee
set_option linter.unusedVariables false
set_option linter.unusedSimpArgs false
namespace Go.Proofs.Ytjjkhlphdbmdfaa.Pure.ofFnExactTupleBytes
open Go.Proofs.YtjjkhlphdbmdfaaX
open Go.RowKit Go.Proofs.Ytjjkhlphdbmdfaa.PFnExactTupleBytes Go.Proofs.YtjjkhlphdbmdfaaW.PrintWords Go.Proofs.YtjjkhlphdbmdfaaW.PrintLast Go.Proofs.YtjjkhlphdbmdfaaW.PrintMore

theorem ev_pos {α : Type} {c : Prop} [Decidable c] {A B : Nat → Option α} {r : α} (hc : c) (h : Ev A r) : Ev (fun k => if c then A k else B k) r := by
  refine Ev.congr (fun k => ?_) h
  rw [if_pos hc]
theorem ev_neg {α : Type} {c : Prop} [Decidable c] {A B : Nat → Option α} {r : α} (hc : ¬ c) (h : Ev B r) : Ev (fun k => if c then A k else B k) r := by
  refine Ev.congr (fun k => ?_) h
  rw [if_neg hc]
theorem ev_bind0 {α β : Type} {g : Option α} {f : Nat → α → Option β} {a : α} {r : β} (h : g = some a) (k : Ev (fun n => f n a) r) : Ev (fun n => g.bind (f n)) r := by
  refine Ev.congr (fun n => ?_) k
  rw [h]; rfl
theorem w64 {x : Int} (h0 : -9223372036854775808 ≤ x) (h1 : x ≤ 9223372036854775807) : wrap64 x = x := by
  unfold wrap64; omega
theorem rd_cons (x : Int) (l : List Int) : rd (x :: l) 0 = x := rfl
theorem rd_nat (l : List Int) (i : Nat) (h : i < l.length) : rd l (i : Int) = l[i] := by
  simp [rd, List.getD_eq_getElem?_getD, List.getElem?_eq_getElem h]
theorem rd_at (l : List Int) (i : Int) (h0 : 0 ≤ i) (h : i < l.length) : ∃ x, x ∈ l ∧ rd l i = x := by
  obtain ⟨n, rfl⟩ := Int.eq_ofNat_of_zero_le h0
  exact ⟨l[n]'(by omega), List.getElem_mem _, rd_nat l n (by omega)⟩
def marks (m : Int) : Nat → List Int
  | 0 => []
  | n + 1 => m :: marks (m + 1) n
def marksB (m : Int) : Nat → List Int
  | 0 => []
  | n + 1 => (m % 256) :: marksB (m + 1) n
theorem marks_length (n : Nat) : ∀ m, (marks m n).length = n := by
  induction n with
  | zero => intro m; rfl
  | succ n ih => intro m; simp [marks, ih]
theorem marksB_length (n : Nat) : ∀ m, (marksB m n).length = n := by
  induction n with
  | zero => intro m; rfl
  | succ n ih => intro m; simp [marksB, ih]
theorem marks_get (n : Nat) : ∀ m (i : Nat) (h : i < (marks m n).length), (marks m n)[i] = m + i := by
  induction n with
  | zero => intro m i h; simp [marks] at h
  | succ n ih =>
    intro m i h
    cases i with
    | zero => simp [marks]
    | succ i => simp only [marks, List.getElem_cons_succ]; rw [ih]; push_cast; omega
theorem marksB_get (n : Nat) : ∀ m (i : Nat) (h : i < (marksB m n).length), (marksB m n)[i] = (m + i) % 256 := by
  induction n with
  | zero => intro m i h; simp [marksB] at h
  | succ n ih =>
    intro m i h
    cases i with
    | zero => simp [marksB]
    | succ i => simp only [marksB, List.getElem_cons_succ]; rw [ih]; push_cast; omega

theorem u64_or_add (i : Nat) {x y : Int} (hx0 : 0 ≤ x) (hx : x % 2 ^ i = 0) (hx1 : x < 18446744073709551616) (hy0 : 0 ≤ y) (hy : y < 2 ^ i) (hy1 : y < 18446744073709551616) : Go.bits .or .u64 x y = x + y :=
  bits_join .u64 64 (by decide) (fun n a b => by simp [IntKind.wrap, IntKind.bits, IntKind.signed]; omega) i x y hx0 hx hx1 hy0 hy hy1
theorem fival_u64 (a : Nat) (n : Int) (h : (Ieee.double.read a).toInt .zero = some n) (h0 : 0 ≤ n) (h1 : n < 18446744073709551616) : fiok .u64 a = true ∧ fival .u64 a = n := by
  have e : floatToIntVal .f64 a .u64 = some n := by
    unfold floatToIntVal
    have : FloatKind.decode .f64 a = Ieee.double.read a := rfl
    rw [this, h]
    have e1 : IntKind.u64.min = 0 := by rfl
    have e2 : IntKind.u64.max = 18446744073709551615 := by rfl
    exact if_pos ⟨by omega, by omega⟩
  unfold fiok fival
  rw [e]
  exact ⟨rfl, rfl⟩
theorem fls_nat (a b : Nat) (ha : a ≤ 9218868437227405312) (hb : b ≤ 9218868437227405312) : fls a b = decide (a < b) := by
  rw [fls_key a b (by omega) (by omega) (isn_pos a ha) (isn_pos b hb), fkey_pos a (by omega), fkey_pos b (by omega)]
  exact decide_eq_decide.2 (by omega)
theorem fge_nat (a b : Nat) (ha : a ≤ 9218868437227405312) (hb : b ≤ 9218868437227405312) : fge a b = decide (b ≤ a) := by
  rw [fge_key a b (by omega) (by omega) (isn_pos a ha) (isn_pos b hb), fkey_pos a (by omega), fkey_pos b (by omega)]
  exact decide_eq_decide.2 (by omega)
theorem fgt_nat (a b : Nat) (ha : a ≤ 9218868437227405312) (hb : b ≤ 9218868437227405312) : fgt a b = decide (b < a) := by
  rw [fgt_key a b (by omega) (by omega) (isn_pos a ha) (isn_pos b hb), fkey_pos a (by omega), fkey_pos b (by omega)]
  exact decide_eq_decide.2 (by omega)
theorem feq_nat (a b : Nat) (ha : a ≤ 9218868437227405312) (hb : b ≤ 9218868437227405312) : feq a b = decide (a = b) := by
  rw [feq_key a b (by omega) (by omega) (isn_pos a ha) (isn_pos b hb), fkey_pos a (by omega), fkey_pos b (by omega)]
  exact decide_eq_decide.2 (by omega)
theorem lt_one (N : Nat) (q : Int) (h : 0 < N) (h2 : N < 2 ^ 53) (hq : -1074 ≤ q) (hv : q + N.log2 ≤ 1023) : fls (fl N q) 4607182418800017408 = decide (q + N.log2 < 0) := by
  rw [fls_nat _ _ (fl_lt N q h h2 hq).2 (by omega)]
  have := fl_below N q h h2 hq hv 1022 (by omega)
  exact decide_eq_decide.2 (by omega)
theorem ge_two (N : Nat) (q : Int) (h : 0 < N) (h2 : N < 2 ^ 53) (hq : -1074 ≤ q) (hv : q + N.log2 ≤ 1023) : fge (fl N q) 4611686018427387904 = decide (1 ≤ q + N.log2) := by
  rw [fge_nat _ _ (fl_lt N q h h2 hq).2 (by omega)]
  have := fl_below N q h h2 hq hv 1023 (by omega)
  exact decide_eq_decide.2 (by omega)
theorem pow_mod (a b k : Nat) (h : k ≤ b) : ((a * 2 ^ b : Nat) : Int) % 2 ^ k = 0 := by
  obtain ⟨c, rfl⟩ := Nat.le.dest h
  rw [Nat.pow_add]
  have : ((a * (2 ^ k * 2 ^ c) : Nat) : Int) = ((a * 2 ^ c : Nat) : Int) * 2 ^ k := by push_cast; rw [Int.mul_assoc, Int.mul_comm (2 ^ c : Int)]
  rw [this]
  exact Int.mul_emod_left _ _
/-- the last step where the float stands in [1, 2) -/
theorem bits_unit (S : Int) (hS : S = 0 ∨ S = 9223372036854775808) (N : Nat) (q : Int) (h : 0 < N) (h2 : N < 2 ^ 53) (hq : -1074 ≤ q) (hv : q + N.log2 ≤ 1023) (E : Int) (hE : -1022 ≤ E) (hE2 : q + N.log2 = E) : Ev (fun k => spec_FloatBits.l1 k S (fl N (q - E)) E) (S + (fl N q : Nat)) := by
  have hlog := log2_le N h h2
  have hfin := fl_finite N q h h2 hq hv
  have hself : 2 ^ N.log2 ≤ N := Nat.log2_self_le (by omega)
  have hup : N < 2 ^ (N.log2 + 1) := Nat.lt_log2_self
  have hL : lastOf N q = E - 52 := by unfold lastOf; omega
  rw [hL] at hfin
  have hsub := sub_one N h h2
  rw [show q - E = -(N.log2 : Int) by omega]
  refine Ev.step (fun k => by rw [spec_FloatBits.l1, if_neg (by rw [lt_one N _ h h2 (by omega) (by omega), decide_eq_false (by omega)]; exact Bool.false_ne_true)]) ?_
  have hs := fl_ok (o := .sub) hsub
  refine ev_pos hs.1 ?_
  rw [hs.2]
  have key : fok .mul (if N = 2 ^ N.log2 then 0 else fl (N - 2 ^ N.log2) (-(N.log2 : Int))) 4841369599423283200 = true ∧ fiok .u64 (fval .mul (if N = 2 ^ N.log2 then 0 else fl (N - 2 ^ N.log2) (-(N.log2 : Int))) 4841369599423283200) = true ∧ fival .u64 (fval .mul (if N = 2 ^ N.log2 then 0 else fl (N - 2 ^ N.log2) (-(N.log2 : Int))) 4841369599423283200) = ((N - 2 ^ N.log2) * 2 ^ (52 - N.log2) : Nat) := by
    have hb : (N - 2 ^ N.log2) * 2 ^ (52 - N.log2) < 4503599627370496 := by
      have h3 : N - 2 ^ N.log2 < 2 ^ N.log2 := by rw [Nat.pow_succ] at hup; omega
      have h4 : (N - 2 ^ N.log2) * 2 ^ (52 - N.log2) < 2 ^ N.log2 * 2 ^ (52 - N.log2) := Nat.mul_lt_mul_of_pos_right h3 (Nat.two_pow_pos _)
      rw [← Nat.pow_add, show N.log2 + (52 - N.log2) = 52 by omega] at h4
      exact h4
    by_cases hz : N = 2 ^ N.log2
    · rw [if_pos hz, show N - 2 ^ N.log2 = 0 by omega, Nat.zero_mul]
      have hm := fl_ok (o := .mul) (a := 0) (b := 4841369599423283200) (r := 0) (by
        show Ieee.double.mul 0 4841369599423283200 = some 0
        unfold Ieee.Format.mul
        rw [read_zero, read_wide]
        show some (Ieee.double.write (.number false (0 * 4503599627370496) _)) = _
        rw [Nat.zero_mul, write_zero, word_false])
      rw [hm.2]
      exact ⟨hm.1, fival_u64 0 0 toInt_zero (by omega) (by omega)⟩
    · rw [if_neg hz]
      have hlt : N - 2 ^ N.log2 < 2 ^ 53 := Nat.lt_of_le_of_lt (Nat.sub_le _ _) h2
      have hlog' := log2_le (N - 2 ^ N.log2) (by omega) hlt
      have hm := fl_ok (o := .mul) (mul_pow (N - 2 ^ N.log2) (-(N.log2 : Int)) 4841369599423283200 0 (by omega) hlt (by omega) (by omega) read_wide (by omega))
      rw [hm.2, show -(N.log2 : Int) + 0 + 52 = ((52 - N.log2 : Nat) : Int) by omega]
      exact ⟨hm.1, fival_u64 _ _ (toInt_fl (N - 2 ^ N.log2) (52 - N.log2) (by omega) hlt (by omega)) (by omega) (by omega)⟩
  refine ev_pos key.1 ?_
  refine ev_pos key.2.1 ?_
  rw [key.2.2, hfin.1]
  have hmul : N * 2 ^ (52 - N.log2) = (N - 2 ^ N.log2) * 2 ^ (52 - N.log2) + 4503599627370496 := by
    have h1 : (4503599627370496 : Nat) = 2 ^ N.log2 * 2 ^ (52 - N.log2) := by rw [← Nat.pow_add, show N.log2 + (52 - N.log2) = 52 by omega]
    rw [h1, ← Nat.add_mul, show N - 2 ^ N.log2 + 2 ^ N.log2 = N by omega]
  have hb : (N - 2 ^ N.log2) * 2 ^ (52 - N.log2) < 4503599627370496 := by
    have h3 : N - 2 ^ N.log2 < 2 ^ N.log2 := by rw [Nat.pow_succ] at hup; omega
    have h4 : (N - 2 ^ N.log2) * 2 ^ (52 - N.log2) < 2 ^ N.log2 * 2 ^ (52 - N.log2) := Nat.mul_lt_mul_of_pos_right h3 (Nat.two_pow_pos _)
    rw [← Nat.pow_add, show N.log2 + (52 - N.log2) = 52 by omega] at h4
    exact h4
  rw [show (q - (E - 52)).toNat = 52 - N.log2 by omega, hmul]
  generalize (N - 2 ^ N.log2) * 2 ^ (52 - N.log2) = F at hb
  rw [w64 (by omega) (by omega)]
  have e1 : IntKind.u64.wrap (E + 1023) = E + 1023 := by simp [IntKind.wrap, IntKind.bits, IntKind.signed]; omega
  have e2 : IntKind.u64.wrap ((E + 1023) * 4503599627370496) = (E + 1023) * 4503599627370496 := by simp [IntKind.wrap, IntKind.bits, IntKind.signed]; omega
  rw [e1, e2, u64_or_add 63 (x := S) (y := (E + 1023) * 4503599627370496) (by omega) (by rcases hS with rfl | rfl <;> rfl) (by omega) (by omega) (show _ < (9223372036854775808 : Int) by omega) (by omega)]
  rw [u64_or_add 52 (by omega) (show _ % (4503599627370496 : Int) = 0 by omega) (by omega) (by omega) (show _ < (4503599627370496 : Int) by omega) (by omega)]
  have e3 : S + (E + 1023) * 4503599627370496 + (F : Int) = S + (((E - 52 + 1074).toNat * 4503599627370496 + (F + 4503599627370496) : Nat) : Int) := by omega
  rw [e3]
  exact Ev.now _
/-- the last step: the bits of what is left, E places below -/
theorem bits_l1 (S : Int) (hS : S = 0 ∨ S = 9223372036854775808) (N : Nat) (q : Int) (h : 0 < N) (h2 : N < 2 ^ 53) (hq : -1074 ≤ q) (hv : q + N.log2 ≤ 1023) : ∀ (n : Nat) (E : Int), E ≤ 1023 → -1022 ≤ E → q + N.log2 ≤ E → -1074 ≤ q - E → (n : Int) = E + 1022 → Ev (fun k => spec_FloatBits.l1 k S (fl N (q - E)) E) (S + (fl N q : Nat)) := by
  have hlog := log2_le N h h2
  have hl := last_le N q h h2 hq
  have hm := mag_bound N q h h2 hq
  have hfin := fl_finite N q h h2 hq hv
  have hself : 2 ^ N.log2 ≤ N := Nat.log2_self_le (by omega)
  have hup : N < 2 ^ (N.log2 + 1) := Nat.lt_log2_self
  intro n
  induction n with
  | zero =>
    intro E hE1 hE2 hE3 hE4 hn
    have hE : E = -1022 := by omega
    subst hE
    by_cases hz : q + N.log2 = -1022
    · exact bits_unit S hS N q h h2 hq hv _ (by omega) (by omega)
    · have hL : lastOf N q = -1074 := by unfold lastOf; omega
      rw [hL] at hm hfin
      have hsmall : N * 2 ^ (q - -1074).toNat < 9007199254740992 := hm.2.1
      refine Ev.step (fun k => by rw [spec_FloatBits.l1, if_pos (by rw [lt_one N _ h h2 (by omega) (by omega)]; exact decide_eq_true (by omega)), if_neg (by omega)]) ?_
      have hmul := fl_ok (o := .mul) (mul_pow N (q - -1022) 4841369599423283200 0 h h2 (by omega) (by omega) read_wide (by omega))
      have hq2 : q - -1022 + 0 + 52 = ((q - -1074).toNat : Int) := by omega
      rw [hq2] at hmul
      have hi := fival_u64 _ _ (toInt_fl N (q - -1074).toNat h h2 (by omega)) (by omega) (by omega)
      refine ev_pos hmul.1 ?_
      rw [hmul.2]
      refine ev_pos hi.1 ?_
      rw [hi.2, hfin.1]
      rw [show (-1074 + 1074 : Int).toNat = 0 by omega, Nat.zero_mul, Nat.zero_add]
      have hlt : N * 2 ^ (q - -1074).toNat < 9007199254740992 := hm.2.1
      rw [u64_or_add 53 (by omega) (by rcases hS with rfl | rfl <;> rfl) (by omega) (by omega) (show _ < (9007199254740992 : Int) by omega) (by omega)]
      exact Ev.now _
  | succ n ih =>
    intro E hE1 hE2 hE3 hE4 hn
    by_cases hz : q + N.log2 = E
    · exact bits_unit S hS N q h h2 hq hv _ (by omega) (by omega)
    · refine Ev.step (fun k => by rw [spec_FloatBits.l1, if_pos (by rw [lt_one N _ h h2 (by omega) (by omega)]; exact decide_eq_true (by omega)), if_pos (by omega)]) ?_
      have hmul := fl_ok (o := .mul) (mul_pow N (q - E) 4611686018427387904 (-51) h h2 (by omega) (by omega) read_two (by omega))
      refine ev_pos hmul.1 ?_
      rw [hmul.2, w64 (by omega) (by omega), show q - E + -51 + 52 = q - (E - 1) by omega]
      exact ih (E - 1) (by omega) (by omega) (by omega) (by omega) (by omega)
/-- halving while the float is two or more -/
theorem bits_l0 (S : Int) (hS : S = 0 ∨ S = 9223372036854775808) (N : Nat) (q : Int) (h : 0 < N) (h2 : N < 2 ^ 53) (hq : -1074 ≤ q) (hv : q + N.log2 ≤ 1023) : ∀ (n : Nat) (E : Int), 0 ≤ E → (E = 0 ∨ E ≤ q + N.log2) → (n : Int) = 1023 - E → Ev (fun k => spec_FloatBits.l0 k S (fl N (q - E)) E) (S + (fl N q : Nat)) := by
  have hlog := log2_le N h h2
  intro n
  induction n with
  | zero =>
    intro E h0 hE hn
    refine Ev.step (fun k => by rw [spec_FloatBits.l0, if_neg (by rw [ge_two N _ h h2 (by omega) (by omega), decide_eq_false (by omega)]; exact Bool.false_ne_true)]) ?_
    exact bits_l1 S hS N q h h2 hq hv (E + 1022).toNat E (by omega) (by omega) (by omega) (by omega) (by omega)
  | succ n ih =>
    intro E h0 hE hn
    by_cases hz : q + N.log2 ≤ E
    · refine Ev.step (fun k => by rw [spec_FloatBits.l0, if_neg (by rw [ge_two N _ h h2 (by omega) (by omega), decide_eq_false (by omega)]; exact Bool.false_ne_true)]) ?_
      exact bits_l1 S hS N q h h2 hq hv (E + 1022).toNat E (by omega) (by omega) (by omega) (by omega) (by omega)
    · refine Ev.step (fun k => by rw [spec_FloatBits.l0, if_pos (by rw [ge_two N _ h h2 (by omega) (by omega)]; exact decide_eq_true (by omega))]) ?_
      have hquo := fl_ok (o := .quo) (quo_pow N (q - E) 4611686018427387904 (-51) h h2 (by omega) (by omega) read_two (by omega))
      refine ev_pos hquo.1 ?_
      rw [hquo.2, w64 (by omega) (by omega), show q - E - -51 - 52 = q - (E + 1) by omega]
      exact ih (E + 1) (by omega) (by omega) (by omega)
theorem bits_j1 (S : Int) (hS : S = 0 ∨ S = 9223372036854775808) (c : Nat) (hc : c ≤ 9218868437227405312) : Ev (fun k => spec_FloatBits.j1 k S c) (S + (c : Nat)) := by
  by_cases h0 : c = 0
  · subst h0
    refine Ev.step (fun k => by rw [spec_FloatBits.j1, if_pos (by rw [feq_nat _ _ (by omega) (by omega)]; rfl)]) ?_
    rw [show S + ((0 : Nat) : Int) = S by omega]
    exact Ev.now _
  by_cases hi : c = 9218868437227405312
  · subst hi
    refine Ev.step (fun k => by rw [spec_FloatBits.j1, if_neg (by rw [feq_nat _ _ (by omega) (by omega), decide_eq_false (by omega)]; exact Bool.false_ne_true), if_pos (by rw [fgt_nat _ _ (by omega) (by omega)]; exact decide_eq_true (by omega))]) ?_
    rw [u64_or_add 63 (by omega) (by rcases hS with rfl | rfl <;> rfl) (by omega) (by omega) (show _ < (9223372036854775808 : Int) by omega) (by omega)]
    exact Ev.now _
  · obtain ⟨a1, a2, a3, a4⟩ := log2_mg c (by omega) (by omega)
    obtain ⟨e, hp, hp2, hm, hn⟩ := mg_pl c (by omega)
    refine Ev.step (fun k => by rw [spec_FloatBits.j1, if_neg (by rw [feq_nat _ _ (by omega) (by omega)]; simp [h0]), if_neg (by rw [fgt_nat _ _ (by omega) (by omega), decide_eq_false (by omega)]; exact Bool.false_ne_true)]) ?_
    have := bits_l0 S hS (mg c) (pl c) a1 a2 hp a4 1023 0 (by omega) (Or.inl rfl) (by omega)
    rw [show pl c - 0 = pl c by omega, fl_eta c (by omega) (by omega)] at this
    exact this
/-- THE REFERENCE's BITS: the float's own, of every NaN one -/
theorem spec_FloatBits_f (a : Nat) (ha : a < 2 ^ 64) : Ev (fun k => spec_FloatBits.f k a) (if isn a then 9221120237041090560 else (a : Int)) := by
  unfold spec_FloatBits.f
  cases hn : isn a with
  | true =>
    refine ev_neg (by rw [feq_self a ha, hn]; simp) ?_
    exact Ev.now _
  | false =>
    refine ev_pos (by rw [feq_self a ha, hn]; rfl) ?_
    rw [if_neg (by simp)]
    have hz : isn 0 = false := isn_pos 0 (by omega)
    have low : ∀ c, c ≤ 9218868437227405312 → a = c → Ev (fun k => if fls a 0 = true then spec_FloatBits.j0 k a 0 a true else if feq a 0 = true then if fok .quo 4607182418800017408 a = true then spec_FloatBits.j0 k a 0 a (fls (fval .quo 4607182418800017408 a) 0) else none else spec_FloatBits.j0 k a 0 a false) (a : Int) := by
      intro c hc hac
      subst hac
      have fin : Ev (fun k => spec_FloatBits.j0 k a 0 a false) (a : Int) := by
        refine Ev.step (fun k => by rw [spec_FloatBits.j0, if_neg (by simp)]) ?_
        have := bits_j1 0 (Or.inl rfl) a hc
        rw [Int.zero_add] at this
        exact this
      refine ev_neg (by rw [fls_nat a 0 hc (by omega)]; simp) ?_
      by_cases h0 : a = 0
      · subst h0
        refine ev_pos (by rw [feq_nat 0 0 (by omega) (by omega)]; rfl) ?_
        have hq := fl_ok (o := .quo) (a := 4607182418800017408) (b := 0) (r := 9218868437227405312) (by
          show Ieee.double.div 4607182418800017408 0 = some 9218868437227405312
          unfold Ieee.Format.div
          rw [read_zero, read_one]
          rfl)
        refine ev_pos hq.1 ?_
        rw [hq.2, fls_nat _ _ (by omega) (by omega)]
        exact fin
      · refine ev_neg (by rw [feq_nat a 0 hc (by omega)]; simp [h0]) ?_
        exact fin
    have high : ∀ c, c ≤ 9218868437227405312 → a = 9223372036854775808 + c → Ev (fun k => if fls a 0 = true then spec_FloatBits.j0 k a 0 a true else if feq a 0 = true then if fok .quo 4607182418800017408 a = true then spec_FloatBits.j0 k a 0 a (fls (fval .quo 4607182418800017408 a) 0) else none else spec_FloatBits.j0 k a 0 a false) (a : Int) := by
      intro c hc hac
      have fin : Ev (fun k => spec_FloatBits.j0 k a 0 a true) (a : Int) := by
        refine Ev.step (fun k => by rw [spec_FloatBits.j0, if_pos rfl]) ?_
        have := bits_j1 9223372036854775808 (Or.inr rfl) c hc
        rw [hac, fneg_neg c (by omega)]
        rw [show ((9223372036854775808 + c : Nat) : Int) = 9223372036854775808 + (c : Int) by omega]
        exact this
      have hk := fkey_neg c a hac
      have hk0 : fkey 0 = 0 := fkey_pos 0 (by omega)
      by_cases h0 : c = 0
      · subst h0
        refine ev_neg (by rw [fls_key a 0 ha (by omega) hn hz, hk, hk0]; simp) ?_
        refine ev_pos (by rw [feq_key a 0 ha (by omega) hn hz, hk, hk0]; rfl) ?_
        have hq := fl_ok (o := .quo) (a := 4607182418800017408) (b := 9223372036854775808) (r := 18442240474082181120) (by
          show Ieee.double.div 4607182418800017408 9223372036854775808 = some 18442240474082181120
          unfold Ieee.Format.div
          rw [read_nzero, read_one]
          rfl)
        rw [Nat.add_zero] at hac
        rw [hac] at fin ⊢
        refine ev_pos hq.1 ?_
        rw [hq.2]
        have e : fls 18442240474082181120 0 = true := by
          rw [fls_key _ 0 (by omega) (by omega) (isn_neg 9218868437227405312 (by omega)) hz, hk0, fkey_neg 9218868437227405312 18442240474082181120 rfl]
          exact decide_eq_true (by omega)
        rw [e]
        exact fin
      · refine ev_pos (by rw [fls_key a 0 ha (by omega) hn hz, hk, hk0]; exact decide_eq_true (by omega)) ?_
        exact fin
    rcases word_real a ha hn with g | g | ⟨c, g, hc⟩ | g
    · exact low a (by omega) rfl
    · exact low a (by omega) rfl
    · exact high c (by omega) g
    · exact high 9218868437227405312 (by omega) g

theorem fkey_zero (a : Nat) (ha : a < 2 ^ 64) : fkey a = 0 ↔ a = 0 ∨ a = 9223372036854775808 := by
  unfold fkey
  split <;> omega
theorem feq_zero (a : Nat) (ha : a < 2 ^ 64) (hn : isn a = false) : feq a 0 = decide (a = 0 ∨ a = 9223372036854775808) := by
  rw [feq_key a 0 ha (by omega) hn (isn_pos 0 (by omega)), fkey_pos 0 (by omega)]
  exact decide_eq_decide.2 (fkey_zero a ha)
theorem fgt_zero (a : Nat) (ha : a < 2 ^ 64) (hn : isn a = false) : fgt a 0 = decide (0 < a ∧ a < 9223372036854775808) := by
  rw [fgt_key a 0 ha (by omega) hn (isn_pos 0 (by omega)), fkey_pos 0 (by omega)]
  refine decide_eq_decide.2 ?_
  unfold fkey
  split <;> omega
theorem fls_zero (a : Nat) (ha : a < 2 ^ 64) (hn : isn a = false) : fls a 0 = decide (9223372036854775808 < a) := by
  rw [fls_key a 0 ha (by omega) hn (isn_pos 0 (by omega)), fkey_pos 0 (by omega)]
  refine decide_eq_decide.2 ?_
  unfold fkey
  split <;> omega

theorem bits_or_comm (k : IntKind) (x y : Int) : Go.bits .or k x y = Go.bits .or k y x := by
  unfold Go.bits
  dsimp only
  rw [BitVec.or_comm]
theorem u64_not (b : Nat) (h : b < 2 ^ 64) : Go.bits .xor .u64 IntKind.u64.max (b : Int) = 18446744073709551615 - (b : Int) := by
  have e1 : IntKind.u64.max = 18446744073709551615 := by rfl
  have e2 : Go.bits .xor .u64 IntKind.u64.max (b : Int) = IntKind.u64.wrap ((BitVec.ofInt 64 IntKind.u64.max ^^^ BitVec.ofInt 64 (b : Int)).toNat : Int) := rfl
  have e3 : BitVec.ofInt 64 (18446744073709551615 : Int) = BitVec.allOnes 64 := by rfl
  rw [e2, e1, e3, BitVec.allOnes_xor, BitVec.toNat_not, BitVec.ofInt_natCast, BitVec.toNat_ofNat, Nat.mod_eq_of_lt h]
  have e4 : ((2 ^ 64 - 1 - b : Nat) : Int) = 18446744073709551615 - (b : Int) := by omega
  rw [e4]
  simp [IntKind.wrap, IntKind.bits, IntKind.signed]
  omega
/-- a float's rank -/
def rankOf (a : Nat) : Int := if isn a then 18446744073709551615 else if a = 0 ∨ a = 9223372036854775808 then 9223372036854775808 else if a < 9223372036854775808 then 9223372036854775808 + (a : Int) else 18446744073709551615 - (a : Int)
theorem real_ne_nan (a : Nat) (hn : isn a = false) : (a : Int) ≠ 9221120237041090560 := by
  intro h
  have : a = 9221120237041090560 := by omega
  subst this
  exact absurd hn (by decide)
theorem or_sign (a : Nat) (h : a < 9223372036854775808) : Go.bits .or .u64 (a : Int) 9223372036854775808 = 9223372036854775808 + (a : Int) := by
  rw [bits_or_comm, u64_or_add 63 (by omega) (by rfl) (by omega) (by omega) (show _ < (9223372036854775808 : Int) by omega) (by omega)]
theorem spec_FloatRank_f (a : Nat) (ha : a < 2 ^ 64) : Ev (fun k => spec_FloatRank.f k a) (rankOf a) := by
  unfold spec_FloatRank.f rankOf
  refine Ev.bind (spec_FloatBits_f a ha) ?_
  cases hn : isn a with
  | true => exact ev_pos rfl (Ev.now _)
  | false =>
    simp only [Bool.false_eq_true, if_false]
    refine ev_neg (real_ne_nan a hn) ?_
    rw [feq_zero a ha hn]
    by_cases hz : a = 0 ∨ a = 9223372036854775808
    · rw [if_pos hz]
      exact ev_pos (decide_eq_true hz) (Ev.now _)
    · rw [if_neg hz]
      refine ev_neg (by rw [decide_eq_false hz]; exact Bool.false_ne_true) ?_
      by_cases hs : a < 9223372036854775808
      · rw [if_pos hs]
        refine ev_neg (by omega) ?_
        rw [or_sign a hs]
        exact Ev.now _
      · rw [if_neg hs]
        refine ev_pos (by omega) ?_
        rw [u64_not a ha]
        exact Ev.now _
theorem impl_FloatRank_f (a : Nat) (ha : a < 2 ^ 64) : impl_FloatRank.f a = some (rankOf a) := by
  unfold impl_FloatRank.f rankOf
  rw [feq_self a ha]
  cases hn : isn a with
  | true => rfl
  | false =>
    rw [if_pos (show (!false) = true from rfl), if_neg Bool.false_ne_true, feq_zero a ha hn, fgt_zero a ha hn]
    by_cases hz : a = 0 ∨ a = 9223372036854775808
    · rw [if_pos hz, decide_eq_true hz]
      rfl
    · rw [if_neg hz, decide_eq_false hz, if_neg Bool.false_ne_true]
      by_cases hs : a < 9223372036854775808
      · rw [if_pos hs, decide_eq_true (by omega), if_pos rfl, or_sign a hs]
      · rw [if_neg hs, decide_eq_false (by omega), if_neg Bool.false_ne_true, u64_not a ha]

def IsBytes (l : List Int) : Prop := ∀ x ∈ l, 0 ≤ x ∧ x ≤ 255
theorem isBytes_of {l : List Int} (h : ∀ x ∈ l, (Lit.int .u8 x).wf = true) : IsBytes l := by
  intro x hx
  have := h x hx
  simpa [Lit.wf, IntKind.min, IntKind.max, IntKind.signed, IntKind.bits] using this
theorem rd_byte {l : List Int} (h : IsBytes l) (i : Int) : 0 ≤ rd l i ∧ rd l i ≤ 255 := by
  by_cases hi : i.toNat < l.length
  · have : rd l i = l[i.toNat] := by simp [rd, List.getD_eq_getElem?_getD, List.getElem?_eq_getElem hi]
    rw [this]
    exact h _ (List.getElem_mem _)
  · have : rd l i = 0 := by simp [rd, List.getD_eq_getElem?_getD, List.getElem?_eq_none (by omega : l.length ≤ i.toNat)]
    omega

theorem isBytes_append {a b : List Int} (ha : IsBytes a) (hb : IsBytes b) : IsBytes (a ++ b) := by
  intro x hx
  rcases List.mem_append.1 hx with h | h
  · exact ha x h
  · exact hb x h
theorem isBytes_one {x : Int} (h : 0 ≤ x ∧ x ≤ 255) : IsBytes [x] := by
  intro y hy
  rw [List.mem_singleton.1 hy]
  exact h
theorem isBytes_nil : IsBytes [] := fun x hx => by cases hx
theorem isBytes_take {a : List Int} (h : IsBytes a) (n : Nat) : IsBytes (a.take n) := fun x hx => h x (List.mem_of_mem_take hx)
theorem isBytes_drop {a : List Int} (h : IsBytes a) (n : Nat) : IsBytes (a.drop n) := fun x hx => h x (List.mem_of_mem_drop hx)

theorem impl_within_f (a b c : Int) : impl_within.f a b c = some (decide (b ≤ a ∧ a ≤ c)) := by
  unfold impl_within.f
  by_cases h : b ≤ a <;> simp [h]

theorem spec_l5in_f (a b c : Int) : spec_l5in.f a b c = some (decide (b ≤ a ∧ a ≤ c)) := by
  unfold spec_l5in.f
  by_cases h : b ≤ a <;> simp [h]

theorem bits_xor_nat (k : IntKind) (j : Nat) (hj : j ≤ k.bits) (hk : ∀ n : Int, 0 ≤ n → n < 2 ^ j → k.wrap n = n) (a b : Nat) (ha : a < 2 ^ j) (hb : b < 2 ^ j) :
    Go.bits .xor k a b = ((a ^^^ b : Nat) : Int) := by
  have hp : 2 ^ j ≤ 2 ^ k.bits := Nat.pow_le_pow_right (by decide) hj
  have ha' : a % 2 ^ k.bits = a := Nat.mod_eq_of_lt (Nat.lt_of_lt_of_le ha hp)
  have hb' : b % 2 ^ k.bits = b := Nat.mod_eq_of_lt (Nat.lt_of_lt_of_le hb hp)
  have cast : ∀ n : Nat, n < 2 ^ j → ((n : Nat) : Int) < 2 ^ j := fun n h => by exact_mod_cast h
  simp only [Go.bits, BitVec.ofInt_natCast, BitVec.toNat_xor, BitVec.toNat_ofNat, ha', hb']
  exact hk _ (Int.natCast_nonneg _) (cast _ (Nat.xor_lt_two_pow ha hb))

/-- a number as d bytes, low first -/
def le (n : Int) : Nat → List Int
  | 0 => []
  | d + 1 => (n % 256) :: le (n / 256) d
theorem le_length (d : Nat) : ∀ n, (le n d).length = d := by
  induction d with
  | zero => intro n; rfl
  | succ d ih => intro n; simp [le, ih]
theorem le_bytes (d : Nat) : ∀ n, ∀ x ∈ le n d, 0 ≤ x ∧ x ≤ 255 := by
  induction d with
  | zero => intro n x hx; simp [le] at hx
  | succ d ih =>
    intro n x hx
    simp only [le, List.mem_cons] at hx
    rcases hx with rfl | hx
    · omega
    · exact ih _ x hx
def PnOk (n size : Int) : Prop := (1 ≤ size ∧ size ≤ 8) ∧ 0 ≤ n ∧ n / 256 ^ size.toNat = 0
instance (n size : Int) : Decidable (PnOk n size) := by unfold PnOk; infer_instance
def pn (n size : Int) : List Int := if PnOk n size then le n size.toNat else []
theorem pow256 (d : Nat) (n : Int) : n / 256 / 256 ^ d = n / 256 ^ (d + 1) := by
  rw [Int.pow_succ, Int.mul_comm, Int.ediv_ediv_of_nonneg (by decide)]
theorem spec_PutNum_l (size : Int) (hs : size ≤ 8) (d : Nat) : ∀ (n i : Int) (out : List Int), 0 ≤ n → n ≤ 9223372036854775807 → 0 ≤ i → i + d = size → out.length ≤ 100 - d →
    Ev (fun k => spec_PutNum.l0 k n size out i) (if n / 256 ^ d > 0 then [] else out ++ le n d) := by
  induction d with
  | zero =>
    intro n i out h0 h1 hi he ho
    refine Ev.step (f := fun _ => some (if n / 256 ^ 0 > 0 then [] else out ++ le n 0)) (fun k => ?_) (Ev.now _)
    simp only [spec_PutNum.l0]
    rw [if_neg (by omega)]
    by_cases hn : n > 0
    · rw [if_pos hn, if_pos (by simpa using hn)]
    · rw [if_neg hn, if_neg (by simpa using hn)]
      simp [le]
  | succ d ih =>
    intro n i out h0 h1 hi he ho
    have hq : Int.tdiv n 256 = n / 256 := Int.tdiv_eq_ediv_of_nonneg h0
    have hm : Int.tmod n 256 = n % 256 := Int.tmod_eq_emod_of_nonneg h0
    have := ih (n / 256) (i + 1) (out ++ [n % 256]) (by omega) (by omega) (by omega) (by omega) (by simp; omega)
    rw [pow256] at this
    simp only [List.append_assoc, List.cons_append, List.nil_append] at this
    refine Ev.step (fun k => ?_) this
    simp only [spec_PutNum.l0]
    rw [if_pos (by omega), if_pos (by omega), hq, hm, w64 (by omega) (by omega), w64 (by omega) (by omega), show n % 256 % 256 = n % 256 by omega]
theorem impl_PutNum_l (size : Int) (hs : size ≤ 8) (d : Nat) : ∀ (n i : Int) (out : List Int), 0 ≤ i → i + d = size → out.length ≤ 100 - d →
    Ev (fun k => impl_PutNum.l0 k n out size i) (out ++ le n d) := by
  induction d with
  | zero =>
    intro n i out hi he ho
    refine Ev.step (f := fun _ => some (out ++ le n 0)) (fun k => ?_) (Ev.now _)
    simp only [impl_PutNum.l0]
    rw [if_neg (by omega)]
    simp [le]
  | succ d ih =>
    intro n i out hi he ho
    have := ih (n / 256) (i + 1) (out ++ [n % 256]) (by omega) (by omega) (by simp; omega)
    simp only [List.append_assoc, List.cons_append, List.nil_append] at this
    refine Ev.step (fun k => ?_) this
    simp only [impl_PutNum.l0]
    rw [if_pos (by omega), if_pos (by omega), w64 (by omega) (by omega)]
theorem pn_off (n size : Int) (h : ¬ PnOk n size) : pn n size = [] := by rw [pn, if_neg h]
theorem div_small (n : Int) (d : Nat) (h0 : 0 ≤ n) : ¬ n / 256 ^ d > 0 ↔ n / 256 ^ d = 0 := by
  have : 0 ≤ n / 256 ^ d := Int.ediv_nonneg h0 (Int.le_of_lt (Int.pow_pos (by decide)))
  omega
theorem spec_PutNum_f (n size : Int) (h1 : n ≤ 9223372036854775807) : Ev (fun k => spec_PutNum.f k n size) (pn n size) := by
  unfold spec_PutNum.f
  by_cases s1 : size < 1
  · refine ev_pos s1 (Ev.step (f := fun _ => some []) (fun k => by simp only [spec_PutNum.j0, if_true]) ?_)
    rw [pn_off n size (fun h => by have := h.1; omega)]
    exact Ev.now _
  refine ev_neg s1 ?_
  by_cases s2 : size > 8
  · refine ev_pos s2 (Ev.step (f := fun _ => some []) (fun k => by simp only [spec_PutNum.j0, if_true]) ?_)
    rw [pn_off n size (fun h => by have := h.1; omega)]
    exact Ev.now _
  refine ev_neg s2 ?_
  by_cases s3 : n < 0
  · refine Ev.step (f := fun _ => some []) (fun k => by simp only [spec_PutNum.j0]; rw [if_pos (decide_eq_true s3)]) ?_
    rw [pn_off n size (fun h => by have := h.2.1; omega)]
    exact Ev.now _
  refine Ev.step (f := fun k => spec_PutNum.l0 k n size [] 0) (fun k => by simp only [spec_PutNum.j0]; rw [if_neg (by simpa using s3)]) ?_
  have := spec_PutNum_l size (by omega) size.toNat n 0 [] (by omega) h1 (by omega) (by omega) (by simp)
  by_cases hz : n / 256 ^ size.toNat > 0
  · rw [if_pos hz] at this
    rw [pn_off n size (fun h => by have := h.2.2; omega)]
    exact this
  · rw [if_neg hz] at this
    rw [pn, if_pos ⟨⟨by omega, by omega⟩, by omega, (div_small n _ (by omega)).1 hz⟩]
    exact this
theorem shr_pow (n size : Int) (h1 : 1 ≤ size) (h2 : size < 8) : shr .i64 n (wrap64 (8 * size)) = n / 256 ^ size.toNat := by
  rw [w64 (by omega) (by omega)]
  unfold shr
  rw [Nat.min_eq_left (by simp [IntKind.bits]; omega)]
  obtain ⟨m, rfl⟩ := Int.eq_ofNat_of_zero_le (show 0 ≤ size by omega)
  have : (8 * (m : Int)).toNat = 8 * m := by omega
  rw [this, Int.toNat_natCast, Int.pow_mul]
  rfl
theorem impl_PutNum_f (n size : Int) (h1 : n ≤ 9223372036854775807) : Ev (fun k => impl_PutNum.f k n size) (pn n size) := by
  unfold impl_PutNum.f
  refine ev_bind0 (impl_within_f _ _ _) ?_
  by_cases s1 : 1 ≤ size ∧ size ≤ 8
  · refine ev_pos (decide_eq_true s1) ?_
    by_cases s2 : n < 0
    · refine ev_pos s2 (Ev.step (f := fun _ => some []) (fun k => by simp only [impl_PutNum.j0, if_true]) ?_)
      rw [pn_off n size (fun h => by have := h.2.1; omega)]
      exact Ev.now _
    refine ev_neg s2 ?_
    have hl := impl_PutNum_l size (by omega) size.toNat n 0 [] (by omega) (by omega) (by simp)
    by_cases s3 : size < 8
    · refine ev_pos s3 (ev_pos (by rw [w64 (by omega) (by omega)]; omega) ?_)
      rw [shr_pow n size s1.1 s3]
      by_cases hz : n / 256 ^ size.toNat = 0
      · refine Ev.step (f := fun k => impl_PutNum.l0 k n [] size 0) (fun k => by simp only [impl_PutNum.j0]; rw [if_neg (by simp [hz])]) ?_
        rw [pn, if_pos ⟨s1, by omega, hz⟩]
        exact hl
      · refine Ev.step (f := fun _ => some []) (fun k => by simp only [impl_PutNum.j0]; rw [if_pos (by simp [hz])]) ?_
        rw [pn_off n size (fun h => hz h.2.2)]
        exact Ev.now _
    · refine ev_neg s3 ?_
      obtain rfl : size = 8 := by omega
      refine Ev.step (f := fun k => impl_PutNum.l0 k n [] 8 0) (fun k => by simp only [impl_PutNum.j0, Bool.false_eq_true, if_false]) ?_
      have hz : n / 256 ^ (8 : Int).toNat = 0 := by
        have : (256 : Int) ^ (8 : Int).toNat = 18446744073709551616 := by decide
        rw [this]; omega
      rw [pn, if_pos ⟨s1, by omega, hz⟩]
      exact hl
  · refine ev_neg (by simpa using s1) (Ev.step (f := fun _ => some []) (fun k => by simp only [impl_PutNum.j0, if_true]) ?_)
    rw [pn_off n size (fun h => s1 h.1)]
    exact Ev.now _
theorem pn_length (n size : Int) : (pn n size).length ≤ 8 := by
  unfold pn
  split
  · rename_i h
    rw [le_length]
    have := h.1
    omega
  · simp

theorem toByteS_l (l : List Int) (hn : l.length ≤ 1048576) (d : Nat) : ∀ (i : Nat) (y : List Int), i + d = l.length → y.length = l.length → (∀ j, j < i → y[j]? = l[j]?) → Ev (fun k => laws_toByteS.l0 k l y (i : Int)) l := by
  induction d with
  | zero =>
    intro i y hi hy hj
    refine Ev.step (f := fun _ => some l) (fun k => ?_) (Ev.now _)
    simp only [laws_toByteS.l0]
    rw [if_neg (by omega)]
    congr 1
    refine List.ext_getElem? fun j => ?_
    by_cases h : j < i
    · exact hj j h
    · rw [List.getElem?_eq_none (by omega), List.getElem?_eq_none (by omega)]
  | succ d ih =>
    intro i y hi hy hj
    refine Ev.step (f := fun k => laws_toByteS.l0 k l (y.set i (rd l i)) ((i + 1 : Nat) : Int)) (fun k => ?_) (ih (i + 1) _ (by omega) (by simp [hy]) ?_)
    · simp only [laws_toByteS.l0]
      rw [if_pos (by omega), if_pos (by omega), if_pos (by omega), w64 (by omega) (by omega)]
      simp
    · intro j hlt
      by_cases h : j = i
      · subst h
        rw [List.getElem?_set_self (by omega), rd_nat l j (by omega), List.getElem?_eq_getElem (by omega)]
      · rw [List.getElem?_set_ne (by omega)]
        exact hj j (by omega)
theorem toByteS_f (l : List Int) (hn : l.length ≤ 1048576) : Ev (fun k => laws_toByteS.f k l) l := by
  unfold laws_toByteS.f
  refine ev_pos (by omega) (ev_pos (by omega) ?_)
  exact toByteS_l l hn l.length 0 _ (by omega) (by simp) (by intro j h; omega)

theorem eqByteS_l (a b : List Int) (hn : a.length ≤ 1048576) (hab : a.length = b.length) (d : Nat) : ∀ (i : Nat), i + d = a.length → (∀ j, j < i → a[j]? = b[j]?) → Ev (fun k => laws_eqByteS.l0 k a b (i : Int)) (decide (a = b)) := by
  induction d with
  | zero =>
    intro i hi hj
    refine Ev.step (f := fun _ => some true) (fun k => ?_) ?_
    · simp only [laws_eqByteS.l0]
      rw [if_neg (by omega)]
    · have : a = b := by
        refine List.ext_getElem? fun j => ?_
        by_cases h : j < i
        · exact hj j h
        · rw [List.getElem?_eq_none (by omega), List.getElem?_eq_none (by omega)]
      rw [decide_eq_true this]
      exact Ev.now _
  | succ d ih =>
    intro i hi hj
    have ha : rd a (i : Int) = a[i]'(by omega) := rd_nat a i (by omega)
    have hb : rd b (i : Int) = b[i]'(by omega) := rd_nat b i (by omega)
    by_cases he : rd a (i : Int) = rd b (i : Int)
    · refine Ev.step (f := fun k => laws_eqByteS.l0 k a b ((i + 1 : Nat) : Int)) (fun k => ?_) (ih (i + 1) (by omega) ?_)
      · simp only [laws_eqByteS.l0]
        rw [if_pos (by omega), if_pos (by omega), if_pos (by omega), if_pos he, w64 (by omega) (by omega)]
        simp
      · intro j hlt
        by_cases h : j = i
        · subst h
          rw [List.getElem?_eq_getElem (by omega), List.getElem?_eq_getElem (by omega), ← ha, ← hb, he]
        · exact hj j (by omega)
    · refine Ev.step (f := fun _ => some false) (fun k => ?_) ?_
      · simp only [laws_eqByteS.l0]
        rw [if_pos (by omega), if_pos (by omega), if_pos (by omega), if_neg he]
      · have : ¬ a = b := by
          rintro rfl
          exact he rfl
        rw [decide_eq_false this]
        exact Ev.now _
theorem eqByteS_f (a b : List Int) (hn : a.length ≤ 1048576) : Ev (fun k => laws_eqByteS.f k a b) (decide (a = b)) := by
  unfold laws_eqByteS.f
  by_cases h : a.length = b.length
  · refine ev_pos (by omega) ?_
    exact eqByteS_l a b hn h a.length 0 (by omega) (by intro j h; omega)
  · refine ev_neg (by omega) ?_
    rw [decide_eq_false (by rintro rfl; exact h rfl)]
    exact Ev.now _
theorem eqByteS_same (a : List Int) (hn : a.length ≤ 1048576) : Ev (fun k => laws_eqByteS.f k a a) true := by
  have := eqByteS_f a a hn
  rwa [decide_eq_true rfl] at this

theorem markByteS_l (a : List Int) (hn : a.length ≤ 1048576) (m0 : Int) (h0 : 0 ≤ m0) (h1 : m0 ≤ 1000000000000) (d : Nat) : ∀ (i : Nat) (y : List Int), i + d = a.length → y.length = a.length → (∀ j, j < i → y[j]? = (marksB m0 a.length)[j]?) → Ev (fun k => laws_markByteS.l0 k y (m0 + i) (i : Int)) (m0 + a.length, marksB m0 a.length) := by
  have hml := marksB_length a.length m0
  induction d with
  | zero =>
    intro i y hi hy hj
    refine Ev.step (f := fun _ => some (m0 + a.length, marksB m0 a.length)) (fun k => ?_) (Ev.now _)
    simp only [laws_markByteS.l0]
    rw [if_neg (by omega)]
    have hy2 : y = marksB m0 a.length := by
      refine List.ext_getElem? fun j => ?_
      by_cases h : j < i
      · exact hj j h
      · rw [List.getElem?_eq_none (by omega), List.getElem?_eq_none (by omega)]
    rw [hy2, show (i : Int) = a.length by omega]
  | succ d ih =>
    intro i y hi hy hj
    refine Ev.step (f := fun k => laws_markByteS.l0 k (y.set i ((m0+i)%256)) (m0 + (i + 1 : Nat)) ((i + 1 : Nat) : Int)) (fun k => ?_) (ih (i + 1) _ (by omega) (by simp [hy]) ?_)
    · simp only [laws_markByteS.l0]
      rw [if_pos (by omega), if_pos (by omega), w64 (by omega) (by omega), w64 (by omega) (by omega)]
      simp [Int.add_assoc]
    · intro j hlt
      by_cases h : j = i
      · subst h
        rw [List.getElem?_set_self (by omega), List.getElem?_eq_getElem (by omega), marksB_get]
      · rw [List.getElem?_set_ne (by omega)]
        exact hj j (by omega)
theorem markByteS_f (a : List Int) (hn : a.length ≤ 1048576) (m : Int) (h0 : 0 ≤ m) (h1 : m ≤ 1000000000000) : Ev (fun k => laws_markByteS.f k a m) (m + a.length, marksB m a.length) := by
  unfold laws_markByteS.f
  have := markByteS_l a hn m h0 h1 a.length 0 a (by omega) rfl (by intro j h; omega)
  simpa using this

theorem heldByteS_l (n : Nat) (hn : n ≤ 1048576) (m0 : Int) (h0 : 0 ≤ m0) (h1 : m0 ≤ 1000000000000) (d : Nat) : ∀ (i : Nat), i + d = n → Ev (fun k => laws_heldByteS.l0 k (marksB m0 n) (m0 + i) (i : Int)) (m0 + n) := by
  have hml := marksB_length n m0
  induction d with
  | zero =>
    intro i hi
    refine Ev.step (f := fun _ => some (m0 + n)) (fun k => ?_) (Ev.now _)
    simp only [laws_heldByteS.l0]
    rw [if_neg (by omega), show (i : Int) = n by omega]
  | succ d ih =>
    intro i hi
    refine Ev.step (f := fun k => laws_heldByteS.l0 k (marksB m0 n) (m0 + (i + 1 : Nat)) ((i + 1 : Nat) : Int)) (fun k => ?_) (ih (i + 1) (by omega))
    simp only [laws_heldByteS.l0]
    rw [if_pos (by omega), if_pos (by omega), if_pos (by rw [rd_nat _ i (by omega), marksB_get]), w64 (by omega) (by omega), w64 (by omega) (by omega)]
    simp [Int.add_assoc]
theorem heldByteS_f (n : Nat) (hn : n ≤ 1048576) (m : Int) (h0 : 0 ≤ m) (h1 : m ≤ 1000000000000) : Ev (fun k => laws_heldByteS.f k (marksB m n) m) (m + n) := by
  unfold laws_heldByteS.f
  have := heldByteS_l n hn m h0 h1 n 0 (by omega)
  simpa using this

/-- one value: the same bits, or both no number -/
def SameF (a b : Nat) : Prop := a = b ∨ (isn a = true ∧ isn b = true)
theorem sameFloat_f (a b : Nat) (ha : a < 2 ^ 64) (hb : b < 2 ^ 64) (h : SameF a b) : Ev (fun k => laws_sameFloat.f k a b) true := by
  unfold laws_sameFloat.f
  rcases h with rfl | ⟨na, nb⟩
  · rw [feq_self a ha]
    cases hn : isn a with
    | true =>
      refine ev_neg (by simp) ?_
      refine Ev.step (fun k => by rw [laws_sameFloat.j0, if_pos rfl, if_neg (by rw [feq_self a ha, hn]; simp), feq_self a ha, hn]) ?_
      exact Ev.now _
    | false =>
      refine ev_pos rfl ?_
      have hself : feq a a = true := by rw [feq_self a ha, hn]; rfl
      refine Ev.step (fun k => by rw [laws_sameFloat.j0, if_neg (by simp)]) ?_
      by_cases hz : feq a 0 = true
      · refine ev_pos hz ?_
        refine ev_pos hz ?_
        have hok : fok .quo 4607182418800017408 a = true := by
          rw [feq_zero a ha hn] at hz
          rcases of_decide_eq_true hz with rfl | rfl
          · exact (fl_ok (o := .quo) (a := 4607182418800017408) (b := 0) (r := 9218868437227405312) (by
              show Ieee.double.div 4607182418800017408 0 = some 9218868437227405312
              unfold Ieee.Format.div
              rw [read_zero, read_one]
              rfl)).1
          · exact (fl_ok (o := .quo) (a := 4607182418800017408) (b := 9223372036854775808) (r := 18442240474082181120) (by
              show Ieee.double.div 4607182418800017408 9223372036854775808 = some 18442240474082181120
              unfold Ieee.Format.div
              rw [read_nzero, read_one]
              rfl)).1
        refine ev_pos hok ?_
        refine ev_pos hok ?_
        rw [beq_self_eq_true]
        exact Ev.now _
      · refine ev_neg hz ?_
        rw [hself]
        exact Ev.now _
  · rw [feq_self a ha, na]
    refine ev_neg (by simp) ?_
    refine Ev.step (fun k => by rw [laws_sameFloat.j0, if_pos rfl, if_neg (by rw [feq_self a ha, na]; simp), feq_self b hb, nb]) ?_
    exact Ev.now _
theorem toItem_f (kd n : Int) (b : Nat) (t : List Int) (ht : t.length ≤ 1048576) : Ev (fun k => laws_toItem.f k kd n b t) (kd, n, b, t) := by
  unfold laws_toItem.f
  refine Ev.bind (toByteS_f t ht) ?_
  exact Ev.now _
theorem eqItem_f (kd n : Int) (a b : Nat) (t : List Int) (ht : t.length ≤ 1048576) (ha : a < 2 ^ 64) (hb : b < 2 ^ 64) (h : SameF a b) : Ev (fun k => laws_eqItem.f k kd n a t kd n b t) true := by
  unfold laws_eqItem.f
  refine ev_pos rfl ?_
  refine ev_pos rfl ?_
  refine Ev.bind (sameFloat_f a b ha hb h) ?_
  refine ev_pos rfl ?_
  refine Ev.bind (eqByteS_same t ht) ?_
  exact ev_pos rfl (Ev.now _)

theorem szItem_f (kd n : Int) (b : Nat) (t : List Int) (m : Int) (h : -9223372036854775808 ≤ m - t.length ∧ m - t.length ≤ 9223372036854775807) : laws_szItem.f kd n b t m = some (if m - t.length < 0 then -1 else m - t.length) := by
  unfold laws_szItem.f laws_szByteS.f
  rw [w64 h.1 h.2]
  by_cases h0 : m - t.length < 0
  · simp only [if_pos h0, Option.bind_some]
    rfl
  · simp only [if_neg h0, Option.bind_some]

/-- when an item is valid -/
def itemOkP (kd n : Int) (b : Nat) (t : List Int) : Bool := decide (0 ≤ kd ∧ kd ≤ 3 ∧ t.length ≤ 40 ∧ (kd = 1 ∨ n = 0) ∧ (kd = 2 ∨ b = 0) ∧ (kd = 3 ∨ t.length = 0))
theorem canon_zero (b : Nat) : (if isn b then 9221120237041090560 else (b : Int)) = 0 ↔ b = 0 := by
  cases hn : isn b with
  | true =>
    rw [if_pos rfl]
    constructor
    · omega
    · rintro rfl
      exact absurd hn (by decide)
  | false =>
    rw [if_neg Bool.false_ne_true]
    omega
theorem spec_ItemOk_j1 (x : Bool) (kd n : Int) (b : Nat) (t : List Int) (hb : b < 2 ^ 64) : Ev (fun k => spec_ItemOk.j1 k x kd n b t) (decide (x = false ∧ (kd = 2 ∨ b = 0) ∧ (kd = 3 ∨ t.length = 0))) := by
  cases x with
  | true =>
    refine Ev.step (fun k => by rw [spec_ItemOk.j1, if_pos rfl]) ?_
    rw [decide_eq_false (by simp)]
    exact Ev.now _
  | false =>
    refine Ev.step (fun k => by rw [spec_ItemOk.j1, if_neg Bool.false_ne_true]) ?_
    have fin : Ev (fun _ => if kd = 3 then some true else some ((t.length : Int) == 0)) (decide (kd = 3 ∨ t.length = 0)) := by
      by_cases h3 : kd = 3
      · refine ev_pos h3 ?_
        rw [decide_eq_true (Or.inl h3)]
        exact Ev.now _
      · refine ev_neg h3 ?_
        rw [show ((t.length : Int) == 0) = decide (kd = 3 ∨ t.length = 0) by rw [Bool.eq_iff_iff]; simp [h3]]
        exact Ev.now _
    by_cases h2 : kd = 2
    · refine ev_pos h2 ?_
      rw [show decide (false = false ∧ (kd = 2 ∨ b = 0) ∧ (kd = 3 ∨ t.length = 0)) = decide (kd = 3 ∨ t.length = 0) from decide_eq_decide.2 (by simp [h2])]
      exact fin
    · refine ev_neg h2 ?_
      refine Ev.bind (spec_FloatBits_f b hb) ?_
      by_cases h0 : b = 0
      · refine ev_pos ((canon_zero b).2 h0) ?_
        rw [show decide (false = false ∧ (kd = 2 ∨ b = 0) ∧ (kd = 3 ∨ t.length = 0)) = decide (kd = 3 ∨ t.length = 0) from decide_eq_decide.2 (by simp [h0])]
        exact fin
      · refine ev_neg (fun h => h0 ((canon_zero b).1 h)) ?_
        rw [decide_eq_false (by simp [h0, h2])]
        exact Ev.now _
theorem spec_ItemOk_j0 (x : Bool) (kd n : Int) (b : Nat) (t : List Int) (hb : b < 2 ^ 64) : Ev (fun k => spec_ItemOk.j0 k x kd n b t) (decide (x = false ∧ (kd = 1 ∨ n = 0) ∧ (kd = 2 ∨ b = 0) ∧ (kd = 3 ∨ t.length = 0))) := by
  cases x with
  | true =>
    refine Ev.step (fun k => by rw [spec_ItemOk.j0, if_pos rfl]) ?_
    rw [decide_eq_false (by simp)]
    exact Ev.now _
  | false =>
    refine Ev.step (fun k => by rw [spec_ItemOk.j0, if_neg Bool.false_ne_true]) ?_
    by_cases h1 : kd = 1
    · refine ev_pos h1 ?_
      rw [show decide (false = false ∧ (kd = 1 ∨ n = 0) ∧ (kd = 2 ∨ b = 0) ∧ (kd = 3 ∨ t.length = 0)) = decide (false = false ∧ (kd = 2 ∨ b = 0) ∧ (kd = 3 ∨ t.length = 0)) from decide_eq_decide.2 (by simp [h1])]
      exact spec_ItemOk_j1 false kd n b t hb
    · refine ev_neg h1 ?_
      rw [show decide (false = false ∧ (kd = 1 ∨ n = 0) ∧ (kd = 2 ∨ b = 0) ∧ (kd = 3 ∨ t.length = 0)) = decide ((n != 0) = false ∧ (kd = 2 ∨ b = 0) ∧ (kd = 3 ∨ t.length = 0)) from decide_eq_decide.2 (by simp [h1])]
      exact spec_ItemOk_j1 _ kd n b t hb
theorem spec_ItemOk_f (kd n : Int) (b : Nat) (t : List Int) (hb : b < 2 ^ 64) : Ev (fun k => spec_ItemOk.f k kd n b t) (itemOkP kd n b t) := by
  unfold spec_ItemOk.f itemOkP
  by_cases h1 : kd < 0
  · refine ev_pos h1 ?_
    rw [decide_eq_false (by omega)]
    have := spec_ItemOk_j0 true kd n b t hb
    rwa [decide_eq_false (by simp)] at this
  · refine ev_neg h1 ?_
    by_cases h2 : kd > 3
    · refine ev_pos h2 ?_
      rw [decide_eq_false (by omega)]
      have := spec_ItemOk_j0 true kd n b t hb
      rwa [decide_eq_false (by simp)] at this
    · refine ev_neg h2 ?_
      have := spec_ItemOk_j0 (decide ((t.length : Int) > 40)) kd n b t hb
      rwa [show decide (decide ((t.length : Int) > 40) = false ∧ (kd = 1 ∨ n = 0) ∧ (kd = 2 ∨ b = 0) ∧ (kd = 3 ∨ t.length = 0)) = decide (0 ≤ kd ∧ kd ≤ 3 ∧ t.length ≤ 40 ∧ (kd = 1 ∨ n = 0) ∧ (kd = 2 ∨ b = 0) ∧ (kd = 3 ∨ t.length = 0)) from decide_eq_decide.2 (by rw [decide_eq_false_iff_not]; omega)] at this
theorem impl_ItemOk_f (kd n : Int) (b : Nat) (t : List Int) : impl_ItemOk.f kd n b t = some (itemOkP kd n b t) := by
  unfold impl_ItemOk.f itemOkP
  rw [impl_within_f]
  simp only [Option.bind_some]
  repeat' split
  all_goals refine congrArg some ?_
  all_goals simp only [decide_eq_true_eq] at *
  all_goals first
    | (symm; rw [decide_eq_true_eq]; omega)
    | (symm; rw [decide_eq_false_iff_not]; omega)
    | (rw [decide_eq_decide]; omega)

theorem feq_zero_any (b : Nat) (hb : b < 2 ^ 64) : feq b 0 = decide (b = 0 ∨ b = 9223372036854775808) := by
  cases hn : isn b with
  | true =>
    rw [(cmp_nan b 0 (Or.inl ⟨hb, hn⟩)).1]
    symm
    refine decide_eq_false ?_
    rintro (rfl | rfl)
    · exact absurd hn (by decide)
    · exact absurd hn (by decide)
  | false => exact feq_zero b hb hn
/-- when an item can be a key -/
def keyOkP (kd n : Int) (b : Nat) (t : List Int) : Bool := itemOkP kd n b t && decide (kd ≠ 0 ∧ b ≠ 9223372036854775808)
theorem spec_KeyOk_f (kd n : Int) (b : Nat) (t : List Int) (hb : b < 2 ^ 64) : Ev (fun k => spec_KeyOk.f k kd n b t) (keyOkP kd n b t) := by
  unfold spec_KeyOk.f keyOkP
  refine Ev.bind (spec_ItemOk_f kd n b t hb) ?_
  cases itemOkP kd n b t with
  | false => exact ev_neg Bool.false_ne_true (Ev.now _)
  | true =>
    refine ev_pos rfl ?_
    by_cases h0 : kd = 0
    · refine ev_pos h0 ?_
      rw [decide_eq_false (by simp [h0])]
      exact Ev.now _
    · refine ev_neg h0 ?_
      rw [feq_zero_any b hb]
      by_cases hz : b = 0 ∨ b = 9223372036854775808
      · refine ev_pos (decide_eq_true hz) ?_
        refine Ev.bind (spec_FloatBits_f b hb) ?_
        have : (!((if isn b then 9221120237041090560 else (b : Int)) != 0)) = (true && decide (kd ≠ 0 ∧ b ≠ 9223372036854775808)) := by
          rcases hz with rfl | rfl
          · rw [(canon_zero 0).2 rfl, decide_eq_true ⟨h0, by omega⟩]
            rfl
          · rw [show isn 9223372036854775808 = false by decide, decide_eq_false (by simp)]
            rfl
        rw [this]
        exact Ev.now _
      · refine ev_neg (by rw [decide_eq_false hz]; exact Bool.false_ne_true) ?_
        rw [decide_eq_true ⟨h0, fun h => hz (Or.inr h)⟩]
        exact Ev.now _
theorem impl_KeyOk_f (kd n : Int) (b : Nat) (t : List Int) (hb : b < 2 ^ 64) : impl_KeyOk.f kd n b t = some (keyOkP kd n b t) := by
  unfold impl_KeyOk.f keyOkP
  rw [impl_ItemOk_f, feq_zero_any b hb]
  cases itemOkP kd n b t with
  | false => rfl
  | true =>
    simp only [Option.bind_some, if_true, Bool.true_and]
    repeat' split
    all_goals refine congrArg some ?_
    all_goals try simp only [decide_eq_true_eq] at *
    all_goals first
      | (symm; rw [decide_eq_true_eq]; omega)
      | (symm; rw [decide_eq_false_iff_not]; omega)
      | (rw [Bool.eq_iff_iff]; simp; omega)

theorem toTuple_f (x y ka kb : Int) (kf : Nat) (kt : List Int) (va vb : Int) (vf : Nat) (vt : List Int) (hk : kt.length ≤ 1048576) (hv : vt.length ≤ 1048576) : Ev (fun k => laws_toTuple.f k x y ka kb kf kt va vb vf vt) (x, y, ka, kb, kf, kt, va, vb, vf, vt) := by
  unfold laws_toTuple.f
  refine Ev.bind (toItem_f ka kb kf kt hk) ?_
  refine Ev.bind (toItem_f va vb vf vt hv) ?_
  exact Ev.now _
theorem eqTuple_f (x y ka kb : Int) (kf kf' : Nat) (kt : List Int) (va vb : Int) (vf vf' : Nat) (vt : List Int) (hk : kt.length ≤ 1048576) (hv : vt.length ≤ 1048576) (h1 : kf < 2 ^ 64) (h2 : kf' < 2 ^ 64) (h3 : vf < 2 ^ 64) (h4 : vf' < 2 ^ 64) (hkf : SameF kf kf') (hvf : SameF vf vf') : Ev (fun k => laws_eqTuple.f k x y ka kb kf kt va vb vf vt x y ka kb kf' kt va vb vf' vt) true := by
  unfold laws_eqTuple.f
  refine ev_pos rfl (ev_pos rfl ?_)
  refine Ev.bind (eqItem_f ka kb kf kf' kt hk h1 h2 hkf) (ev_pos rfl ?_)
  refine Ev.bind (eqItem_f va vb vf vf' vt hv h3 h4 hvf) (ev_pos rfl ?_)
  exact Ev.now _

theorem szTuple_f (x y ka kb : Int) (kf : Nat) (kt : List Int) (va vb : Int) (vf : Nat) (vt : List Int) (m : Int) (hm0 : 0 ≤ m) (hm : m ≤ 1048576) (hk : kt.length ≤ 9223372036854775807) (hv : vt.length ≤ 9223372036854775807) : laws_szTuple.f x y ka kb kf kt va vb vf vt m = some (if m - kt.length < 0 then -1 else if m - kt.length - vt.length < 0 then -1 else m - kt.length - vt.length) := by
  unfold laws_szTuple.f
  rw [szItem_f ka kb kf kt m (by omega)]
  simp only [Option.bind_some]
  by_cases h : m - kt.length < 0
  · rw [if_pos h, if_pos (by omega), if_pos h]
  · rw [if_neg h, if_neg h, if_neg h, szItem_f va vb vf vt (m - kt.length) (by omega)]
    simp only [Option.bind_some]
    by_cases h2 : m - kt.length - vt.length < 0
    · rw [if_pos h2, if_pos (by omega)]
    · rw [if_neg h2, if_neg h2]

/-- when a tuple is valid -/
def tupleOkP (x y ka kb : Int) (kf : Nat) (kt : List Int) (va vb : Int) (vf : Nat) (vt : List Int) : Bool := decide (1 ≤ x ∧ x ≤ 400) && decide (0 ≤ y ∧ y ≤ 400) && keyOkP ka kb kf kt && itemOkP va vb vf vt && (va != 0)
theorem spec_TupleOk_f (x y ka kb : Int) (kf : Nat) (kt : List Int) (va vb : Int) (vf : Nat) (vt : List Int) (h1 : kf < 2 ^ 64) (h2 : vf < 2 ^ 64) : Ev (fun k => spec_TupleOk.f k x y ka kb kf kt va vb vf vt) (tupleOkP x y ka kb kf kt va vb vf vt) := by
  unfold spec_TupleOk.f tupleOkP
  refine ev_bind0 (spec_l5in_f x 1 400) ?_
  cases decide (1 ≤ x ∧ x ≤ 400) with
  | false => exact ev_neg Bool.false_ne_true (Ev.now _)
  | true =>
    refine ev_pos rfl ?_
    refine ev_bind0 (spec_l5in_f y 0 400) ?_
    cases decide (0 ≤ y ∧ y ≤ 400) with
    | false => exact ev_neg Bool.false_ne_true (Ev.now _)
    | true =>
      refine ev_pos rfl ?_
      refine Ev.bind (spec_KeyOk_f ka kb kf kt h1) ?_
      cases keyOkP ka kb kf kt with
      | false => exact ev_neg Bool.false_ne_true (Ev.now _)
      | true =>
        refine ev_pos rfl ?_
        refine Ev.bind (spec_ItemOk_f va vb vf vt h2) ?_
        cases itemOkP va vb vf vt with
        | false => exact ev_neg Bool.false_ne_true (Ev.now _)
        | true => exact ev_pos rfl (Ev.now _)
theorem impl_TupleOk_f (x y ka kb : Int) (kf : Nat) (kt : List Int) (va vb : Int) (vf : Nat) (vt : List Int) (h1 : kf < 2 ^ 64) : impl_TupleOk.f x y ka kb kf kt va vb vf vt = some (tupleOkP x y ka kb kf kt va vb vf vt) := by
  unfold impl_TupleOk.f tupleOkP impl_isXid.f
  rw [impl_within_f, impl_within_f, impl_KeyOk_f ka kb kf kt h1, impl_ItemOk_f]
  simp only [Option.bind_some]
  cases decide (1 ≤ x ∧ x ≤ 400) with
  | false => rfl
  | true =>
    cases decide (0 ≤ y ∧ y ≤ 400) with
    | false => rfl
    | true =>
      cases keyOkP ka kb kf kt with
      | false => rfl
      | true => cases itemOkP va vb vf vt <;> rfl

/-- n bytes, high first -/
def hi (x : Int) : Nat → List Int
  | 0 => []
  | n + 1 => (x / 256 ^ n % 256) :: hi x n
theorem hi_length (x : Int) (n : Nat) : (hi x n).length = n := by
  induction n with
  | zero => rfl
  | succ n ih => simp [hi, ih]
theorem hi_bytes (x : Int) (n : Nat) : IsBytes (hi x n) := by
  induction n with
  | zero => exact isBytes_nil
  | succ n ih =>
    intro y hy
    rcases List.mem_cons.1 hy with rfl | h
    · omega
    · exact ih y h
theorem wrap_u64 {x : Int} (h0 : 0 ≤ x) (h1 : x < 18446744073709551616) : IntKind.u64.wrap x = x := by simp [IntKind.wrap, IntKind.bits, IntKind.signed]; omega
theorem shr_u64 (x : Int) (n : Nat) (h : n < 8) : shr .u64 x (8 * (n : Int)) = x / 256 ^ n := by
  unfold shr
  rw [show ((8 * (n : Int)).toNat) = 8 * n by omega, Nat.min_eq_left (by simp [IntKind.bits]; omega), Int.pow_mul]
  rfl
theorem mask255 (y : Int) (h0 : 0 ≤ y) (h1 : y < 18446744073709551616) : Go.bits .and .u64 y 255 = y % 256 :=
  bits_mask .u64 64 (by decide) (fun n a b => wrap_u64 a (by omega)) 8 (by omega) y h0 h1
theorem quot_pow (x : Int) (n : Nat) (h0 : 0 ≤ x) (h1 : x < 18446744073709551616) : 0 ≤ x / 256 ^ n ∧ x / 256 ^ n < 18446744073709551616 := by
  have hp : (0 : Int) < 256 ^ n := Int.pow_pos (by omega)
  have h2 : 0 ≤ x / 256 ^ n := Int.ediv_nonneg h0 (Int.le_of_lt hp)
  have h3 := Int.ediv_le_self (256 ^ n) h0
  omega
theorem l3high_l (x : Int) (h0 : 0 ≤ x) (h1 : x < 18446744073709551616) : ∀ (n : Nat) (acc : List Int), n ≤ 8 → acc.length ≤ 8 - n → Ev (fun k => spec_l3high.l0 k x acc ((n : Int) - 1)) (acc ++ hi x n)
  | 0, acc, _, _ => by
    refine Ev.step (fun k => by rw [spec_l3high.l0, if_neg (by omega)]) ?_
    rw [show acc ++ hi x 0 = acc by simp [hi]]
    exact Ev.now _
  | n + 1, acc, hn, ha => by
    have hq := quot_pow x n h0 h1
    have e : IntKind.u64.wrap (wrap64 (8 * (((n + 1 : Nat) : Int) - 1))) = 8 * (n : Int) := by rw [w64 (by omega) (by omega), wrap_u64 (by omega) (by omega)]; omega
    refine Ev.step (fun k => by rw [spec_l3high.l0, if_pos (by omega)]) ?_
    rw [e]
    refine ev_pos (by omega) (ev_pos (by omega) ?_)
    rw [shr_u64 x n (by omega), mask255 _ hq.1 hq.2, w64 (by omega) (by omega), show ((n + 1 : Nat) : Int) - 1 - 1 = (n : Int) - 1 by omega]
    have := l3high_l x h0 h1 n (acc ++ [x / 256 ^ n % 256 % 256]) (by omega) (by simp; omega)
    rw [show x / 256 ^ n % 256 % 256 = x / 256 ^ n % 256 by omega, List.append_assoc] at this
    rw [show x / 256 ^ n % 256 % 256 = x / 256 ^ n % 256 by omega]
    exact this
theorem spec_l3high_f (x : Int) (h0 : 0 ≤ x) (h1 : x < 18446744073709551616) : Ev (fun k => spec_l3high.f k x) (hi x 8) := by
  unfold spec_l3high.f
  exact l3high_l x h0 h1 8 [] (by omega) (by simp)
theorem highFirst_l (x : Int) (h0 : 0 ≤ x) (h1 : x < 18446744073709551616) : ∀ (n : Nat) (acc : List Int), n ≤ 8 → acc.length ≤ 8 - n → Ev (fun k => impl_highFirst.l0 k x acc (8 * (n : Int) - 8)) (acc ++ hi x n)
  | 0, acc, _, _ => by
    refine Ev.step (fun k => by rw [impl_highFirst.l0, if_neg (by omega)]) ?_
    rw [show acc ++ hi x 0 = acc by simp [hi]]
    exact Ev.now _
  | n + 1, acc, hn, ha => by
    refine Ev.step (fun k => by rw [impl_highFirst.l0, if_pos (by omega)]) ?_
    refine ev_pos (by omega) (ev_pos (by omega) ?_)
    rw [show 8 * (((n + 1 : Nat) : Int)) - 8 = 8 * (n : Int) by omega, shr_u64 x n (by omega), w64 (by omega) (by omega)]
    have := highFirst_l x h0 h1 n (acc ++ [x / 256 ^ n % 256]) (by omega) (by simp; omega)
    rw [List.append_assoc] at this
    exact this
theorem impl_highFirst_f (x : Int) (h0 : 0 ≤ x) (h1 : x < 18446744073709551616) : Ev (fun k => impl_highFirst.f k x) (hi x 8) := by
  unfold impl_highFirst.f
  exact highFirst_l x h0 h1 8 [] (by omega) (by simp)
/-- a whole number's bits with the sign turned -/
def turned (n : Int) : Int := (n + 9223372036854775808) % 18446744073709551616
theorem turned_bound (n : Int) : 0 ≤ turned n ∧ turned n < 18446744073709551616 := by unfold turned; omega
theorem wrap_mod (n : Int) : IntKind.u64.wrap n = n % 18446744073709551616 := by simp [IntKind.wrap, IntKind.bits, IntKind.signed]
theorem turn_spec (n : Int) : Go.bits .xor .u64 (IntKind.u64.wrap n) 9223372036854775808 = turned n := by
  rw [wrap_mod]
  obtain ⟨m, hm⟩ : ∃ m : Nat, (m : Int) = n % 18446744073709551616 := ⟨(n % 18446744073709551616).toNat, by omega⟩
  have hlt : m < 18446744073709551616 := by omega
  rw [← hm]
  have h2 := bits_xor_nat .u64 64 (by decide) (fun n a b => wrap_u64 a (by omega)) m 9223372036854775808 (by omega) (by omega)
  rw [show Go.bits .xor .u64 (m : Int) 9223372036854775808 = Go.bits .xor .u64 (m : Int) ((9223372036854775808 : Nat) : Int) from rfl, h2]
  unfold turned
  by_cases hs : m < 9223372036854775808
  · have h3 := fneg_pos m hs
    rw [show m ^^^ 9223372036854775808 = 9223372036854775808 + m from h3]
    omega
  · obtain ⟨c, rfl⟩ := Nat.le.dest (Nat.le_of_not_lt hs)
    have h3 := fneg_neg c (by omega)
    rw [show (9223372036854775808 + c) ^^^ 9223372036854775808 = c from h3]
    omega
theorem turn_impl (n : Int) : IntKind.u64.wrap (IntKind.u64.wrap n + 9223372036854775808) = turned n := by
  rw [wrap_mod, wrap_mod]
  unfold turned
  omega
/-- an item's bytes, with these bits of its float -/
def itemBytesOf (kd n : Int) (t : List Int) (bits : Int) : List Int := (kd % 256) :: (if kd = 1 then hi (turned n) 8 else if kd = 2 then hi bits 8 else t)
theorem itemBytesOf_length (kd n : Int) (t : List Int) (bits : Int) : (itemBytesOf kd n t bits).length ≤ t.length + 9 := by
  unfold itemBytesOf
  rw [List.length_cons]
  split
  · rw [hi_length]; omega
  · split
    · rw [hi_length]; omega
    · omega
theorem itemBytesOf_bytes (kd n : Int) (t : List Int) (bits : Int) (ht : IsBytes t) : IsBytes (itemBytesOf kd n t bits) := by
  have h1 : IsBytes ([kd % 256] ++ (if kd = 1 then hi (turned n) 8 else if kd = 2 then hi bits 8 else t)) := by
    refine isBytes_append (isBytes_one (by omega)) ?_
    split
    · exact hi_bytes _ _
    · split
      · exact hi_bytes _ _
      · exact ht
  exact h1
theorem spec_l3bytes_f (kd n : Int) (b : Nat) (t : List Int) (ht : t.length ≤ 1048576) (bits : Int) (h0 : 0 ≤ bits) (h1 : bits < 18446744073709551616) : Ev (fun k => spec_l3bytes.f k kd n b t bits) (itemBytesOf kd n t bits) := by
  unfold spec_l3bytes.f itemBytesOf
  refine ev_bind0 rfl ?_
  by_cases hk : kd = 1
  · rw [if_pos hk]
    refine ev_pos hk ?_
    rw [turn_spec]
    refine Ev.bind (spec_l3high_f _ (turned_bound n).1 (turned_bound n).2) ?_
    refine ev_pos (by rw [hi_length]; simp) ?_
    exact Ev.now _
  · rw [if_neg hk]
    refine ev_neg hk ?_
    by_cases hk2 : kd = 2
    · rw [if_pos hk2]
      refine ev_pos hk2 ?_
      refine Ev.bind (spec_l3high_f _ h0 h1) ?_
      refine ev_pos (by rw [hi_length]; simp) ?_
      exact Ev.now _
    · rw [if_neg hk2]
      refine ev_neg hk2 ?_
      refine ev_pos (by simp; omega) ?_
      exact Ev.now _
theorem impl_itemBytes_f (kd n : Int) (b : Nat) (t : List Int) (ht : t.length ≤ 1048576) (bits : Int) (h0 : 0 ≤ bits) (h1 : bits < 18446744073709551616) : Ev (fun k => impl_itemBytes.f k kd n b t bits) (itemBytesOf kd n t bits) := by
  unfold impl_itemBytes.f itemBytesOf
  refine ev_bind0 rfl ?_
  by_cases hk : kd = 1
  · rw [if_pos hk]
    refine ev_pos hk ?_
    rw [turn_impl]
    refine Ev.bind (impl_highFirst_f _ (turned_bound n).1 (turned_bound n).2) ?_
    refine ev_pos (by rw [hi_length]; simp) ?_
    exact Ev.now _
  · rw [if_neg hk]
    refine ev_neg hk ?_
    by_cases hk2 : kd = 2
    · rw [if_pos hk2]
      refine ev_pos hk2 ?_
      refine Ev.bind (impl_highFirst_f _ h0 h1) ?_
      refine ev_pos (by rw [hi_length]; simp) ?_
      exact Ev.now _
    · rw [if_neg hk2]
      refine ev_neg hk2 ?_
      refine ev_pos (by simp; omega) ?_
      exact Ev.now _
theorem markItem_f (kd n : Int) (b : Nat) (t : List Int) (ht : t.length ≤ 1048576) (m : Int) (h0 : 0 ≤ m) (h1 : m ≤ 1000000000000) : Ev (fun k => laws_markItem.f k kd n b t m) (m + t.length, marksB m t.length) := by
  unfold laws_markItem.f
  refine Ev.bind (markByteS_f t ht m h0 h1) ?_
  exact Ev.now _

theorem rankOf_bound (a : Nat) (ha : a < 2 ^ 64) : 0 ≤ rankOf a ∧ rankOf a < 18446744073709551616 := by
  unfold rankOf
  repeat' split
  all_goals omega
def keyBytesOf (kd n : Int) (b : Nat) (t : List Int) : List Int := if keyOkP kd n b t = true then itemBytesOf kd n t (rankOf b) else []
theorem keyBytesOf_length (kd n : Int) (b : Nat) (t : List Int) (ht : t.length ≤ 1048576) : (keyBytesOf kd n b t).length ≤ 49 := by
  unfold keyBytesOf
  split
  · rename_i h
    have h2 : t.length ≤ 40 := by
      simp only [keyOkP, itemOkP, Bool.and_eq_true, decide_eq_true_eq] at h
      exact h.1.2.2.1
    have := itemBytesOf_length kd n t (rankOf b)
    omega
  · simp
theorem spec_KeyBytes_f (kd n : Int) (b : Nat) (t : List Int) (hb : b < 2 ^ 64) (ht : t.length ≤ 1048576) : Ev (fun k => spec_KeyBytes.f k kd n b t) (keyBytesOf kd n b t) := by
  unfold spec_KeyBytes.f keyBytesOf
  refine Ev.bind (spec_KeyOk_f kd n b t hb) ?_
  cases keyOkP kd n b t with
  | false => exact ev_neg Bool.false_ne_true (Ev.now _)
  | true =>
    refine ev_pos rfl ?_
    refine Ev.bind (spec_FloatRank_f b hb) ?_
    refine Ev.bind (spec_l3bytes_f kd n b t ht _ (rankOf_bound b hb).1 (rankOf_bound b hb).2) ?_
    exact Ev.now _
theorem impl_KeyBytes_f (kd n : Int) (b : Nat) (t : List Int) (hb : b < 2 ^ 64) (ht : t.length ≤ 1048576) : Ev (fun k => impl_KeyBytes.f k kd n b t) (keyBytesOf kd n b t) := by
  unfold impl_KeyBytes.f keyBytesOf
  refine ev_bind0 (impl_KeyOk_f kd n b t hb) ?_
  cases keyOkP kd n b t with
  | false => exact ev_neg Bool.false_ne_true (Ev.now _)
  | true =>
    refine ev_pos rfl ?_
    refine ev_bind0 (impl_FloatRank_f b hb) ?_
    refine Ev.bind (impl_itemBytes_f kd n b t ht _ (rankOf_bound b hb).1 (rankOf_bound b hb).2) ?_
    exact Ev.now _

theorem impl_FloatBits_f (a : Nat) (ha : a < 2 ^ 64) : impl_FloatBits.f a = some (if isn a then 9221120237041090560 else (a : Int)) := by
  unfold impl_FloatBits.f
  rw [feq_self a ha]
  cases isn a <;> simp

theorem canon_bound (b : Nat) (hb : b < 2 ^ 64) : 0 ≤ (if isn b then 9221120237041090560 else (b : Int)) ∧ (if isn b then 9221120237041090560 else (b : Int)) < 18446744073709551616 := by
  split <;> omega
def valueBytesOf (kd n : Int) (b : Nat) (t : List Int) : List Int := if itemOkP kd n b t = true ∧ kd ≠ 0 then itemBytesOf kd n t (if isn b then 9221120237041090560 else (b : Int)) else []
theorem valueBytesOf_length (kd n : Int) (b : Nat) (t : List Int) (ht : t.length ≤ 1048576) : (valueBytesOf kd n b t).length ≤ 49 := by
  unfold valueBytesOf
  split
  · rename_i h
    have h2 : t.length ≤ 40 := by
      have h1 := h.1
      simp only [itemOkP, decide_eq_true_eq] at h1
      exact h1.2.2.1
    have := itemBytesOf_length kd n t (if isn b then 9221120237041090560 else (b : Int))
    omega
  · simp
theorem spec_ValueBytes_f (kd n : Int) (b : Nat) (t : List Int) (hb : b < 2 ^ 64) (ht : t.length ≤ 1048576) : Ev (fun k => spec_ValueBytes.f k kd n b t) (valueBytesOf kd n b t) := by
  unfold spec_ValueBytes.f valueBytesOf
  refine Ev.bind (spec_ItemOk_f kd n b t hb) ?_
  cases itemOkP kd n b t with
  | false =>
    rw [if_neg (by simp)]
    refine ev_neg Bool.false_ne_true ?_
    refine Ev.step (fun k => by rw [spec_ValueBytes.j0, if_pos rfl]) ?_
    exact Ev.now _
  | true =>
    refine ev_pos rfl ?_
    by_cases h0 : kd = 0
    · rw [if_neg (by simp [h0])]
      refine Ev.step (fun k => by rw [spec_ValueBytes.j0, if_pos (by simp [h0])]) ?_
      exact Ev.now _
    · rw [if_pos ⟨rfl, h0⟩]
      refine Ev.step (fun k => by rw [spec_ValueBytes.j0, if_neg (by simp [h0])]) ?_
      refine Ev.bind (spec_FloatBits_f b hb) ?_
      refine Ev.bind (spec_l3bytes_f kd n b t ht _ (canon_bound b hb).1 (canon_bound b hb).2) ?_
      exact Ev.now _
theorem impl_ValueBytes_f (kd n : Int) (b : Nat) (t : List Int) (hb : b < 2 ^ 64) (ht : t.length ≤ 1048576) : Ev (fun k => impl_ValueBytes.f k kd n b t) (valueBytesOf kd n b t) := by
  unfold impl_ValueBytes.f valueBytesOf
  refine ev_bind0 (impl_ItemOk_f kd n b t) ?_
  cases itemOkP kd n b t with
  | false =>
    rw [if_neg (by simp)]
    refine ev_neg Bool.false_ne_true ?_
    refine Ev.step (fun k => by rw [impl_ValueBytes.j0, if_pos rfl]) ?_
    exact Ev.now _
  | true =>
    refine ev_pos rfl ?_
    by_cases h0 : kd = 0
    · rw [if_neg (by simp [h0])]
      refine Ev.step (fun k => by rw [impl_ValueBytes.j0, if_pos (by simp [h0])]) ?_
      exact Ev.now _
    · rw [if_pos ⟨rfl, h0⟩]
      refine Ev.step (fun k => by rw [impl_ValueBytes.j0, if_neg (by simp [h0])]) ?_
      refine ev_bind0 (impl_FloatBits_f b hb) ?_
      refine Ev.bind (impl_itemBytes_f kd n b t ht _ (canon_bound b hb).1 (canon_bound b hb).2) ?_
      exact Ev.now _

def sumLen : List (List Int) → Nat
  | [] => 0
  | x :: l => x.length + sumLen l
theorem rdl_nat (l : List (List Int)) (i : Nat) (h : i < l.length) : rd_L1 l (i : Int) = l[i] := by
  simp [rd_L1, List.getD_eq_getElem?_getD, List.getElem?_eq_getElem h]
theorem sumLen_drop (l : List (List Int)) (i : Nat) (h : i < l.length) : sumLen (l.drop i) = (l[i]).length + sumLen (l.drop (i + 1)) := by
  rw [List.drop_eq_getElem_cons h]
  rfl
theorem sumLen_mem {l : List (List Int)} {x : List Int} (h : x ∈ l) : x.length ≤ sumLen l := by
  induction l with
  | nil => cases h
  | cons y l ih =>
    simp only [sumLen]
    rcases List.mem_cons.1 h with rfl | h
    · omega
    · have := ih h; omega

theorem take_flat (l : List (List Int)) (i : Nat) (h : i < l.length) : (l.take (i + 1)).flatten = (l.take i).flatten ++ l[i] := by
  rw [List.take_succ_eq_append_getElem h, List.flatten_append]
  simp
theorem flat_le (l : List (List Int)) (i : Nat) : (l.take i).flatten.length ≤ l.flatten.length := by
  have : l.flatten = (l.take i).flatten ++ (l.drop i).flatten := by rw [← List.flatten_append, List.take_append_drop]
  rw [this, List.length_append]
  omega
theorem concat_l1 (l : List (List Int)) (hl : l.length ≤ 1048576) (ht : l.flatten.length ≤ 35184372088832) (d : Nat) : ∀ (i : Nat), i + d = l.length → Ev (fun k => slices_Concat_byte_byte.l1 k (l.take i).flatten l (l.length : Int) (i : Int)) l.flatten := by
  induction d with
  | zero =>
    intro i hi
    refine Ev.step (f := fun _ => some l.flatten) (fun k => ?_) (Ev.now _)
    rw [slices_Concat_byte_byte.l1, if_neg (by omega), List.take_of_length_le (by omega)]
  | succ d ih =>
    intro i hi
    have hx : rd_L1 l (i : Int) = l[i] := rdl_nat l i (by omega)
    have h1 := take_flat l i (by omega)
    have h2 := flat_le l (i + 1)
    rw [h1, List.length_append] at h2
    refine Ev.step (f := fun k => slices_Concat_byte_byte.l1 k (l.take (i + 1)).flatten l (l.length : Int) ((i + 1 : Nat) : Int)) (fun k => ?_) (ih (i + 1) (by omega))
    rw [slices_Concat_byte_byte.l1, if_pos (by omega), if_pos (by omega), if_pos (by omega), hx, if_pos (by omega), w64 (by omega) (by omega), h1]
    simp
theorem concat_l0 (l : List (List Int)) (hl : l.length ≤ 1048576) (ht : l.flatten.length ≤ 35184372088832) (d : Nat) : ∀ (i : Nat), i + d = l.length → Ev (fun k => slices_Concat_byte_byte.l0 k l ((l.take i).flatten.length : Int) l (l.length : Int) (i : Int)) l.flatten := by
  induction d with
  | zero =>
    intro i hi
    refine Ev.step (f := fun k => (slices_Grow_byte_byte.f ((l.take i).flatten.length : Int)).bind fun t => slices_Concat_byte_byte.l1 k t l (l.length : Int) 0) (fun k => ?_) ?_
    · rw [slices_Concat_byte_byte.l0, if_neg (by omega)]
    · have h2 := flat_le l i
      refine ev_bind0 (a := ([] : List Int)) (by unfold slices_Grow_byte_byte.f; rw [if_pos (by omega)]) ?_
      exact concat_l1 l hl ht l.length 0 (by omega)
  | succ d ih =>
    intro i hi
    have hx : rd_L1 l (i : Int) = l[i] := rdl_nat l i (by omega)
    have h1 := take_flat l i (by omega)
    have h2 := flat_le l (i + 1)
    have h3 : (l.take (i + 1)).flatten.length = (l.take i).flatten.length + l[i].length := by rw [h1, List.length_append]
    refine Ev.step (f := fun k => slices_Concat_byte_byte.l0 k l ((l.take (i + 1)).flatten.length : Int) l (l.length : Int) ((i + 1 : Nat) : Int)) (fun k => ?_) (ih (i + 1) (by omega))
    rw [slices_Concat_byte_byte.l0, if_pos (by omega), if_pos (by omega), if_pos (by omega), hx, w64 (by omega) (by omega), if_neg (by omega), w64 (by omega) (by omega), h3]
    simp
theorem concat_f (l : List (List Int)) (hl : l.length ≤ 1048576) (ht : l.flatten.length ≤ 35184372088832) : Ev (fun k => slices_Concat_byte_byte.f k l) l.flatten := concat_l0 l hl ht l.length 0 (by omega)

/-- a tuple's bytes -/
def tupleBytesOf (x y ka kb : Int) (kf : Nat) (kt : List Int) (va vb : Int) (vf : Nat) (vt : List Int) : List Int := if tupleOkP x y ka kb kf kt va vb vf vt then ((((pn x 4 ++ pn y 4) ++ [((keyBytesOf ka kb kf kt).length : Int) % 256]) ++ keyBytesOf ka kb kf kt) ++ [((valueBytesOf va vb vf vt).length : Int) % 256]) ++ valueBytesOf va vb vf vt else []
theorem tupleBytesOf_length (x y ka kb : Int) (kf : Nat) (kt : List Int) (va vb : Int) (vf : Nat) (vt : List Int) (h1 : kt.length ≤ 1048576) (h2 : vt.length ≤ 1048576) : (tupleBytesOf x y ka kb kf kt va vb vf vt).length ≤ 200 := by
  have l1 := pn_length x 4
  have l2 := pn_length y 4
  have l3 := keyBytesOf_length ka kb kf kt h1
  have l4 := valueBytesOf_length va vb vf vt h2
  unfold tupleBytesOf
  split
  · simp only [List.length_append, List.length_cons, List.length_nil]
    omega
  · exact Nat.zero_le _
theorem spec_TupleBytes_f (x y ka kb : Int) (kf : Nat) (kt : List Int) (va vb : Int) (vf : Nat) (vt : List Int) (b1 : kf < 2 ^ 64) (b2 : vf < 2 ^ 64) (h1 : kt.length ≤ 1048576) (h2 : vt.length ≤ 1048576) (m1 : x ≤ 9223372036854775807) (m2 : y ≤ 9223372036854775807) : Ev (fun k => spec_TupleBytes.f k x y ka kb kf kt va vb vf vt) (tupleBytesOf x y ka kb kf kt va vb vf vt) := by
  have l1 := pn_length x 4
  have l2 := pn_length y 4
  have l3 := keyBytesOf_length ka kb kf kt h1
  have l4 := valueBytesOf_length va vb vf vt h2
  unfold spec_TupleBytes.f tupleBytesOf
  refine Ev.bind (spec_TupleOk_f x y ka kb kf kt va vb vf vt b1 b2) ?_
  cases hr : tupleOkP x y ka kb kf kt va vb vf vt with
  | false => exact ev_neg (by simp) (Ev.now _)
  | true =>
    refine ev_pos rfl ?_
    refine Ev.bind (spec_KeyBytes_f ka kb kf kt b1 h1) ?_
    refine Ev.bind (spec_ValueBytes_f va vb vf vt b2 h2) ?_
    refine Ev.bind (spec_PutNum_f x 4 m1) ?_
    refine Ev.bind (spec_PutNum_f y 4 m2) ?_
    refine ev_pos (by omega) (ev_bind0 rfl ?_)
    refine ev_pos (by simp only [List.length_append]; omega) (ev_bind0 rfl ?_)
    refine ev_pos (by simp only [List.length_append, List.length_cons, List.length_nil]; omega) (ev_bind0 rfl ?_)
    refine ev_pos (by simp only [List.length_append, List.length_cons, List.length_nil]; omega) (ev_bind0 rfl ?_)
    refine ev_pos (by simp only [List.length_append, List.length_cons, List.length_nil]; omega) ?_
    exact Ev.now _
theorem impl_TupleBytes_f (x y ka kb : Int) (kf : Nat) (kt : List Int) (va vb : Int) (vf : Nat) (vt : List Int) (b1 : kf < 2 ^ 64) (b2 : vf < 2 ^ 64) (h1 : kt.length ≤ 1048576) (h2 : vt.length ≤ 1048576) (m1 : x ≤ 9223372036854775807) (m2 : y ≤ 9223372036854775807) : Ev (fun k => impl_TupleBytes.f k x y ka kb kf kt va vb vf vt) (tupleBytesOf x y ka kb kf kt va vb vf vt) := by
  have l1 := pn_length x 4
  have l2 := pn_length y 4
  have l3 := keyBytesOf_length ka kb kf kt h1
  have l4 := valueBytesOf_length va vb vf vt h2
  unfold impl_TupleBytes.f tupleBytesOf
  refine ev_bind0 (impl_TupleOk_f x y ka kb kf kt va vb vf vt b1) ?_
  cases hr : tupleOkP x y ka kb kf kt va vb vf vt with
  | false => exact ev_neg (by simp) (Ev.now _)
  | true =>
    refine ev_pos rfl ?_
    refine Ev.bind (impl_KeyBytes_f ka kb kf kt b1 h1) ?_
    refine Ev.bind (impl_ValueBytes_f va vb vf vt b2 h2) ?_
    refine Ev.bind (impl_PutNum_f x 4 m1) ?_
    refine Ev.bind (impl_PutNum_f y 4 m2) ?_
    have e : ([pn x 4, pn y 4, [((keyBytesOf ka kb kf kt).length : Int) % 256], keyBytesOf ka kb kf kt, [((valueBytesOf va vb vf vt).length : Int) % 256], valueBytesOf va vb vf vt] : List (List Int)).flatten = ((((pn x 4 ++ pn y 4) ++ [((keyBytesOf ka kb kf kt).length : Int) % 256]) ++ keyBytesOf ka kb kf kt) ++ [((valueBytesOf va vb vf vt).length : Int) % 256]) ++ valueBytesOf va vb vf vt := by simp
    refine Ev.bind (concat_f [pn x 4, pn y 4, [((keyBytesOf ka kb kf kt).length : Int) % 256], keyBytesOf ka kb kf kt, [((valueBytesOf va vb vf vt).length : Int) % 256], valueBytesOf va vb vf vt] (by simp) (by rw [e]; simp only [List.length_append, List.length_cons, List.length_nil]; omega)) ?_
    rw [e]
    exact Ev.now _
theorem markTuple_f (x y ka kb : Int) (kf : Nat) (kt : List Int) (va vb : Int) (vf : Nat) (vt : List Int) (h1 : kt.length ≤ 1048576) (h2 : vt.length ≤ 1048576) : Ev (fun k => laws_markTuple.f k x y ka kb kf kt va vb vf vt 1) (1 + kt.length + vt.length, marksB 1 kt.length, marksB (1 + kt.length) vt.length) := by
  unfold laws_markTuple.f
  refine Ev.bind (markItem_f ka kb kf kt h1 1 (by omega) (by omega)) ?_
  exact Ev.bind (markItem_f va vb vf vt h2 (1 + kt.length) (by omega) (by omega)) (Ev.now _)

/-- The pure statement. -/
def Stmt : Prop := ∀ (a0_0 : Int) (a0_1 : Int) (a0_2 : Int) (a0_3 : Int) (a0_4 : Nat) (l0_5 : List Int) (a0_6 : Int) (a0_7 : Int) (a0_8 : Nat) (l0_9 : List Int), ((fun n => (Lit.int .i64 n).wf = true) a0_0) → ((fun n => (Lit.int .i64 n).wf = true) a0_1) → ((fun n => (Lit.int .i64 n).wf = true) a0_2) → ((fun n => (Lit.int .i64 n).wf = true) a0_3) → ((fun b => b < 2 ^ 64) a0_4) → ((fun xs => xs.length ≤ 9223372036854775807 ∧ ∀ x ∈ xs, (fun n => (Lit.int .u8 n).wf = true) x) l0_5) → ((fun n => (Lit.int .i64 n).wf = true) a0_6) → ((fun n => (Lit.int .i64 n).wf = true) a0_7) → ((fun b => b < 2 ^ 64) a0_8) → ((fun xs => xs.length ≤ 9223372036854775807 ∧ ∀ x ∈ xs, (fun n => (Lit.int .u8 n).wf = true) x) l0_9) → ∃ k, laws_FnExactTupleBytes.f k a0_0 a0_1 a0_2 a0_3 a0_4 l0_5 a0_6 a0_7 a0_8 l0_9 = some true
theorem main : Stmt := by
  intro x y ka kb kf kt va vb vf vt wx wy _ _ h1 hw1 _ _ h2 hw2
  have m1 : x ≤ 9223372036854775807 := (show -9223372036854775808 ≤ x ∧ x ≤ 9223372036854775807 by simpa [Lit.wf, IntKind.min, IntKind.max, IntKind.signed, IntKind.bits] using wx).2
  have m2 : y ≤ 9223372036854775807 := (show -9223372036854775808 ≤ y ∧ y ≤ 9223372036854775807 by simpa [Lit.wf, IntKind.min, IntKind.max, IntKind.signed, IntKind.bits] using wy).2
  refine Ev.rounds ?_
  unfold laws_FnExactTupleBytes.f
  refine ev_bind0 (szTuple_f x y ka kb kf kt va vb vf vt 1048576 (by omega) (by omega) hw1.1 hw2.1) ?_
  by_cases hs : (1048576 : Int) - kt.length < 0
  · rw [if_pos hs]
    exact ev_pos (by omega) (Ev.now _)
  rw [if_neg hs]
  by_cases hs2 : (1048576 : Int) - kt.length - vt.length < 0
  · rw [if_pos hs2]
    exact ev_pos (by omega) (Ev.now _)
  rw [if_neg hs2]
  refine ev_neg hs2 ?_
  have hk : kt.length ≤ 1048576 := by omega
  have hv : vt.length ≤ 1048576 := by omega
  have sp := spec_TupleBytes_f x y ka kb kf kt va vb vf vt h1 h2 hk hv m1 m2
  have im := impl_TupleBytes_f x y ka kb kf kt va vb vf vt h1 h2 hk hv m1 m2
  have hl := tupleBytesOf_length x y ka kb kf kt va vb vf vt hk hv
  refine Ev.bind (toTuple_f x y ka kb kf kt va vb vf vt hk hv) ?_
  refine Ev.bind sp ?_
  refine Ev.bind (toTuple_f x y ka kb kf kt va vb vf vt hk hv) ?_
  refine Ev.bind im ?_
  refine Ev.bind (eqByteS_same _ (by omega)) (ev_pos rfl ?_)
  refine Ev.bind (toTuple_f x y ka kb kf kt va vb vf vt hk hv) ?_
  refine Ev.bind (eqTuple_f x y ka kb kf kf kt va vb vf vf vt hk hv h1 h1 h2 h2 (Or.inl rfl) (Or.inl rfl)) (ev_pos rfl ?_)
  refine Ev.bind (markTuple_f x y ka kb kf kt va vb vf vt hk hv) ?_
  refine ev_neg (by simp; omega) ?_
  refine Ev.bind (eqByteS_same _ (by omega)) ?_
  refine Ev.step (fun k => by simp only [laws_FnExactTupleBytes.j0, Bool.not_true, Bool.false_eq_true, if_false]; rfl) ?_
  refine Ev.bind (markByteS_f _ (by omega) 1 (by omega) (by omega)) ?_
  refine Ev.bind (heldByteS_f _ (by omega) 1 (by omega) (by omega)) ?_
  refine ev_neg (by omega) (ev_pos rfl ?_)
  refine Ev.bind (toTuple_f x y ka kb kf kt va vb vf vt hk hv) ?_
  refine Ev.bind im ?_
  refine Ev.bind (eqByteS_same _ (by omega)) (ev_pos rfl ?_)
  refine Ev.bind (heldByteS_f _ (by omega) 1 (by omega) (by omega)) ?_
  exact ev_neg (by omega) (ev_pos rfl (Ev.now _))

end Go.Proofs.Ytjjkhlphdbmdfaa.Pure.ofFnExactTupleBytes
namespace Go.Proofs.Ytjjkhlphdbmdfaa.PrintWords
/-- The word that the printed row asks for, under the name by which it asks. -/
abbrev sized_ints := @Go.Proofs.YtjjkhlphdbmdfaaW.PrintWords.sized_ints
end Go.Proofs.Ytjjkhlphdbmdfaa.PrintWords
namespace Go.Proofs.Ytjjkhlphdbmdfaa.Pure
open Go.Proofs.Ytjjkhlphdbmdfaa.PFnExactTupleBytes
theorem FnExactTupleBytes : ofFnExactTupleBytes.Stmt := ofFnExactTupleBytes.main
end Go.Proofs.Ytjjkhlphdbmdfaa.Pure
