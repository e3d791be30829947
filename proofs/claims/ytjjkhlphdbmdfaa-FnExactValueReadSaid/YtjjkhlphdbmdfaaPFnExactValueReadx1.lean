-- By this session's own program (wip/xprint.py), over the kit's print.
import Derived.Test.YtjjkhlphdbmdfaaPFnExactValueReadx0
namespace Go.Proofs.Ytjjkhlphdbmdfaa.PFnExactValueRead
open Go.RowKit Go.Proofs.YtjjkhlphdbmdfaaW.PrintWords Go.Proofs.YtjjkhlphdbmdfaaW.PrintLast Go.Proofs.YtjjkhlphdbmdfaaW.PrintMore
attribute [local go_sem] max2_int min2_int max_two min_two max_three min_three max_four min_four   -- for this text's walks alone
attribute [local go_sem high] fl_eql fl_neq fl_lss fl_leq fl_gtr fl_geq fl_add fl_sub fl_mul fl_quo fl_neg fl_ofInt fl_toInt fl_store sub_sign ext_bits ext_from fl_nan_quo fl_nan_add fl_nan_mul fl_nan_sub
set_option linter.unusedVariables false
set_option linter.unusedSimpArgs false

/-! ### spec_l3low: function 45 -/
def spec_l3low.l0 : Nat → List Int → Int → Int → Option (Int)
  | 0, _, _, _ => none
  | k + 1, x0, x3, x4 => if x4 < (x0.length : Int) then (if 0 ≤ x4 then (spec_l3low.l0 k x0 (Go.bits .or .u64 (IntKind.u64.wrap (x3 * 256)) (IntKind.u64.wrap (rd x0 x4))) (wrap64 (x4 + 1))) else (none)) else (some x3)
def spec_l3low.f (k : Nat) (l0 : List Int) : Option (Int) := spec_l3low.l0 k l0 0 0
theorem spec_l3low.mono_l : ∀ k, (∀ y0 y1 y2, LeO (spec_l3low.l0 k y0 y1 y2) (spec_l3low.l0 (k + 1) y0 y1 y2))
  | 0 => fun _ _ _ r h => by simp [spec_l3low.l0] at h
  | k + 1 => by
    have ih0 := spec_l3low.mono_l k
    · intro y0 y1 y2
      unfold spec_l3low.l0
      repeat' first
      | (with_reducible exact ih0 _ _ _)
      | (with_reducible exact LeO.refl _)
      | (with_reducible exact LeO.none _)
      | (with_reducible refine LeO.ite ?_ ?_)
      | (with_reducible refine LeO.bind ?_ (fun _ => ?_))
      | exact ih0 _ _ _
      | exact LeO.none _
      | refine LeO.ite ?_ ?_
      | refine LeO.bind ?_ (fun _ => ?_)
theorem spec_l3low.mono : ∀ a0 k, LeO (spec_l3low.f k a0) (spec_l3low.f (k + 1) a0) := by
  intro a0 k
  have ih0 := spec_l3low.mono_l k
  unfold spec_l3low.f
  repeat' first
      | (with_reducible exact ih0 _ _ _)
      | (with_reducible exact LeO.refl _)
      | (with_reducible exact LeO.none _)
      | (with_reducible refine LeO.ite ?_ ?_)
      | (with_reducible refine LeO.bind ?_ (fun _ => ?_))
      | exact ih0 _ _ _
      | exact LeO.none _
      | refine LeO.ite ?_ ?_
      | refine LeO.bind ?_ (fun _ => ?_)
set_option maxHeartbeats 8000000 in
set_option maxRecDepth 100000 in
theorem spec_l3low.calls (k : Nat) (A0 : Option Addr) (c0 : Nat) (l0 : List Int) (r : Int) (w : World) (hr0 : Kd.C (Kd.int .u8) w A0 l0.length l0) (hc0 : l0.length ≤ c0) (h : spec_l3low.f k l0 = some r) :
    Calls Try.prog 45 #[.slice A0 l0.length c0] w fun e w' => e = .returned (.int .u64 r) ∧ Drawn0 w w' := by
  have HR0 := Aside0.mk hr0
  have HC0 := Aside0.mk hc0
  clear hr0 hc0
  have H : (spec_l3low.l0 k l0 0 0) = some r := h
  clear h
  have H' := Aside0.mk H
  clear H
  go_enter Try.func45, Try.ntmps45
  go_wp2
  go_loopg [3, 4] k (fun kq v3 v4 w' => ∃ (x3_1 : Int) (x4_1 : Int), v3 = .int .u64 x3_1 ∧ v4 = .int .i64 x4_1 ∧ Aside0 (spec_l3low.l0 kq l0 x3_1 x4_1 = some r) ∧ Aside0 (kq ≤ k) ∧ Drawn0 w w')
  case atStart => exact ⟨(0), (0), (by first | rfl | (simp; done) | (simp [*]; done)), (by first | rfl | (simp; done) | (simp [*]; done)), H', ⟨Nat.le_refl _⟩, by repeat (first | exact Drawn0.refl _ | apply Drawn0.step)⟩
  case round =>
    clear H'
    obtain ⟨x3_1, x4_1, rfl, rfl, HA, HK1, ⟨m1, rfl⟩⟩ := hrel
    cases gk with
    | zero => exact absurd HA.out (by simp [spec_l3low.l0])
    | succ k1 =>
      have H := HA.out
      clear HA
      simp only [spec_l3low.l0] at H
      by_cases c2 : x4_1 < (l0.length : Int)
      · rw [if_pos c2] at H
        have c2b0 : decide (x4_1 < (l0.length : Int)) = true := decide_eq_true c2
        clear c2
        by_cases c3 : 0 ≤ x4_1
        · rw [if_pos c3] at H
          have c3b0 : decide (0 ≤ x4_1) = true := decide_eq_true c3
          clear c3
          have H' := Aside0.mk H
          clear H
          have p101 : 0 ≤ (x4_1 : Int) := of_decide_eq_true (by first | (with_reducible assumption) | assumption)
          have q101 : x4_1 < (l0.length : Int) := of_decide_eq_true (by first | (with_reducible assumption) | assumption)
          obtain ⟨ad101, e101, hx101_0⟩ := Kd.at_int HR0.out x4_1 p101 q101
          cases e101
          replace p101 := eq_true p101
          replace q101 := eq_true q101
          go_wp2
          go_roundg k1
          case measure => have := HK1.out; omega
          case rel => exact ⟨(Go.bits .or .u64 (IntKind.u64.wrap (x3_1 * 256)) (IntKind.u64.wrap (rd l0 x4_1))), (wrap64 (x4_1 + 1)), (by first | rfl | (simp; done) | (simp [*]; done)), (by first | rfl | (simp; done) | (simp [*]; done)), H', ⟨by have := HK1.out; omega⟩, by repeat (first | exact Drawn0.refl _ | apply Drawn0.step)⟩
        · rw [if_neg c3] at H
          exact absurd H (by simp)
      · rw [if_neg c2] at H
        have c2b0 : decide (x4_1 < (l0.length : Int)) = false := decide_eq_false c2
        clear c2
        obtain rfl := Option.some.inj H
        go_wp2
        go_ret
        exact ⟨by first | rfl | (simp; done) | (simp [*]; done), by repeat (first | exact Drawn0.refl _ | apply Drawn0.step)⟩

/-! ### spec_FloatOf: function 46 -/
mutual
def spec_FloatOf.j0 : Nat → Int → Nat → Int → Option (Nat)
  | 0, _, _, _ => none
  | k + 1, x0, x6, x7 => spec_FloatOf.l0 k x0 x6 x7
def spec_FloatOf.l0 : Nat → Int → Nat → Int → Option (Nat)
  | 0, _, _, _ => none
  | k + 1, x0, x6, x7 => if x7 > 0 then (if (fok .mul x6 4611686018427387904) = true then (spec_FloatOf.l0 k x0 (fval .mul x6 4611686018427387904) (wrap64 (x7 - 1))) else (none)) else (spec_FloatOf.l1 k x0 x6 x7)
def spec_FloatOf.l1 : Nat → Int → Nat → Int → Option (Nat)
  | 0, _, _, _ => none
  | k + 1, x0, x6, x7 => if x7 < 0 then (if (fok .quo x6 4611686018427387904) = true then (spec_FloatOf.l1 k x0 (fval .quo x6 4611686018427387904) (wrap64 (x7 + 1))) else (none)) else (if (x0 / 9223372036854775808) = 1 then (some (fneg x6)) else (some x6))
end
def spec_FloatOf.f (k : Nat) (a0 : Int) : Option (Nat) := if (fok .quo (fofi (Go.bits .and .u64 a0 4503599627370495)) 4841369599423283200) = true then (if (wrap64 (Go.bits .and .u64 (a0 / 4503599627370496) 2047)) = 2047 then (if (Go.bits .and .u64 a0 4503599627370495) = 0 then (if (fok .quo 4607182418800017408 0) = true then (if (a0 / 9223372036854775808) = 1 then (some (fneg (fval .quo 4607182418800017408 0))) else (some (fval .quo 4607182418800017408 0))) else (none)) else (if (fok .quo 0 0) = true then (some (fval .quo 0 0)) else (none))) else (if (wrap64 (Go.bits .and .u64 (a0 / 4503599627370496) 2047)) = 0 then (spec_FloatOf.j0 k a0 (fval .quo (fofi (Go.bits .and .u64 a0 4503599627370495)) 4841369599423283200) (-1022)) else (if (fok .add (fval .quo (fofi (Go.bits .and .u64 a0 4503599627370495)) 4841369599423283200) 4607182418800017408) = true then (spec_FloatOf.j0 k a0 (fval .add (fval .quo (fofi (Go.bits .and .u64 a0 4503599627370495)) 4841369599423283200) 4607182418800017408) (wrap64 ((wrap64 (Go.bits .and .u64 (a0 / 4503599627370496) 2047)) - 1023))) else (none)))) else (none)
theorem spec_FloatOf.mono_l : ∀ k, (∀ y0 y1 y2, LeO (spec_FloatOf.j0 k y0 y1 y2) (spec_FloatOf.j0 (k + 1) y0 y1 y2)) ∧ (∀ y0 y1 y2, LeO (spec_FloatOf.l0 k y0 y1 y2) (spec_FloatOf.l0 (k + 1) y0 y1 y2)) ∧ (∀ y0 y1 y2, LeO (spec_FloatOf.l1 k y0 y1 y2) (spec_FloatOf.l1 (k + 1) y0 y1 y2))
  | 0 => ⟨fun _ _ _ r h => by simp [spec_FloatOf.j0] at h, fun _ _ _ r h => by simp [spec_FloatOf.l0] at h, fun _ _ _ r h => by simp [spec_FloatOf.l1] at h⟩
  | k + 1 => by
    obtain ⟨ih0, ih1, ih2⟩ := spec_FloatOf.mono_l k
    refine ⟨?_, ?_, ?_⟩
    · intro y0 y1 y2
      unfold spec_FloatOf.j0
      repeat' first
      | (with_reducible exact ih0 _ _ _)
      | (with_reducible exact ih1 _ _ _)
      | (with_reducible exact ih2 _ _ _)
      | (with_reducible exact LeO.refl _)
      | (with_reducible exact LeO.none _)
      | (with_reducible refine LeO.ite ?_ ?_)
      | (with_reducible refine LeO.bind ?_ (fun _ => ?_))
      | exact ih0 _ _ _
      | exact ih1 _ _ _
      | exact ih2 _ _ _
      | exact LeO.none _
      | refine LeO.ite ?_ ?_
      | refine LeO.bind ?_ (fun _ => ?_)
    · intro y0 y1 y2
      unfold spec_FloatOf.l0
      repeat' first
      | (with_reducible exact ih0 _ _ _)
      | (with_reducible exact ih1 _ _ _)
      | (with_reducible exact ih2 _ _ _)
      | (with_reducible exact LeO.refl _)
      | (with_reducible exact LeO.none _)
      | (with_reducible refine LeO.ite ?_ ?_)
      | (with_reducible refine LeO.bind ?_ (fun _ => ?_))
      | exact ih0 _ _ _
      | exact ih1 _ _ _
      | exact ih2 _ _ _
      | exact LeO.none _
      | refine LeO.ite ?_ ?_
      | refine LeO.bind ?_ (fun _ => ?_)
    · intro y0 y1 y2
      unfold spec_FloatOf.l1
      repeat' first
      | (with_reducible exact ih0 _ _ _)
      | (with_reducible exact ih1 _ _ _)
      | (with_reducible exact ih2 _ _ _)
      | (with_reducible exact LeO.refl _)
      | (with_reducible exact LeO.none _)
      | (with_reducible refine LeO.ite ?_ ?_)
      | (with_reducible refine LeO.bind ?_ (fun _ => ?_))
      | exact ih0 _ _ _
      | exact ih1 _ _ _
      | exact ih2 _ _ _
      | exact LeO.none _
      | refine LeO.ite ?_ ?_
      | refine LeO.bind ?_ (fun _ => ?_)
theorem spec_FloatOf.mono : ∀ a0 k, LeO (spec_FloatOf.f k a0) (spec_FloatOf.f (k + 1) a0) := by
  intro a0 k
  obtain ⟨ih0, ih1, ih2⟩ := spec_FloatOf.mono_l k
  unfold spec_FloatOf.f
  repeat' first
      | (with_reducible exact ih0 _ _ _)
      | (with_reducible exact ih1 _ _ _)
      | (with_reducible exact ih2 _ _ _)
      | (with_reducible exact LeO.refl _)
      | (with_reducible exact LeO.none _)
      | (with_reducible refine LeO.ite ?_ ?_)
      | (with_reducible refine LeO.bind ?_ (fun _ => ?_))
      | exact ih0 _ _ _
      | exact ih1 _ _ _
      | exact ih2 _ _ _
      | exact LeO.none _
      | refine LeO.ite ?_ ?_
      | refine LeO.bind ?_ (fun _ => ?_)
set_option maxHeartbeats 8000000 in
set_option maxRecDepth 100000 in
theorem spec_FloatOf.calls (k : Nat) (a0 : Int) (r : Nat) (w : World) (h : spec_FloatOf.f k a0 = some r) :
    Calls Try.prog 46 #[.int .u64 a0] w fun e w' => e = .returned (.float .f64 r) ∧ Drawn0 w w' := by
  have H : (if (fok .quo (fofi (Go.bits .and .u64 a0 4503599627370495)) 4841369599423283200) = true then (if (wrap64 (Go.bits .and .u64 (a0 / 4503599627370496) 2047)) = 2047 then (if (Go.bits .and .u64 a0 4503599627370495) = 0 then (if (fok .quo 4607182418800017408 0) = true then (if (a0 / 9223372036854775808) = 1 then (some (fneg (fval .quo 4607182418800017408 0))) else (some (fval .quo 4607182418800017408 0))) else (none)) else (if (fok .quo 0 0) = true then (some (fval .quo 0 0)) else (none))) else (if (wrap64 (Go.bits .and .u64 (a0 / 4503599627370496) 2047)) = 0 then (spec_FloatOf.j0 k a0 (fval .quo (fofi (Go.bits .and .u64 a0 4503599627370495)) 4841369599423283200) (-1022)) else (if (fok .add (fval .quo (fofi (Go.bits .and .u64 a0 4503599627370495)) 4841369599423283200) 4607182418800017408) = true then (spec_FloatOf.j0 k a0 (fval .add (fval .quo (fofi (Go.bits .and .u64 a0 4503599627370495)) 4841369599423283200) 4607182418800017408) (wrap64 ((wrap64 (Go.bits .and .u64 (a0 / 4503599627370496) 2047)) - 1023))) else (none)))) else (none)) = some r := h
  clear h
  by_cases c2 : (fok .quo (fofi (Go.bits .and .u64 a0 4503599627370495)) 4841369599423283200) = true
  · rw [if_pos c2] at H
    have c2b0 : (fok .quo (fofi (Go.bits .and .u64 a0 4503599627370495)) 4841369599423283200) = true := c2
    clear c2
    by_cases c3 : (wrap64 (Go.bits .and .u64 (a0 / 4503599627370496) 2047)) = 2047
    · rw [if_pos c3] at H
      have c3b0 : ((wrap64 (Go.bits .and .u64 (a0 / 4503599627370496) 2047)) == 2047) = true := beq_iff_eq.mpr c3
      have c3b1 : ((wrap64 (Go.bits .and .u64 (a0 / 4503599627370496) 2047)) != 2047) = false := bne_eq_false_iff_eq.mpr c3
      clear c3
      by_cases c4 : (Go.bits .and .u64 a0 4503599627370495) = 0
      · rw [if_pos c4] at H
        have c4b0 : ((Go.bits .and .u64 a0 4503599627370495) == 0) = true := beq_iff_eq.mpr c4
        have c4b1 : ((Go.bits .and .u64 a0 4503599627370495) != 0) = false := bne_eq_false_iff_eq.mpr c4
        clear c4
        by_cases c5 : (fok .quo 4607182418800017408 0) = true
        · rw [if_pos c5] at H
          have c5b0 : (fok .quo 4607182418800017408 0) = true := c5
          clear c5
          by_cases c6 : (a0 / 9223372036854775808) = 1
          · rw [if_pos c6] at H
            have c6b0 : ((a0 / 9223372036854775808) == 1) = true := beq_iff_eq.mpr c6
            have c6b1 : ((a0 / 9223372036854775808) != 1) = false := bne_eq_false_iff_eq.mpr c6
            clear c6
            obtain rfl := Option.some.inj H
            go_enter Try.func46, Try.ntmps46
            go_wp2
            go_ret
            exact ⟨by first | rfl | (simp; done) | (simp [*]; done), by repeat (first | exact Drawn0.refl _ | apply Drawn0.step)⟩
          · rw [if_neg c6] at H
            have c6b0 : ((a0 / 9223372036854775808) == 1) = false := beq_eq_false_iff_ne.mpr c6
            have c6b1 : ((a0 / 9223372036854775808) != 1) = true := bne_iff_ne.mpr c6
            obtain rfl := Option.some.inj H
            go_enter Try.func46, Try.ntmps46
            go_wp2
            go_ret
            exact ⟨by first | rfl | (simp; done) | (simp [*]; done), by repeat (first | exact Drawn0.refl _ | apply Drawn0.step)⟩
        · rw [if_neg c5] at H
          exact absurd H (by simp)
      · rw [if_neg c4] at H
        have c4b0 : ((Go.bits .and .u64 a0 4503599627370495) == 0) = false := beq_eq_false_iff_ne.mpr c4
        have c4b1 : ((Go.bits .and .u64 a0 4503599627370495) != 0) = true := bne_iff_ne.mpr c4
        by_cases c7 : (fok .quo 0 0) = true
        · rw [if_pos c7] at H
          have c7b0 : (fok .quo 0 0) = true := c7
          clear c7
          obtain rfl := Option.some.inj H
          go_enter Try.func46, Try.ntmps46
          go_wp2
          go_ret
          exact ⟨by first | rfl | (simp; done) | (simp [*]; done), by repeat (first | exact Drawn0.refl _ | apply Drawn0.step)⟩
        · rw [if_neg c7] at H
          exact absurd H (by simp)
    · rw [if_neg c3] at H
      have c3b0 : ((wrap64 (Go.bits .and .u64 (a0 / 4503599627370496) 2047)) == 2047) = false := beq_eq_false_iff_ne.mpr c3
      have c3b1 : ((wrap64 (Go.bits .and .u64 (a0 / 4503599627370496) 2047)) != 2047) = true := bne_iff_ne.mpr c3
      have HC8 := Aside0.mk H
      clear H
      go_enter Try.func46, Try.ntmps46
      go_upto_if 29 with (fail)
      go_cut [6, 7] (fun v6 v7 wc => ∃ (kq : Nat) (x6_7 : Nat) (x7_7 : Int), v6 = .float .f64 x6_7 ∧ v7 = .int .i64 x7_7 ∧ Aside0 (spec_FloatOf.j0 kq a0 x6_7 x7_7 = some r) ∧ Aside0 (kq ≤ k) ∧ Drawn0 w wc)
      case first =>
        have H := HC8.out
        clear HC8
        by_cases c9 : (wrap64 (Go.bits .and .u64 (a0 / 4503599627370496) 2047)) = 0
        · rw [if_pos c9] at H
          have c9b0 : ((wrap64 (Go.bits .and .u64 (a0 / 4503599627370496) 2047)) == 0) = true := beq_iff_eq.mpr c9
          have c9b1 : ((wrap64 (Go.bits .and .u64 (a0 / 4503599627370496) 2047)) != 0) = false := bne_eq_false_iff_eq.mpr c9
          clear c9
          (first | rw [c9b0] | (simp only [i64_w, i32_w]; rw [c9b0]) | skip)
          have H' := Aside0.mk H
          clear H
          go_wp2
          go_meet
          case rel => exact ⟨_, (fval .quo (fofi (Go.bits .and .u64 a0 4503599627370495)) 4841369599423283200), ((-1022)), (by first | rfl | (simp; done) | (simp [*]; done)), (by first | rfl | (simp; done) | (simp [*]; done)), H', ⟨by first | omega | exact Nat.le_refl _⟩, by repeat (first | exact Drawn0.refl _ | apply Drawn0.step)⟩
        · rw [if_neg c9] at H
          have c9b0 : ((wrap64 (Go.bits .and .u64 (a0 / 4503599627370496) 2047)) == 0) = false := beq_eq_false_iff_ne.mpr c9
          have c9b1 : ((wrap64 (Go.bits .and .u64 (a0 / 4503599627370496) 2047)) != 0) = true := bne_iff_ne.mpr c9
          (first | rw [c9b0] | (simp only [i64_w, i32_w]; rw [c9b0]) | skip)
          by_cases c10 : (fok .add (fval .quo (fofi (Go.bits .and .u64 a0 4503599627370495)) 4841369599423283200) 4607182418800017408) = true
          · rw [if_pos c10] at H
            have c10b0 : (fok .add (fval .quo (fofi (Go.bits .and .u64 a0 4503599627370495)) 4841369599423283200) 4607182418800017408) = true := c10
            clear c10
            have H' := Aside0.mk H
            clear H
            go_wp2
            go_meet
            case rel => exact ⟨_, (fval .add (fval .quo (fofi (Go.bits .and .u64 a0 4503599627370495)) 4841369599423283200) 4607182418800017408), (wrap64 ((wrap64 (Go.bits .and .u64 (a0 / 4503599627370496) 2047)) - 1023)), (by first | rfl | (simp; done) | (simp [*]; done)), (by first | rfl | (simp; done) | (simp [*]; done)), H', ⟨by first | omega | exact Nat.le_refl _⟩, by repeat (first | exact Drawn0.refl _ | apply Drawn0.step)⟩
          · rw [if_neg c10] at H
            exact absurd H (by simp)
      case rest =>
        clear HC8
        try clear c1
        try clear c2
        try clear c2b0
        try clear p2
        try clear c3
        try clear c3b0
        try clear c3b1
        try clear c4
        try clear c4b0
        try clear c4b1
        try clear c5
        try clear c5b0
        try clear c6
        try clear c6b0
        try clear c6b1
        try clear p6
        try clear c7
        try clear c7b0
        try clear c9
        try clear c9b0
        try clear c9b1
        try clear c10
        try clear c10b0
        obtain ⟨kq, x6_7, x7_7, rfl, rfl, HA, HJ7, ⟨mc7, rfl⟩⟩ := hcut
        cases kq with
        | zero => exact absurd HA.out (by simp [spec_FloatOf.j0])
        | succ kj7 =>
          have H := HA.out
          clear HA
          simp only [spec_FloatOf.j0] at H
          have H' := Aside0.mk H
          clear H
          go_wp2
          go_loopg [6, 7] kj7 (fun kq v6 v7 w' => ∃ (x6_2 : Nat) (x7_2 : Int), v6 = .float .f64 x6_2 ∧ v7 = .int .i64 x7_2 ∧ Aside0 (spec_FloatOf.l0 kq a0 x6_2 x7_2 = some r) ∧ Aside0 (kq ≤ kj7) ∧ Drawn0 w w')
          case atStart => exact ⟨(x6_7), (x7_7), (by first | rfl | (simp; done) | (simp [*]; done)), (by first | rfl | (simp; done) | (simp [*]; done)), H', ⟨Nat.le_refl _⟩, by repeat (first | exact Drawn0.refl _ | apply Drawn0.step)⟩
          case round =>
            clear H'
            try clear c1
            try clear c2
            try clear c2b0
            try clear p2
            try clear c3
            try clear c3b0
            try clear c3b1
            try clear c4
            try clear c4b0
            try clear c4b1
            try clear c5
            try clear c5b0
            try clear c6
            try clear c6b0
            try clear c6b1
            try clear p6
            try clear c7
            try clear c7b0
            try clear c9
            try clear c9b0
            try clear c9b1
            try clear c10
            try clear c10b0
            try clear p2
            try clear p6
            obtain ⟨x6_2, x7_2, rfl, rfl, HA, HK2, ⟨m2, rfl⟩⟩ := hrel
            cases gk with
            | zero => exact absurd HA.out (by simp [spec_FloatOf.l0])
            | succ k2 =>
              have H := HA.out
              clear HA
              simp only [spec_FloatOf.l0] at H
              by_cases c11 : x7_2 > 0
              · rw [if_pos c11] at H
                have c11b0 : decide (0 < x7_2) = true := decide_eq_true c11
                clear c11
                by_cases c12 : (fok .mul x6_2 4611686018427387904) = true
                · rw [if_pos c12] at H
                  have c12b0 : (fok .mul x6_2 4611686018427387904) = true := c12
                  clear c12
                  have H' := Aside0.mk H
                  clear H
                  go_wp2
                  go_roundg k2
                  case measure => have := HJ7.out; have := HK2.out; omega
                  case rel => exact ⟨(fval .mul x6_2 4611686018427387904), (wrap64 (x7_2 - 1)), (by first | rfl | (simp; done) | (simp [*]; done)), (by first | rfl | (simp; done) | (simp [*]; done)), H', ⟨by have := HJ7.out; have := HK2.out; omega⟩, by repeat (first | exact Drawn0.refl _ | apply Drawn0.step)⟩
                · rw [if_neg c12] at H
                  exact absurd H (by simp)
              · rw [if_neg c11] at H
                have c11b0 : decide (0 < x7_2) = false := decide_eq_false c11
                clear c11
                have H' := Aside0.mk H
                clear H
                go_wp2
                go_loopg [6, 7] k2 (fun kq v6 v7 w' => ∃ (x6_3 : Nat) (x7_3 : Int), v6 = .float .f64 x6_3 ∧ v7 = .int .i64 x7_3 ∧ Aside0 (spec_FloatOf.l1 kq a0 x6_3 x7_3 = some r) ∧ Aside0 (kq ≤ k2) ∧ Drawn0 w w')
                case atStart => exact ⟨(x6_2), (x7_2), (by first | rfl | (simp; done) | (simp [*]; done)), (by first | rfl | (simp; done) | (simp [*]; done)), H', ⟨Nat.le_refl _⟩, by repeat (first | exact Drawn0.refl _ | apply Drawn0.step)⟩
                case round =>
                  clear H'
                  try clear c1
                  try clear c2
                  try clear c2b0
                  try clear p2
                  try clear c3
                  try clear c3b0
                  try clear c3b1
                  try clear c4
                  try clear c4b0
                  try clear c4b1
                  try clear c5
                  try clear c5b0
                  try clear c6
                  try clear c6b0
                  try clear c6b1
                  try clear p6
                  try clear c7
                  try clear c7b0
                  try clear c9
                  try clear c9b0
                  try clear c9b1
                  try clear c10
                  try clear c10b0
                  try clear c11
                  try clear c11b0
                  try clear c12
                  try clear c12b0
                  try clear p2
                  try clear p6
                  obtain ⟨x6_3, x7_3, rfl, rfl, HA, HK3, ⟨m3, rfl⟩⟩ := hrel
                  cases gk with
                  | zero => exact absurd HA.out (by simp [spec_FloatOf.l1])
                  | succ k3 =>
                    have H := HA.out
                    clear HA
                    simp only [spec_FloatOf.l1] at H
                    by_cases c13 : x7_3 < 0
                    · rw [if_pos c13] at H
                      have c13b0 : decide (x7_3 < 0) = true := decide_eq_true c13
                      clear c13
                      by_cases c14 : (fok .quo x6_3 4611686018427387904) = true
                      · rw [if_pos c14] at H
                        have c14b0 : (fok .quo x6_3 4611686018427387904) = true := c14
                        clear c14
                        have H' := Aside0.mk H
                        clear H
                        go_wp2
                        go_roundg k3
                        case measure => have := HJ7.out; have := HK2.out; have := HK3.out; omega
                        case rel => exact ⟨(fval .quo x6_3 4611686018427387904), (wrap64 (x7_3 + 1)), (by first | rfl | (simp; done) | (simp [*]; done)), (by first | rfl | (simp; done) | (simp [*]; done)), H', ⟨by have := HJ7.out; have := HK2.out; have := HK3.out; omega⟩, by repeat (first | exact Drawn0.refl _ | apply Drawn0.step)⟩
                      · rw [if_neg c14] at H
                        exact absurd H (by simp)
                    · rw [if_neg c13] at H
                      have c13b0 : decide (x7_3 < 0) = false := decide_eq_false c13
                      clear c13
                      by_cases c15 : (a0 / 9223372036854775808) = 1
                      · rw [if_pos c15] at H
                        have c15b0 : ((a0 / 9223372036854775808) == 1) = true := beq_iff_eq.mpr c15
                        have c15b1 : ((a0 / 9223372036854775808) != 1) = false := bne_eq_false_iff_eq.mpr c15
                        clear c15
                        obtain rfl := Option.some.inj H
                        go_wp2
                        go_ret
                        exact ⟨by first | rfl | (simp; done) | (simp [*]; done), by repeat (first | exact Drawn0.refl _ | apply Drawn0.step)⟩
                      · rw [if_neg c15] at H
                        have c15b0 : ((a0 / 9223372036854775808) == 1) = false := beq_eq_false_iff_ne.mpr c15
                        have c15b1 : ((a0 / 9223372036854775808) != 1) = true := bne_iff_ne.mpr c15
                        obtain rfl := Option.some.inj H
                        go_wp2
                        go_ret
                        exact ⟨by first | rfl | (simp; done) | (simp [*]; done), by repeat (first | exact Drawn0.refl _ | apply Drawn0.step)⟩
  · rw [if_neg c2] at H
    exact absurd H (by simp)
/-- the bits of which FloatOf makes what is no number -/
def spec_FloatOf.nanC (a0 : Int) : Prop := (fok .quo (fofi (Go.bits .and .u64 a0 4503599627370495)) 4841369599423283200) = true ∧ (wrap64 (Go.bits .and .u64 (a0 / 4503599627370496) 2047)) = 2047 ∧ ¬ (Go.bits .and .u64 a0 4503599627370495) = 0 ∧ fok .quo 0 0 = false
/-- where FloatOf's answer is known -/
def spec_FloatOf.Q (k : Nat) (a0 : Int) : Prop := (∃ r, spec_FloatOf.f k a0 = some r) ∨ spec_FloatOf.nanC a0
/-- what FloatOf answers -/
def spec_FloatOf.R (k : Nat) (a0 : Int) (r : Nat) : Prop := spec_FloatOf.f k a0 = some r ∨ (spec_FloatOf.nanC a0 ∧ nanR r)
set_option maxHeartbeats 8000000 in
set_option maxRecDepth 100000 in
theorem spec_FloatOf.calls0 (a0 : Int) (w : World) (h : spec_FloatOf.nanC a0) :
    Calls Try.prog 46 #[.int .u64 a0] w fun e w' => ∃ r_ : Nat, e = .returned (.float .f64 r_) ∧ nanR r_ ∧ Drawn0 w w' := by
  obtain ⟨c2b0, c3, c4, c7⟩ := h
  have c3b0 : ((wrap64 (Go.bits .and .u64 (a0 / 4503599627370496) 2047)) == 2047) = true := beq_iff_eq.mpr c3
  have c3b1 : ((wrap64 (Go.bits .and .u64 (a0 / 4503599627370496) 2047)) != 2047) = false := bne_eq_false_iff_eq.mpr c3
  clear c3
  have c4b0 : ((Go.bits .and .u64 a0 4503599627370495) == 0) = false := beq_eq_false_iff_ne.mpr c4
  have c4b1 : ((Go.bits .and .u64 a0 4503599627370495) != 0) = true := bne_iff_ne.mpr c4
  clear c4
  go_enter Try.func46, Try.ntmps46
  go_wp2
  go_ret
  exact ⟨_, rfl, nanR_of _ _ _, by repeat (first | exact Drawn0.refl _ | apply Drawn0.step)⟩
theorem spec_FloatOf.callsN (k : Nat) (a0 : Int) (w : World) (h : spec_FloatOf.Q k a0) :
    Calls Try.prog 46 #[.int .u64 a0] w fun e w' => ∃ r_ : Nat, e = .returned (.float .f64 r_) ∧ Aside0 (spec_FloatOf.R k a0 r_) ∧ Drawn0 w w' := by
  rcases h with ⟨r, h⟩ | h
  · exact (spec_FloatOf.calls k a0 r w h).mono (fun e w' ⟨e1, d⟩ => ⟨r, e1, ⟨Or.inl h⟩, d⟩)
  · exact (spec_FloatOf.calls0 a0 w h).mono (fun e w' ⟨r, e1, n, d⟩ => ⟨r, e1, ⟨Or.inr ⟨h, n⟩⟩, d⟩)
instance (a0 : Int) : Decidable (spec_FloatOf.nanC a0) := inferInstanceAs (Decidable (_ ∧ _ ∧ _ ∧ _))
/-- FloatOf with what is no number told by one word -/
def spec_FloatOf.c (k : Nat) (a0 : Int) : Option (Nat) := if spec_FloatOf.nanC a0 then some 9221120237041090560 else (spec_FloatOf.f k a0).bind fun t => if ¬ nanw t ∧ t < 2 ^ 64 then some t else none
theorem spec_FloatOf.monoC : ∀ a0 k, LeO (spec_FloatOf.c k a0) (spec_FloatOf.c (k + 1) a0) := by
  intro a0 k
  unfold spec_FloatOf.c
  exact LeO.ite (LeO.refl _) (LeO.bind (spec_FloatOf.mono _ _) (fun _ => LeO.refl _))
theorem spec_FloatOf.callsC (k : Nat) (a0 : Int) (r : Nat) (w : World) (h : spec_FloatOf.c k a0 = some r) :
    Calls Try.prog 46 #[.int .u64 a0] w fun e w' => ∃ b1_ : Nat, e = .returned (.float .f64 b1_) ∧ Drawn0 w w' ∧ Aside0 (cn b1_ = r ∧ b1_ < 2 ^ 64) := by
  unfold spec_FloatOf.c at h
  split at h
  · rename_i hn
    cases h
    exact (spec_FloatOf.calls0 a0 w hn).mono (fun e w' ⟨b, e1, n, d⟩ => ⟨b, e1, d, ⟨cn_nan (nanR_nanw b n), (nanR_nanw b n).1⟩⟩)
  · obtain ⟨t, ht, h⟩ := Option.bind_eq_some_iff.mp h
    split at h
    · rename_i hq
      cases h
      exact (spec_FloatOf.calls k a0 r w ht).mono (fun e w' ⟨e1, d⟩ => ⟨r, e1, d, ⟨cn_num hq.1, hq.2⟩⟩)
    · cases h


end Go.Proofs.Ytjjkhlphdbmdfaa.PFnExactValueRead
