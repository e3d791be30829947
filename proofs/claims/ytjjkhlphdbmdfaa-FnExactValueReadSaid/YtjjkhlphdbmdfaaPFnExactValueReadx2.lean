-- By this session's own program (wip/xprint.py), over the kit's print.
import Derived.Test.YtjjkhlphdbmdfaaPFnExactValueReadx0
namespace Go.Proofs.Ytjjkhlphdbmdfaa.PFnExactValueRead
open Go.RowKit Go.Proofs.YtjjkhlphdbmdfaaW.PrintWords Go.Proofs.YtjjkhlphdbmdfaaW.PrintLast Go.Proofs.YtjjkhlphdbmdfaaW.PrintMore
attribute [local go_sem] max2_int min2_int max_two min_two max_three min_three max_four min_four   -- for this text's walks alone
attribute [local go_sem high] fl_eql fl_neq fl_lss fl_leq fl_gtr fl_geq fl_add fl_sub fl_mul fl_quo fl_neg fl_ofInt fl_toInt fl_store sub_sign ext_bits ext_from fl_nan_quo fl_nan_add fl_nan_mul fl_nan_sub
set_option linter.unusedVariables false
set_option linter.unusedSimpArgs false

/-! ### spec_FloatBits: function 30 -/
mutual
def spec_FloatBits.j0 : Nat → Nat → Int → Nat → Bool → Option (Int)
  | 0, _, _, _, _ => none
  | k + 1, x0, x3, x4, x20 => if x20 = true then (spec_FloatBits.j1 k 9223372036854775808 (fneg x0)) else (spec_FloatBits.j1 k x3 x4)
def spec_FloatBits.j1 : Nat → Int → Nat → Option (Int)
  | 0, _, _ => none
  | k + 1, x3, x4 => if (feq x4 0) = true then (some x3) else (if (fgt x4 9218868437227405311) = true then (some (Go.bits .or .u64 x3 9218868437227405312)) else (spec_FloatBits.l0 k x3 x4 0))
def spec_FloatBits.l0 : Nat → Int → Nat → Int → Option (Int)
  | 0, _, _, _ => none
  | k + 1, x3, x4, x5 => if (fge x4 4611686018427387904) = true then (if (fok .quo x4 4611686018427387904) = true then (spec_FloatBits.l0 k x3 (fval .quo x4 4611686018427387904) (wrap64 (x5 + 1))) else (none)) else (spec_FloatBits.l1 k x3 x4 x5)
def spec_FloatBits.l1 : Nat → Int → Nat → Int → Option (Int)
  | 0, _, _, _ => none
  | k + 1, x3, x4, x5 => if (fls x4 4607182418800017408) = true then (if x5 > (-1022) then (if (fok .mul x4 4611686018427387904) = true then (spec_FloatBits.l1 k x3 (fval .mul x4 4611686018427387904) (wrap64 (x5 - 1))) else (none)) else (if (fok .mul x4 4841369599423283200) = true then (if (fiok .u64 (fval .mul x4 4841369599423283200)) = true then (some (Go.bits .or .u64 x3 (fival .u64 (fval .mul x4 4841369599423283200)))) else (none)) else (none))) else (if (fok .sub x4 4607182418800017408) = true then (if (fok .mul (fval .sub x4 4607182418800017408) 4841369599423283200) = true then (if (fiok .u64 (fval .mul (fval .sub x4 4607182418800017408) 4841369599423283200)) = true then (some (Go.bits .or .u64 (Go.bits .or .u64 x3 (IntKind.u64.wrap ((IntKind.u64.wrap (wrap64 (x5 + 1023))) * 4503599627370496))) (fival .u64 (fval .mul (fval .sub x4 4607182418800017408) 4841369599423283200)))) else (none)) else (none)) else (none))
end
def spec_FloatBits.f (k : Nat) (a0 : Nat) : Option (Int) := if ((feq a0 a0) = true) then (if (fls a0 0) = true then (spec_FloatBits.j0 k a0 0 a0 true) else (if (feq a0 0) = true then (if (fok .quo 4607182418800017408 a0) = true then (spec_FloatBits.j0 k a0 0 a0 (fls (fval .quo 4607182418800017408 a0) 0)) else (none)) else (spec_FloatBits.j0 k a0 0 a0 false))) else (some 9221120237041090560)
theorem spec_FloatBits.mono_l : ∀ k, (∀ y0 y1 y2 y3, LeO (spec_FloatBits.j0 k y0 y1 y2 y3) (spec_FloatBits.j0 (k + 1) y0 y1 y2 y3)) ∧ (∀ y0 y1, LeO (spec_FloatBits.j1 k y0 y1) (spec_FloatBits.j1 (k + 1) y0 y1)) ∧ (∀ y0 y1 y2, LeO (spec_FloatBits.l0 k y0 y1 y2) (spec_FloatBits.l0 (k + 1) y0 y1 y2)) ∧ (∀ y0 y1 y2, LeO (spec_FloatBits.l1 k y0 y1 y2) (spec_FloatBits.l1 (k + 1) y0 y1 y2))
  | 0 => ⟨fun _ _ _ _ r h => by simp [spec_FloatBits.j0] at h, fun _ _ r h => by simp [spec_FloatBits.j1] at h, fun _ _ _ r h => by simp [spec_FloatBits.l0] at h, fun _ _ _ r h => by simp [spec_FloatBits.l1] at h⟩
  | k + 1 => by
    obtain ⟨ih0, ih1, ih2, ih3⟩ := spec_FloatBits.mono_l k
    refine ⟨?_, ?_, ?_, ?_⟩
    · intro y0 y1 y2 y3
      unfold spec_FloatBits.j0
      repeat' first
      | (with_reducible exact ih0 _ _ _ _)
      | (with_reducible exact ih1 _ _)
      | (with_reducible exact ih2 _ _ _)
      | (with_reducible exact ih3 _ _ _)
      | (with_reducible exact LeO.refl _)
      | (with_reducible exact LeO.none _)
      | (with_reducible refine LeO.ite ?_ ?_)
      | (with_reducible refine LeO.bind ?_ (fun _ => ?_))
      | exact ih0 _ _ _ _
      | exact ih1 _ _
      | exact ih2 _ _ _
      | exact ih3 _ _ _
      | exact LeO.none _
      | refine LeO.ite ?_ ?_
      | refine LeO.bind ?_ (fun _ => ?_)
    · intro y0 y1
      unfold spec_FloatBits.j1
      repeat' first
      | (with_reducible exact ih0 _ _ _ _)
      | (with_reducible exact ih1 _ _)
      | (with_reducible exact ih2 _ _ _)
      | (with_reducible exact ih3 _ _ _)
      | (with_reducible exact LeO.refl _)
      | (with_reducible exact LeO.none _)
      | (with_reducible refine LeO.ite ?_ ?_)
      | (with_reducible refine LeO.bind ?_ (fun _ => ?_))
      | exact ih0 _ _ _ _
      | exact ih1 _ _
      | exact ih2 _ _ _
      | exact ih3 _ _ _
      | exact LeO.none _
      | refine LeO.ite ?_ ?_
      | refine LeO.bind ?_ (fun _ => ?_)
    · intro y0 y1 y2
      unfold spec_FloatBits.l0
      repeat' first
      | (with_reducible exact ih0 _ _ _ _)
      | (with_reducible exact ih1 _ _)
      | (with_reducible exact ih2 _ _ _)
      | (with_reducible exact ih3 _ _ _)
      | (with_reducible exact LeO.refl _)
      | (with_reducible exact LeO.none _)
      | (with_reducible refine LeO.ite ?_ ?_)
      | (with_reducible refine LeO.bind ?_ (fun _ => ?_))
      | exact ih0 _ _ _ _
      | exact ih1 _ _
      | exact ih2 _ _ _
      | exact ih3 _ _ _
      | exact LeO.none _
      | refine LeO.ite ?_ ?_
      | refine LeO.bind ?_ (fun _ => ?_)
    · intro y0 y1 y2
      unfold spec_FloatBits.l1
      repeat' first
      | (with_reducible exact ih0 _ _ _ _)
      | (with_reducible exact ih1 _ _)
      | (with_reducible exact ih2 _ _ _)
      | (with_reducible exact ih3 _ _ _)
      | (with_reducible exact LeO.refl _)
      | (with_reducible exact LeO.none _)
      | (with_reducible refine LeO.ite ?_ ?_)
      | (with_reducible refine LeO.bind ?_ (fun _ => ?_))
      | exact ih0 _ _ _ _
      | exact ih1 _ _
      | exact ih2 _ _ _
      | exact ih3 _ _ _
      | exact LeO.none _
      | refine LeO.ite ?_ ?_
      | refine LeO.bind ?_ (fun _ => ?_)
theorem spec_FloatBits.mono : ∀ a0 k, LeO (spec_FloatBits.f k a0) (spec_FloatBits.f (k + 1) a0) := by
  intro a0 k
  obtain ⟨ih0, ih1, ih2, ih3⟩ := spec_FloatBits.mono_l k
  unfold spec_FloatBits.f
  repeat' first
      | (with_reducible exact ih0 _ _ _ _)
      | (with_reducible exact ih1 _ _)
      | (with_reducible exact ih2 _ _ _)
      | (with_reducible exact ih3 _ _ _)
      | (with_reducible exact LeO.refl _)
      | (with_reducible exact LeO.none _)
      | (with_reducible refine LeO.ite ?_ ?_)
      | (with_reducible refine LeO.bind ?_ (fun _ => ?_))
      | exact ih0 _ _ _ _
      | exact ih1 _ _
      | exact ih2 _ _ _
      | exact ih3 _ _ _
      | exact LeO.none _
      | refine LeO.ite ?_ ?_
      | refine LeO.bind ?_ (fun _ => ?_)
set_option maxHeartbeats 8000000 in
set_option maxRecDepth 100000 in
theorem spec_FloatBits.calls (k : Nat) (a0 : Nat) (r : Int) (w : World) (h : spec_FloatBits.f k a0 = some r) :
    Calls Try.prog 30 #[.float .f64 a0] w fun e w' => e = .returned (.int .u64 r) ∧ Drawn0 w w' := by
  have H : (if ((feq a0 a0) = true) then (if (fls a0 0) = true then (spec_FloatBits.j0 k a0 0 a0 true) else (if (feq a0 0) = true then (if (fok .quo 4607182418800017408 a0) = true then (spec_FloatBits.j0 k a0 0 a0 (fls (fval .quo 4607182418800017408 a0) 0)) else (none)) else (spec_FloatBits.j0 k a0 0 a0 false))) else (some 9221120237041090560)) = some r := h
  clear h
  by_cases c2 : ((feq a0 a0) = true)
  · rw [if_pos c2] at H
    have c2b0 : (feq a0 a0) = true := c2
    clear c2
    have HC3 := Aside0.mk H
    clear H
    go_enter Try.func30, Try.ntmps30
    go_upto_region 5 with (fail)
    go_cut [20] (fun v20 wc => ∃ (kq : Nat) (x20_2 : Bool), v20 = .bool x20_2 ∧ Aside0 (spec_FloatBits.j0 kq a0 0 a0 x20_2 = some r) ∧ Aside0 (kq ≤ k) ∧ Drawn0 w wc)
    case first =>
      have H := HC3.out
      clear HC3
      by_cases c4 : (fls a0 0) = true
      · rw [if_pos c4] at H
        have c4b0 : (fls a0 0) = true := c4
        clear c4
        (first | rw [c4b0] | (simp only [i64_w, i32_w]; rw [c4b0]) | skip)
        have H' := Aside0.mk H
        clear H
        go_wp2
        go_meet
        case rel => exact ⟨_, (true), (by first | rfl | (simp; done) | (simp [*]; done)), H', ⟨by first | omega | exact Nat.le_refl _⟩, by repeat (first | exact Drawn0.refl _ | apply Drawn0.step)⟩
      · rw [if_neg c4] at H
        have c4b0 : (fls a0 0) = false := by simpa using c4
        clear c4
        (first | rw [c4b0] | (simp only [i64_w, i32_w]; rw [c4b0]) | skip)
        by_cases c5 : (feq a0 0) = true
        · rw [if_pos c5] at H
          have c5b0 : (feq a0 0) = true := c5
          clear c5
          by_cases c6 : (fok .quo 4607182418800017408 a0) = true
          · rw [if_pos c6] at H
            have c6b0 : (fok .quo 4607182418800017408 a0) = true := c6
            clear c6
            have H' := Aside0.mk H
            clear H
            go_wp2
            go_meet
            case rel => exact ⟨_, ((fls (fval .quo 4607182418800017408 a0) 0)), (by first | rfl | (simp; done) | (simp [*]; done)), H', ⟨by first | omega | exact Nat.le_refl _⟩, by repeat (first | exact Drawn0.refl _ | apply Drawn0.step)⟩
          · rw [if_neg c6] at H
            exact absurd H (by simp)
        · rw [if_neg c5] at H
          have c5b0 : (feq a0 0) = false := by simpa using c5
          clear c5
          have H' := Aside0.mk H
          clear H
          go_wp2
          go_meet
          case rel => exact ⟨_, (false), (by first | rfl | (simp; done) | (simp [*]; done)), H', ⟨by first | omega | exact Nat.le_refl _⟩, by repeat (first | exact Drawn0.refl _ | apply Drawn0.step)⟩
    case rest =>
      clear HC3
      try clear c2
      try clear c2b0
      try clear p2
      try clear c3
      try clear c4
      try clear c4b0
      try clear c5
      try clear c5b0
      try clear c6
      try clear c6b0
      obtain ⟨kq, x20_2, rfl, HA, HJ2, ⟨mc2, rfl⟩⟩ := hcut
      cases kq with
      | zero => exact absurd HA.out (by simp [spec_FloatBits.j0])
      | succ kj2 =>
        have H := HA.out
        clear HA
        simp only [spec_FloatBits.j0] at H
        have HC7 := Aside0.mk H
        clear H
        go_upto_if 20 with (fail)
        go_cut [3, 4] (fun v3 v4 wc => ∃ (kq : Nat) (x3_6 : Int) (x4_6 : Nat), v3 = .int .u64 x3_6 ∧ v4 = .float .f64 x4_6 ∧ Aside0 (spec_FloatBits.j1 kq x3_6 x4_6 = some r) ∧ Aside0 (kq ≤ kj2) ∧ Drawn0 w wc)
        case first =>
          have H := HC7.out
          clear HC7
          by_cases c8 : x20_2 = true
          · subst c8
            have H1 : (spec_FloatBits.j1 kj2 9223372036854775808 (fneg a0)) = some r := by rw [if_pos rfl] at H; exact H
            clear H
            have H := H1
            clear H1
            have H' := Aside0.mk H
            clear H
            go_wp2
            go_meet
            case rel => exact ⟨_, (9223372036854775808), (fneg a0), (by first | rfl | (simp; done) | (simp [*]; done)), (by first | rfl | (simp; done) | (simp [*]; done)), H', ⟨by have := HJ2.out; first | omega | exact Nat.le_refl _⟩, by repeat (first | exact Drawn0.refl _ | apply Drawn0.step)⟩
          · replace c8 := Bool.eq_false_iff.mpr c8
            subst c8
            have H1 : (spec_FloatBits.j1 kj2 0 a0) = some r := by rw [if_neg (show ¬ (false = true) by decide)] at H; exact H
            clear H
            have H := H1
            clear H1
            have H' := Aside0.mk H
            clear H
            go_wp2
            go_meet
            case rel => exact ⟨_, (0), (a0), (by first | rfl | (simp; done) | (simp [*]; done)), (by first | rfl | (simp; done) | (simp [*]; done)), H', ⟨by have := HJ2.out; first | omega | exact Nat.le_refl _⟩, by repeat (first | exact Drawn0.refl _ | apply Drawn0.step)⟩
        case rest =>
          clear HC7
          try clear c2
          try clear c2b0
          try clear p2
          try clear c3
          try clear c4
          try clear c4b0
          try clear c5
          try clear c5b0
          try clear c6
          try clear c6b0
          try clear c8
          try clear p2
          obtain ⟨kq, x3_6, x4_6, rfl, rfl, HA, HJ6, ⟨mc6, rfl⟩⟩ := hcut
          cases kq with
          | zero => exact absurd HA.out (by simp [spec_FloatBits.j1])
          | succ kj6 =>
            have H := HA.out
            clear HA
            simp only [spec_FloatBits.j1] at H
            by_cases c9 : (feq x4_6 0) = true
            · rw [if_pos c9] at H
              have c9b0 : (feq x4_6 0) = true := c9
              clear c9
              obtain rfl := Option.some.inj H
              go_wp2
              go_ret
              exact ⟨by first | rfl | (simp; done) | (simp [*]; done), by repeat (first | exact Drawn0.refl _ | apply Drawn0.step)⟩
            · rw [if_neg c9] at H
              have c9b0 : (feq x4_6 0) = false := by simpa using c9
              clear c9
              by_cases c10 : (fgt x4_6 9218868437227405311) = true
              · rw [if_pos c10] at H
                have c10b0 : (fgt x4_6 9218868437227405311) = true := c10
                clear c10
                obtain rfl := Option.some.inj H
                go_wp2
                go_ret
                exact ⟨by first | rfl | (simp; done) | (simp [*]; done), by repeat (first | exact Drawn0.refl _ | apply Drawn0.step)⟩
              · rw [if_neg c10] at H
                have c10b0 : (fgt x4_6 9218868437227405311) = false := by simpa using c10
                clear c10
                have H' := Aside0.mk H
                clear H
                go_wp2
                go_loopg [4, 5] kj6 (fun kq v4 v5 w' => ∃ (x4_3 : Nat) (x5_3 : Int), v4 = .float .f64 x4_3 ∧ v5 = .int .i64 x5_3 ∧ Aside0 (spec_FloatBits.l0 kq x3_6 x4_3 x5_3 = some r) ∧ Aside0 (kq ≤ kj6) ∧ Drawn0 w w')
                case atStart => exact ⟨(x4_6), (0), (by first | rfl | (simp; done) | (simp [*]; done)), (by first | rfl | (simp; done) | (simp [*]; done)), H', ⟨Nat.le_refl _⟩, by repeat (first | exact Drawn0.refl _ | apply Drawn0.step)⟩
                case round =>
                  clear H'
                  try clear c1
                  try clear c2
                  try clear c2b0
                  try clear p2
                  try clear c3
                  try clear c4
                  try clear c4b0
                  try clear c5
                  try clear c5b0
                  try clear c6
                  try clear c6b0
                  try clear c8
                  try clear c9
                  try clear c9b0
                  try clear c10
                  try clear c10b0
                  try clear p2
                  obtain ⟨x4_3, x5_3, rfl, rfl, HA, HK3, ⟨m3, rfl⟩⟩ := hrel
                  cases gk with
                  | zero => exact absurd HA.out (by simp [spec_FloatBits.l0])
                  | succ k3 =>
                    have H := HA.out
                    clear HA
                    simp only [spec_FloatBits.l0] at H
                    by_cases c11 : (fge x4_3 4611686018427387904) = true
                    · rw [if_pos c11] at H
                      have c11b0 : (fge x4_3 4611686018427387904) = true := c11
                      clear c11
                      by_cases c12 : (fok .quo x4_3 4611686018427387904) = true
                      · rw [if_pos c12] at H
                        have c12b0 : (fok .quo x4_3 4611686018427387904) = true := c12
                        clear c12
                        have H' := Aside0.mk H
                        clear H
                        go_wp2
                        go_roundg k3
                        case measure => have := HJ2.out; have := HJ6.out; have := HK3.out; omega
                        case rel => exact ⟨(fval .quo x4_3 4611686018427387904), (wrap64 (x5_3 + 1)), (by first | rfl | (simp; done) | (simp [*]; done)), (by first | rfl | (simp; done) | (simp [*]; done)), H', ⟨by have := HJ2.out; have := HJ6.out; have := HK3.out; omega⟩, by repeat (first | exact Drawn0.refl _ | apply Drawn0.step)⟩
                      · rw [if_neg c12] at H
                        exact absurd H (by simp)
                    · rw [if_neg c11] at H
                      have c11b0 : (fge x4_3 4611686018427387904) = false := by simpa using c11
                      clear c11
                      have H' := Aside0.mk H
                      clear H
                      go_wp2
                      go_loopg [4, 5] k3 (fun kq v4 v5 w' => ∃ (x4_4 : Nat) (x5_4 : Int), v4 = .float .f64 x4_4 ∧ v5 = .int .i64 x5_4 ∧ Aside0 (spec_FloatBits.l1 kq x3_6 x4_4 x5_4 = some r) ∧ Aside0 (kq ≤ k3) ∧ Drawn0 w w')
                      case atStart => exact ⟨(x4_3), (x5_3), (by first | rfl | (simp; done) | (simp [*]; done)), (by first | rfl | (simp; done) | (simp [*]; done)), H', ⟨Nat.le_refl _⟩, by repeat (first | exact Drawn0.refl _ | apply Drawn0.step)⟩
                      case round =>
                        clear H'
                        try clear c1
                        try clear c2
                        try clear c2b0
                        try clear p2
                        try clear c3
                        try clear c4
                        try clear c4b0
                        try clear c5
                        try clear c5b0
                        try clear c6
                        try clear c6b0
                        try clear p6
                        try clear c8
                        try clear c9
                        try clear c9b0
                        try clear c10
                        try clear c10b0
                        try clear c11
                        try clear c11b0
                        try clear c12
                        try clear c12b0
                        try clear p2
                        obtain ⟨x4_4, x5_4, rfl, rfl, HA, HK4, ⟨m4, rfl⟩⟩ := hrel
                        cases gk with
                        | zero => exact absurd HA.out (by simp [spec_FloatBits.l1])
                        | succ k4 =>
                          have H := HA.out
                          clear HA
                          simp only [spec_FloatBits.l1] at H
                          by_cases c13 : (fls x4_4 4607182418800017408) = true
                          · rw [if_pos c13] at H
                            have c13b0 : (fls x4_4 4607182418800017408) = true := c13
                            clear c13
                            by_cases c14 : x5_4 > (-1022)
                            · rw [if_pos c14] at H
                              have c14b0 : decide ((-1022) < x5_4) = true := decide_eq_true c14
                              clear c14
                              by_cases c15 : (fok .mul x4_4 4611686018427387904) = true
                              · rw [if_pos c15] at H
                                have c15b0 : (fok .mul x4_4 4611686018427387904) = true := c15
                                clear c15
                                have H' := Aside0.mk H
                                clear H
                                go_wp2
                                go_roundg k4
                                case measure => have := HJ2.out; have := HJ6.out; have := HK3.out; have := HK4.out; omega
                                case rel => exact ⟨(fval .mul x4_4 4611686018427387904), (wrap64 (x5_4 - 1)), (by first | rfl | (simp; done) | (simp [*]; done)), (by first | rfl | (simp; done) | (simp [*]; done)), H', ⟨by have := HJ2.out; have := HJ6.out; have := HK3.out; have := HK4.out; omega⟩, by repeat (first | exact Drawn0.refl _ | apply Drawn0.step)⟩
                              · rw [if_neg c15] at H
                                exact absurd H (by simp)
                            · rw [if_neg c14] at H
                              have c14b0 : decide ((-1022) < x5_4) = false := decide_eq_false c14
                              clear c14
                              by_cases c16 : (fok .mul x4_4 4841369599423283200) = true
                              · rw [if_pos c16] at H
                                have c16b0 : (fok .mul x4_4 4841369599423283200) = true := c16
                                clear c16
                                by_cases c17 : (fiok .u64 (fval .mul x4_4 4841369599423283200)) = true
                                · rw [if_pos c17] at H
                                  have c17b0 : (fiok .u64 (fval .mul x4_4 4841369599423283200)) = true := c17
                                  clear c17
                                  obtain rfl := Option.some.inj H
                                  go_wp2
                                  go_ret
                                  exact ⟨by first | rfl | (simp; done) | (simp [*]; done), by repeat (first | exact Drawn0.refl _ | apply Drawn0.step)⟩
                                · rw [if_neg c17] at H
                                  exact absurd H (by simp)
                              · rw [if_neg c16] at H
                                exact absurd H (by simp)
                          · rw [if_neg c13] at H
                            have c13b0 : (fls x4_4 4607182418800017408) = false := by simpa using c13
                            clear c13
                            by_cases c18 : (fok .sub x4_4 4607182418800017408) = true
                            · rw [if_pos c18] at H
                              have c18b0 : (fok .sub x4_4 4607182418800017408) = true := c18
                              clear c18
                              by_cases c19 : (fok .mul (fval .sub x4_4 4607182418800017408) 4841369599423283200) = true
                              · rw [if_pos c19] at H
                                have c19b0 : (fok .mul (fval .sub x4_4 4607182418800017408) 4841369599423283200) = true := c19
                                clear c19
                                by_cases c20 : (fiok .u64 (fval .mul (fval .sub x4_4 4607182418800017408) 4841369599423283200)) = true
                                · rw [if_pos c20] at H
                                  have c20b0 : (fiok .u64 (fval .mul (fval .sub x4_4 4607182418800017408) 4841369599423283200)) = true := c20
                                  clear c20
                                  obtain rfl := Option.some.inj H
                                  go_wp2
                                  go_ret
                                  exact ⟨by first | rfl | (simp; done) | (simp [*]; done), by repeat (first | exact Drawn0.refl _ | apply Drawn0.step)⟩
                                · rw [if_neg c20] at H
                                  exact absurd H (by simp)
                              · rw [if_neg c19] at H
                                exact absurd H (by simp)
                            · rw [if_neg c18] at H
                              exact absurd H (by simp)
  · rw [if_neg c2] at H
    have c2b0 : (feq a0 a0) = false := by simpa using c2
    clear c2
    obtain rfl := Option.some.inj H
    go_enter Try.func30, Try.ntmps30
    go_wp2
    go_ret
    exact ⟨by first | rfl | (simp; done) | (simp [*]; done), by repeat (first | exact Drawn0.refl _ | apply Drawn0.step)⟩
theorem spec_FloatBits.inv0 (k : Nat) (a0 : Nat) : spec_FloatBits.f k (cn a0) = spec_FloatBits.f k a0 := by
  by_cases h_ : nanw a0
  · unfold spec_FloatBits.f
    first
      | (simp only [cn_zero, feq_cn_l, feq_cn_r, fls_cn_l, fls_cn_r, fgt_cn_l, fgt_cn_r, fle_cn_l, fle_cn_r, fge_cn_l, fge_cn_r]; done)
      | (simp only [cn_zero, feq_cn_l, feq_cn_r, fls_cn_l, fls_cn_r, fgt_cn_l, fgt_cn_r, fle_cn_l, fle_cn_r, fge_cn_l, fge_cn_r, feq_nan_l h_, feq_nan_l (cn_nanw h_), Bool.false_eq_true, if_false]; done)
      | (simp [feq_nan_l h_, feq_nan_l (cn_nanw h_)]; done)
  · rw [cn_num h_]


/-! ### spec_ItemOk: function 27 -/
mutual
def spec_ItemOk.j0 : Nat → Bool → Int → Int → Nat → List Int → Option (Bool)
  | 0, _, _, _, _, _ => none
  | k + 1, x16, x103000, x103001, x103002, x103003 => if x16 = true then (some false) else (if x103000 = 1 then (spec_ItemOk.j1 k false x103000 x103001 x103002 x103003) else (spec_ItemOk.j1 k (x103001 != 0) x103000 x103001 x103002 x103003))
def spec_ItemOk.j1 : Nat → Bool → Int → Int → Nat → List Int → Option (Bool)
  | 0, _, _, _, _, _ => none
  | k + 1, x24, x103000, x103001, x103002, x103003 => if x24 = true then (some false) else (if x103000 = 2 then (if x103000 = 3 then (some true) else (some ((x103003.length : Int) == 0))) else ((spec_FloatBits.f k x103002).bind fun t103 => (if t103 = 0 then (if x103000 = 3 then (some true) else (some ((x103003.length : Int) == 0))) else (some false))))
end
def spec_ItemOk.f (k : Nat) (a0_0 : Int) (a0_1 : Int) (a0_2 : Nat) (l0_3 : List Int) : Option (Bool) := if a0_0 < 0 then (spec_ItemOk.j0 k true a0_0 a0_1 a0_2 l0_3) else (if a0_0 > 3 then (spec_ItemOk.j0 k true a0_0 a0_1 a0_2 l0_3) else (spec_ItemOk.j0 k (decide ((l0_3.length : Int) > 40)) a0_0 a0_1 a0_2 l0_3))
theorem spec_ItemOk.mono_l : ∀ k, (∀ y0 y1 y2 y3 y4, LeO (spec_ItemOk.j0 k y0 y1 y2 y3 y4) (spec_ItemOk.j0 (k + 1) y0 y1 y2 y3 y4)) ∧ (∀ y0 y1 y2 y3 y4, LeO (spec_ItemOk.j1 k y0 y1 y2 y3 y4) (spec_ItemOk.j1 (k + 1) y0 y1 y2 y3 y4))
  | 0 => ⟨fun _ _ _ _ _ r h => by simp [spec_ItemOk.j0] at h, fun _ _ _ _ _ r h => by simp [spec_ItemOk.j1] at h⟩
  | k + 1 => by
    obtain ⟨ih0, ih1⟩ := spec_ItemOk.mono_l k
    refine ⟨?_, ?_⟩
    · intro y0 y1 y2 y3 y4
      unfold spec_ItemOk.j0
      repeat' first
      | (with_reducible exact ih0 _ _ _ _ _)
      | (with_reducible exact ih1 _ _ _ _ _)
      | (with_reducible exact spec_FloatBits.mono _ _)
      | (with_reducible exact LeO.refl _)
      | (with_reducible exact LeO.none _)
      | (with_reducible refine LeO.ite ?_ ?_)
      | (with_reducible refine LeO.bind ?_ (fun _ => ?_))
      | exact ih0 _ _ _ _ _
      | exact ih1 _ _ _ _ _
      | exact spec_FloatBits.mono _ _
      | exact LeO.none _
      | refine LeO.ite ?_ ?_
      | refine LeO.bind ?_ (fun _ => ?_)
    · intro y0 y1 y2 y3 y4
      unfold spec_ItemOk.j1
      repeat' first
      | (with_reducible exact ih0 _ _ _ _ _)
      | (with_reducible exact ih1 _ _ _ _ _)
      | (with_reducible exact spec_FloatBits.mono _ _)
      | (with_reducible exact LeO.refl _)
      | (with_reducible exact LeO.none _)
      | (with_reducible refine LeO.ite ?_ ?_)
      | (with_reducible refine LeO.bind ?_ (fun _ => ?_))
      | exact ih0 _ _ _ _ _
      | exact ih1 _ _ _ _ _
      | exact spec_FloatBits.mono _ _
      | exact LeO.none _
      | refine LeO.ite ?_ ?_
      | refine LeO.bind ?_ (fun _ => ?_)
theorem spec_ItemOk.mono : ∀ a0 a1 a2 a3 k, LeO (spec_ItemOk.f k a0 a1 a2 a3) (spec_ItemOk.f (k + 1) a0 a1 a2 a3) := by
  intro a0 a1 a2 a3 k
  obtain ⟨ih0, ih1⟩ := spec_ItemOk.mono_l k
  unfold spec_ItemOk.f
  repeat' first
      | (with_reducible exact ih0 _ _ _ _ _)
      | (with_reducible exact ih1 _ _ _ _ _)
      | (with_reducible exact spec_FloatBits.mono _ _)
      | (with_reducible exact LeO.refl _)
      | (with_reducible exact LeO.none _)
      | (with_reducible refine LeO.ite ?_ ?_)
      | (with_reducible refine LeO.bind ?_ (fun _ => ?_))
      | exact ih0 _ _ _ _ _
      | exact ih1 _ _ _ _ _
      | exact spec_FloatBits.mono _ _
      | exact LeO.none _
      | refine LeO.ite ?_ ?_
      | refine LeO.bind ?_ (fun _ => ?_)
set_option maxHeartbeats 8000000 in
set_option maxRecDepth 100000 in
theorem spec_ItemOk.calls (k : Nat) (a0_0 : Int) (a0_1 : Int) (a0_2 : Nat) (A0_3 : Option Addr) (c0_3 : Nat) (l0_3 : List Int) (r : Bool) (w : World) (hr0_3 : Kd.C (Kd.int .u8) w A0_3 l0_3.length l0_3) (hc0_3 : l0_3.length ≤ c0_3) (h : spec_ItemOk.f k a0_0 a0_1 a0_2 l0_3 = some r) :
    Calls Try.prog 27 #[.agg #[.int .i64 a0_0, .int .i64 a0_1, .float .f64 a0_2, .slice A0_3 l0_3.length c0_3]] w fun e w' => e = .returned (.bool r) ∧ Below w.heap.size w w' := by
  have hu25 := Try.underlying25
  have HR0_3 := Aside0.mk hr0_3
  have HC0_3 := Aside0.mk hc0_3
  clear hr0_3 hc0_3
  have HB := Aside0.mk (Below.refl w.heap.size w)
  have H : (if a0_0 < 0 then (spec_ItemOk.j0 k true a0_0 a0_1 a0_2 l0_3) else (if a0_0 > 3 then (spec_ItemOk.j0 k true a0_0 a0_1 a0_2 l0_3) else (spec_ItemOk.j0 k (decide ((l0_3.length : Int) > 40)) a0_0 a0_1 a0_2 l0_3))) = some r := h
  clear h
  have HC2 := Aside0.mk H
  clear H
  go_enter Try.func27, Try.ntmps27
  go_upto_region 1 with (first | ((with_reducible refine gate_dst (N := 1) rfl ?_); (try (refine gate_guard (by rfl) ?_; dsimp only)); refine box_event ?hg (N := 1) ?hd (cs := #[.int .i64 a0_0, .int .i64 a0_1, .float .f64 a0_2, .slice A0_3 l0_3.length c0_3]) (t := 25) ?hr ?_; (case hd => rfl); (case hg => rfl); (case hr => first | (go_simp; done) | (go_simp; rfl)); intro gb102 hg w3 hbox hb; have n0_ := Aside0.mk (below_step (by repeat (first | (with_reducible first | exact HB.out | apply below_alloc | apply pw_below_drewN | apply below_drew1) | exact HB.out)) hb); have n1_ := Aside0.mk (hbox); have n2_ := Aside0.mk ((by rw [hg]; exact (below_size (by repeat (first | (with_reducible first | exact HB.out | apply below_alloc | apply pw_below_drewN | apply below_drew1) | exact HB.out))) : w.heap.size ≤ gb102)); have n3_ := Aside0.mk ((by rw [hg]; exact (below_size (by repeat (first | (with_reducible first | exact HB.out | apply below_alloc | apply pw_below_drewN | apply below_drew1) | exact HB.out))) : w.heap.size ≤ gb102)); clear HB; have HB := n0_; have BK102 := n1_; have GW102 := n2_; have GE102 := n3_; clear n0_ n1_ n2_ n3_; clear hb hbox hg))
  (try simp only [Act.put, List.setIfInBounds_toArray, List.set_cons_zero, List.set_cons_succ])
  go_cut [16] (fun v16 wc => ∃ (kq : Nat) (x16_1 : Bool), v16 = .bool x16_1 ∧ Aside0 (spec_ItemOk.j0 kq x16_1 a0_0 a0_1 a0_2 l0_3 = some r) ∧ Aside0 (kq ≤ k) ∧ Aside0 (wc.heap[gb102]? = some (.cells #[.int .i64 a0_0, .int .i64 a0_1, .float .f64 a0_2, (.slice A0_3 l0_3.length c0_3)] 25 (0, 0))) ∧ Aside0 (Below w.heap.size w wc))
  case first =>
    have H := HC2.out
    clear HC2
    by_cases c4 : a0_0 < 0
    · rw [if_pos c4] at H
      have c4b0 : decide (a0_0 < 0) = true := decide_eq_true c4
      clear c4
      (first | rw [c4b0] | (simp only [i64_w, i32_w]; rw [c4b0]) | skip)
      have H' := Aside0.mk H
      clear H
      have hcz5_0 : w3.cell? ⟨gb102, 0, none⟩ = some (.int .i64 a0_0) := (blk_cell BK102.out 0).trans rfl
      have hcz5_1 : w3.cell? ⟨gb102, 1, none⟩ = some (.int .i64 a0_1) := (blk_cell BK102.out 1).trans rfl
      have hcz5_2 : w3.cell? ⟨gb102, 2, none⟩ = some (.float .f64 a0_2) := (blk_cell BK102.out 2).trans rfl
      have hcz5_3 : w3.cell? ⟨gb102, 3, none⟩ = some (.slice A0_3 l0_3.length c0_3) := (blk_cell BK102.out 3).trans rfl
      have hfz5_0 := blk_frozen BK102.out 0
      have hfz5_1 := blk_frozen BK102.out 1
      have hfz5_2 := blk_frozen BK102.out 2
      have hfz5_3 := blk_frozen BK102.out 3
      go_wp2
      go_meet
      case rel => exact ⟨_, (true), (by first | rfl | (simp; done) | (simp [*]; done)), H', ⟨by first | omega | exact Nat.le_refl _⟩, ⟨by (with_reducible repeat (first | refine blk_drewN ?_ _ | refine blk_drew ?_ | refine blk_alloc ?_ _)); exact BK102.out⟩, ⟨by repeat (first | (with_reducible first | exact HB.out | apply below_alloc | apply pw_below_drewN | apply below_drew1 | refine below_set ?_ GE102.out) | exact HB.out)⟩⟩
    · rw [if_neg c4] at H
      have c4b0 : decide (a0_0 < 0) = false := decide_eq_false c4
      clear c4
      (first | rw [c4b0] | (simp only [i64_w, i32_w]; rw [c4b0]) | skip)
      by_cases c6 : a0_0 > 3
      · rw [if_pos c6] at H
        have c6b0 : decide (3 < a0_0) = true := decide_eq_true c6
        clear c6
        have H' := Aside0.mk H
        clear H
        have hcz7_0 : w3.cell? ⟨gb102, 0, none⟩ = some (.int .i64 a0_0) := (blk_cell BK102.out 0).trans rfl
        have hcz7_1 : w3.cell? ⟨gb102, 1, none⟩ = some (.int .i64 a0_1) := (blk_cell BK102.out 1).trans rfl
        have hcz7_2 : w3.cell? ⟨gb102, 2, none⟩ = some (.float .f64 a0_2) := (blk_cell BK102.out 2).trans rfl
        have hcz7_3 : w3.cell? ⟨gb102, 3, none⟩ = some (.slice A0_3 l0_3.length c0_3) := (blk_cell BK102.out 3).trans rfl
        have hfz7_0 := blk_frozen BK102.out 0
        have hfz7_1 := blk_frozen BK102.out 1
        have hfz7_2 := blk_frozen BK102.out 2
        have hfz7_3 := blk_frozen BK102.out 3
        go_wp2
        go_meet
        case rel => exact ⟨_, (true), (by first | rfl | (simp; done) | (simp [*]; done)), H', ⟨by first | omega | exact Nat.le_refl _⟩, ⟨by (with_reducible repeat (first | refine blk_drewN ?_ _ | refine blk_drew ?_ | refine blk_alloc ?_ _)); exact BK102.out⟩, ⟨by repeat (first | (with_reducible first | exact HB.out | apply below_alloc | apply pw_below_drewN | apply below_drew1 | refine below_set ?_ GE102.out) | exact HB.out)⟩⟩
      · rw [if_neg c6] at H
        have c6b0 : decide (3 < a0_0) = false := decide_eq_false c6
        clear c6
        have H' := Aside0.mk H
        clear H
        have hcz8_0 : w3.cell? ⟨gb102, 0, none⟩ = some (.int .i64 a0_0) := (blk_cell BK102.out 0).trans rfl
        have hcz8_1 : w3.cell? ⟨gb102, 1, none⟩ = some (.int .i64 a0_1) := (blk_cell BK102.out 1).trans rfl
        have hcz8_2 : w3.cell? ⟨gb102, 2, none⟩ = some (.float .f64 a0_2) := (blk_cell BK102.out 2).trans rfl
        have hcz8_3 : w3.cell? ⟨gb102, 3, none⟩ = some (.slice A0_3 l0_3.length c0_3) := (blk_cell BK102.out 3).trans rfl
        have hfz8_0 := blk_frozen BK102.out 0
        have hfz8_1 := blk_frozen BK102.out 1
        have hfz8_2 := blk_frozen BK102.out 2
        have hfz8_3 := blk_frozen BK102.out 3
        go_wp2
        go_meet
        case rel => exact ⟨_, (decide ((l0_3.length : Int) > 40)), (by first | rfl | (simp; done) | (simp [*]; done)), H', ⟨by first | omega | exact Nat.le_refl _⟩, ⟨by (with_reducible repeat (first | refine blk_drewN ?_ _ | refine blk_drew ?_ | refine blk_alloc ?_ _)); exact BK102.out⟩, ⟨by repeat (first | (with_reducible first | exact HB.out | apply below_alloc | apply pw_below_drewN | apply below_drew1 | refine below_set ?_ GE102.out) | exact HB.out)⟩⟩
  case rest =>
    clear HC2
    try clear c2
    try clear p2
    try clear c4
    try clear c4b0
    try clear c6
    try clear c6b0
    try clear hcz5_0
    try clear hcz5_1
    try clear hcz5_2
    try clear hcz5_3
    try clear hcz7_0
    try clear hcz7_1
    try clear hcz7_2
    try clear hcz7_3
    try clear hcz8_0
    try clear hcz8_1
    try clear hcz8_2
    try clear hcz8_3
    try clear hfz5_0
    try clear hfz5_1
    try clear hfz5_2
    try clear hfz5_3
    try clear hfz7_0
    try clear hfz7_1
    try clear hfz7_2
    try clear hfz7_3
    try clear hfz8_0
    try clear hfz8_1
    try clear hfz8_2
    try clear hfz8_3
    obtain ⟨kq, x16_1, rfl, HA, HJ1, BK102, HB⟩ := hcut
    cases kq with
    | zero => exact absurd HA.out (by simp [spec_ItemOk.j0])
    | succ kj1 =>
      have H := HA.out
      clear HA
      simp only [spec_ItemOk.j0] at H
      by_cases c9 : x16_1 = true
      · subst c9
        have H1 : (some false) = some r := by rw [if_pos rfl] at H; exact H
        clear H
        have H := H1
        clear H1
        obtain rfl := Option.some.inj H
        go_wp2
        go_ret
        exact ⟨by first | rfl | (simp [errW_none, errW_some] <;> rfl) | (simp [*, errW_none, errW_some] <;> rfl), by repeat (first | (with_reducible first | exact HB.out | apply below_alloc | apply pw_below_drewN | apply below_drew1 | refine below_set ?_ GE102.out) | exact HB.out)⟩
      · replace c9 := Bool.eq_false_iff.mpr c9
        subst c9
        have H1 : (if a0_0 = 1 then (spec_ItemOk.j1 kj1 false a0_0 a0_1 a0_2 l0_3) else (spec_ItemOk.j1 kj1 (a0_1 != 0) a0_0 a0_1 a0_2 l0_3)) = some r := by rw [if_neg (show ¬ (false = true) by decide)] at H; exact H
        clear H
        have H := H1
        clear H1
        have HC10 := Aside0.mk H
        clear H
        go_upto_region 3 with (fail)
        go_cut [24] (fun v24 wc => ∃ (kq : Nat) (x24_9 : Bool), v24 = .bool x24_9 ∧ Aside0 (spec_ItemOk.j1 kq x24_9 a0_0 a0_1 a0_2 l0_3 = some r) ∧ Aside0 (kq ≤ kj1) ∧ Aside0 (wc.heap[gb102]? = some (.cells #[.int .i64 a0_0, .int .i64 a0_1, .float .f64 a0_2, (.slice A0_3 l0_3.length c0_3)] 25 (0, 0))) ∧ Aside0 (Below w.heap.size w wc))
        case first =>
          have H := HC10.out
          clear HC10
          by_cases c11 : a0_0 = 1
          · rw [if_pos c11] at H
            have c11b0 : (a0_0 == 1) = true := beq_iff_eq.mpr c11
            have c11b1 : (a0_0 != 1) = false := bne_eq_false_iff_eq.mpr c11
            clear c11
            (first | rw [c11b0] | (simp only [i64_w, i32_w]; rw [c11b0]) | skip)
            have H' := Aside0.mk H
            clear H
            have hcz12_0 : wc.cell? ⟨gb102, 0, none⟩ = some (.int .i64 a0_0) := (blk_cell BK102.out 0).trans rfl
            have hcz12_1 : wc.cell? ⟨gb102, 1, none⟩ = some (.int .i64 a0_1) := (blk_cell BK102.out 1).trans rfl
            have hcz12_2 : wc.cell? ⟨gb102, 2, none⟩ = some (.float .f64 a0_2) := (blk_cell BK102.out 2).trans rfl
            have hcz12_3 : wc.cell? ⟨gb102, 3, none⟩ = some (.slice A0_3 l0_3.length c0_3) := (blk_cell BK102.out 3).trans rfl
            have hfz12_0 := blk_frozen BK102.out 0
            have hfz12_1 := blk_frozen BK102.out 1
            have hfz12_2 := blk_frozen BK102.out 2
            have hfz12_3 := blk_frozen BK102.out 3
            go_wp2
            go_meet
            case rel => exact ⟨_, (false), (by first | rfl | (simp; done) | (simp [*]; done)), H', ⟨by have := HJ1.out; first | omega | exact Nat.le_refl _⟩, ⟨by (with_reducible repeat (first | refine blk_drewN ?_ _ | refine blk_drew ?_ | refine blk_alloc ?_ _)); exact BK102.out⟩, ⟨by repeat (first | (with_reducible first | exact HB.out | apply below_alloc | apply pw_below_drewN | apply below_drew1 | refine below_set ?_ GE102.out) | exact HB.out)⟩⟩
          · rw [if_neg c11] at H
            have c11b0 : (a0_0 == 1) = false := beq_eq_false_iff_ne.mpr c11
            have c11b1 : (a0_0 != 1) = true := bne_iff_ne.mpr c11
            (first | rw [c11b0] | (simp only [i64_w, i32_w]; rw [c11b0]) | skip)
            have H' := Aside0.mk H
            clear H
            have hcz13_0 : wc.cell? ⟨gb102, 0, none⟩ = some (.int .i64 a0_0) := (blk_cell BK102.out 0).trans rfl
            have hcz13_1 : wc.cell? ⟨gb102, 1, none⟩ = some (.int .i64 a0_1) := (blk_cell BK102.out 1).trans rfl
            have hcz13_2 : wc.cell? ⟨gb102, 2, none⟩ = some (.float .f64 a0_2) := (blk_cell BK102.out 2).trans rfl
            have hcz13_3 : wc.cell? ⟨gb102, 3, none⟩ = some (.slice A0_3 l0_3.length c0_3) := (blk_cell BK102.out 3).trans rfl
            have hfz13_0 := blk_frozen BK102.out 0
            have hfz13_1 := blk_frozen BK102.out 1
            have hfz13_2 := blk_frozen BK102.out 2
            have hfz13_3 := blk_frozen BK102.out 3
            go_wp2
            go_meet
            case rel => exact ⟨_, ((a0_1 != 0)), (by first | rfl | (simp; done) | (simp [*]; done)), H', ⟨by have := HJ1.out; first | omega | exact Nat.le_refl _⟩, ⟨by (with_reducible repeat (first | refine blk_drewN ?_ _ | refine blk_drew ?_ | refine blk_alloc ?_ _)); exact BK102.out⟩, ⟨by repeat (first | (with_reducible first | exact HB.out | apply below_alloc | apply pw_below_drewN | apply below_drew1 | refine below_set ?_ GE102.out) | exact HB.out)⟩⟩
        case rest =>
          clear HC10
          try clear c1
          try clear c2
          try clear p2
          try clear c4
          try clear c4b0
          try clear c6
          try clear c6b0
          try clear c9
          try clear c11
          try clear c11b0
          try clear c11b1
          try clear hcz12_0
          try clear hcz12_1
          try clear hcz12_2
          try clear hcz12_3
          try clear hcz13_0
          try clear hcz13_1
          try clear hcz13_2
          try clear hcz13_3
          try clear hcz5_0
          try clear hcz5_1
          try clear hcz5_2
          try clear hcz5_3
          try clear hcz7_0
          try clear hcz7_1
          try clear hcz7_2
          try clear hcz7_3
          try clear hcz8_0
          try clear hcz8_1
          try clear hcz8_2
          try clear hcz8_3
          try clear hfz12_0
          try clear hfz12_1
          try clear hfz12_2
          try clear hfz12_3
          try clear hfz13_0
          try clear hfz13_1
          try clear hfz13_2
          try clear hfz13_3
          try clear hfz5_0
          try clear hfz5_1
          try clear hfz5_2
          try clear hfz5_3
          try clear hfz7_0
          try clear hfz7_1
          try clear hfz7_2
          try clear hfz7_3
          try clear hfz8_0
          try clear hfz8_1
          try clear hfz8_2
          try clear hfz8_3
          try clear p2
          obtain ⟨kq, x24_9, rfl, HA, HJ9, BK102, HB⟩ := hcut
          cases kq with
          | zero => exact absurd HA.out (by simp [spec_ItemOk.j1])
          | succ kj9 =>
            have H := HA.out
            clear HA
            simp only [spec_ItemOk.j1] at H
            by_cases c14 : x24_9 = true
            · subst c14
              have H1 : (some false) = some r := by rw [if_pos rfl] at H; exact H
              clear H
              have H := H1
              clear H1
              obtain rfl := Option.some.inj H
              go_wp2
              go_ret
              exact ⟨by first | rfl | (simp [errW_none, errW_some] <;> rfl) | (simp [*, errW_none, errW_some] <;> rfl), by repeat (first | (with_reducible first | exact HB.out | apply below_alloc | apply pw_below_drewN | apply below_drew1 | refine below_set ?_ GE102.out) | exact HB.out)⟩
            · replace c14 := Bool.eq_false_iff.mpr c14
              subst c14
              have H1 : (if a0_0 = 2 then (if a0_0 = 3 then (some true) else (some ((l0_3.length : Int) == 0))) else ((spec_FloatBits.f kj9 a0_2).bind fun t103 => (if t103 = 0 then (if a0_0 = 3 then (some true) else (some ((l0_3.length : Int) == 0))) else (some false)))) = some r := by rw [if_neg (show ¬ (false = true) by decide)] at H; exact H
              clear H
              have H := H1
              clear H1
              by_cases c15 : a0_0 = 2
              · rw [if_pos c15] at H
                have c15b0 : (a0_0 == 2) = true := beq_iff_eq.mpr c15
                have c15b1 : (a0_0 != 2) = false := bne_eq_false_iff_eq.mpr c15
                clear c15
                by_cases c16 : a0_0 = 3
                · rw [if_pos c16] at H
                  have c16b0 : (a0_0 == 3) = true := beq_iff_eq.mpr c16
                  have c16b1 : (a0_0 != 3) = false := bne_eq_false_iff_eq.mpr c16
                  clear c16
                  obtain rfl := Option.some.inj H
                  have hcz17_0 : wc.cell? ⟨gb102, 0, none⟩ = some (.int .i64 a0_0) := (blk_cell BK102.out 0).trans rfl
                  have hcz17_1 : wc.cell? ⟨gb102, 1, none⟩ = some (.int .i64 a0_1) := (blk_cell BK102.out 1).trans rfl
                  have hcz17_2 : wc.cell? ⟨gb102, 2, none⟩ = some (.float .f64 a0_2) := (blk_cell BK102.out 2).trans rfl
                  have hcz17_3 : wc.cell? ⟨gb102, 3, none⟩ = some (.slice A0_3 l0_3.length c0_3) := (blk_cell BK102.out 3).trans rfl
                  have hfz17_0 := blk_frozen BK102.out 0
                  have hfz17_1 := blk_frozen BK102.out 1
                  have hfz17_2 := blk_frozen BK102.out 2
                  have hfz17_3 := blk_frozen BK102.out 3
                  go_wp2
                  go_ret
                  exact ⟨by first | rfl | (simp [errW_none, errW_some] <;> rfl) | (simp [*, errW_none, errW_some] <;> rfl), by repeat (first | (with_reducible first | exact HB.out | apply below_alloc | apply pw_below_drewN | apply below_drew1 | refine below_set ?_ GE102.out) | exact HB.out)⟩
                · rw [if_neg c16] at H
                  have c16b0 : (a0_0 == 3) = false := beq_eq_false_iff_ne.mpr c16
                  have c16b1 : (a0_0 != 3) = true := bne_iff_ne.mpr c16
                  obtain rfl := Option.some.inj H
                  have hcz18_0 : wc.cell? ⟨gb102, 0, none⟩ = some (.int .i64 a0_0) := (blk_cell BK102.out 0).trans rfl
                  have hcz18_1 : wc.cell? ⟨gb102, 1, none⟩ = some (.int .i64 a0_1) := (blk_cell BK102.out 1).trans rfl
                  have hcz18_2 : wc.cell? ⟨gb102, 2, none⟩ = some (.float .f64 a0_2) := (blk_cell BK102.out 2).trans rfl
                  have hcz18_3 : wc.cell? ⟨gb102, 3, none⟩ = some (.slice A0_3 l0_3.length c0_3) := (blk_cell BK102.out 3).trans rfl
                  have hfz18_0 := blk_frozen BK102.out 0
                  have hfz18_1 := blk_frozen BK102.out 1
                  have hfz18_2 := blk_frozen BK102.out 2
                  have hfz18_3 := blk_frozen BK102.out 3
                  go_wp2
                  go_ret
                  exact ⟨by first | rfl | (simp [errW_none, errW_some] <;> rfl) | (simp [*, errW_none, errW_some] <;> rfl), by repeat (first | (with_reducible first | exact HB.out | apply below_alloc | apply pw_below_drewN | apply below_drew1 | refine below_set ?_ GE102.out) | exact HB.out)⟩
              · rw [if_neg c15] at H
                have c15b0 : (a0_0 == 2) = false := beq_eq_false_iff_ne.mpr c15
                have c15b1 : (a0_0 != 2) = true := bne_iff_ne.mpr c15
                replace H := Option.bind_eq_some_iff.mp H
                obtain ⟨t103, A190, H⟩ := H
                replace H : (if t103 = 0 then (if a0_0 = 3 then (some true) else (some ((l0_3.length : Int) == 0))) else (some false)) = some r := H
                have A19 := Aside0.mk A190
                clear A190
                by_cases c20 : t103 = 0
                · rw [if_pos c20] at H
                  have c20b0 : (t103 == 0) = true := beq_iff_eq.mpr c20
                  have c20b1 : (t103 != 0) = false := bne_eq_false_iff_eq.mpr c20
                  clear c20
                  by_cases c21 : a0_0 = 3
                  · rw [if_pos c21] at H
                    have c21b0 : (a0_0 == 3) = true := beq_iff_eq.mpr c21
                    have c21b1 : (a0_0 != 3) = false := bne_eq_false_iff_eq.mpr c21
                    clear c21
                    obtain rfl := Option.some.inj H
                    have hcz22_0 : wc.cell? ⟨gb102, 0, none⟩ = some (.int .i64 a0_0) := (blk_cell BK102.out 0).trans rfl
                    have hcz22_1 : wc.cell? ⟨gb102, 1, none⟩ = some (.int .i64 a0_1) := (blk_cell BK102.out 1).trans rfl
                    have hcz22_2 : wc.cell? ⟨gb102, 2, none⟩ = some (.float .f64 a0_2) := (blk_cell BK102.out 2).trans rfl
                    have hcz22_3 : wc.cell? ⟨gb102, 3, none⟩ = some (.slice A0_3 l0_3.length c0_3) := (blk_cell BK102.out 3).trans rfl
                    have hfz22_0 := blk_frozen BK102.out 0
                    have hfz22_1 := blk_frozen BK102.out 1
                    have hfz22_2 := blk_frozen BK102.out 2
                    have hfz22_3 := blk_frozen BK102.out 3
                    go_wp2_with (first | (go_at_call 30; (with_reducible refine (spec_FloatBits.calls kj9 a0_2 t103 _ A19.out).mono ?_); rintro e w' ⟨rfl, ⟨nd, rfl⟩⟩))
                    go_ret
                    exact ⟨by first | rfl | (simp [errW_none, errW_some] <;> rfl) | (simp [*, errW_none, errW_some] <;> rfl), by repeat (first | (with_reducible first | exact HB.out | apply below_alloc | apply pw_below_drewN | apply below_drew1 | refine below_set ?_ GE102.out) | exact HB.out)⟩
                  · rw [if_neg c21] at H
                    have c21b0 : (a0_0 == 3) = false := beq_eq_false_iff_ne.mpr c21
                    have c21b1 : (a0_0 != 3) = true := bne_iff_ne.mpr c21
                    obtain rfl := Option.some.inj H
                    have hcz23_0 : wc.cell? ⟨gb102, 0, none⟩ = some (.int .i64 a0_0) := (blk_cell BK102.out 0).trans rfl
                    have hcz23_1 : wc.cell? ⟨gb102, 1, none⟩ = some (.int .i64 a0_1) := (blk_cell BK102.out 1).trans rfl
                    have hcz23_2 : wc.cell? ⟨gb102, 2, none⟩ = some (.float .f64 a0_2) := (blk_cell BK102.out 2).trans rfl
                    have hcz23_3 : wc.cell? ⟨gb102, 3, none⟩ = some (.slice A0_3 l0_3.length c0_3) := (blk_cell BK102.out 3).trans rfl
                    have hfz23_0 := blk_frozen BK102.out 0
                    have hfz23_1 := blk_frozen BK102.out 1
                    have hfz23_2 := blk_frozen BK102.out 2
                    have hfz23_3 := blk_frozen BK102.out 3
                    go_wp2_with (first | (go_at_call 30; (with_reducible refine (spec_FloatBits.calls kj9 a0_2 t103 _ A19.out).mono ?_); rintro e w' ⟨rfl, ⟨nd, rfl⟩⟩))
                    go_ret
                    exact ⟨by first | rfl | (simp [errW_none, errW_some] <;> rfl) | (simp [*, errW_none, errW_some] <;> rfl), by repeat (first | (with_reducible first | exact HB.out | apply below_alloc | apply pw_below_drewN | apply below_drew1 | refine below_set ?_ GE102.out) | exact HB.out)⟩
                · rw [if_neg c20] at H
                  have c20b0 : (t103 == 0) = false := beq_eq_false_iff_ne.mpr c20
                  have c20b1 : (t103 != 0) = true := bne_iff_ne.mpr c20
                  obtain rfl := Option.some.inj H
                  have hcz24_0 : wc.cell? ⟨gb102, 0, none⟩ = some (.int .i64 a0_0) := (blk_cell BK102.out 0).trans rfl
                  have hcz24_1 : wc.cell? ⟨gb102, 1, none⟩ = some (.int .i64 a0_1) := (blk_cell BK102.out 1).trans rfl
                  have hcz24_2 : wc.cell? ⟨gb102, 2, none⟩ = some (.float .f64 a0_2) := (blk_cell BK102.out 2).trans rfl
                  have hcz24_3 : wc.cell? ⟨gb102, 3, none⟩ = some (.slice A0_3 l0_3.length c0_3) := (blk_cell BK102.out 3).trans rfl
                  have hfz24_0 := blk_frozen BK102.out 0
                  have hfz24_1 := blk_frozen BK102.out 1
                  have hfz24_2 := blk_frozen BK102.out 2
                  have hfz24_3 := blk_frozen BK102.out 3
                  go_wp2_with (first | (go_at_call 30; (with_reducible refine (spec_FloatBits.calls kj9 a0_2 t103 _ A19.out).mono ?_); rintro e w' ⟨rfl, ⟨nd, rfl⟩⟩))
                  go_ret
                  exact ⟨by first | rfl | (simp [errW_none, errW_some] <;> rfl) | (simp [*, errW_none, errW_some] <;> rfl), by repeat (first | (with_reducible first | exact HB.out | apply below_alloc | apply pw_below_drewN | apply below_drew1 | refine below_set ?_ GE102.out) | exact HB.out)⟩
theorem spec_ItemOk.j1_inv3 (k : Nat) (x0 : Bool) (x1 : Int) (x2 : Int) (x3 : Nat) (x4 : List Int) : spec_ItemOk.j1 k x0 x1 x2 (cn x3) x4 = spec_ItemOk.j1 k x0 x1 x2 x3 x4 := by
  cases k with
  | zero => rfl
  | succ k => simp only [spec_ItemOk.j1, spec_FloatBits.inv0, cn_zero, feq_cn_l, feq_cn_r, fls_cn_l, fls_cn_r, fgt_cn_l, fgt_cn_r, fle_cn_l, fle_cn_r, fge_cn_l, fge_cn_r]
theorem spec_ItemOk.j0_inv3 (k : Nat) (x0 : Bool) (x1 : Int) (x2 : Int) (x3 : Nat) (x4 : List Int) : spec_ItemOk.j0 k x0 x1 x2 (cn x3) x4 = spec_ItemOk.j0 k x0 x1 x2 x3 x4 := by
  cases k with
  | zero => rfl
  | succ k => simp only [spec_ItemOk.j0, spec_FloatBits.inv0, cn_zero, feq_cn_l, feq_cn_r, fls_cn_l, fls_cn_r, fgt_cn_l, fgt_cn_r, fle_cn_l, fle_cn_r, fge_cn_l, fge_cn_r, spec_ItemOk.j1_inv3]
theorem spec_ItemOk.inv0 (k : Nat) (a0_0 : Int) (a0_1 : Int) (a0_2 : Nat) (l0_3 : List Int) : spec_ItemOk.f k a0_0 a0_1 (cn a0_2) l0_3 = spec_ItemOk.f k a0_0 a0_1 a0_2 l0_3 := by
  by_cases h_ : nanw a0_2
  · unfold spec_ItemOk.f
    first
      | (simp only [spec_FloatBits.inv0, cn_zero, feq_cn_l, feq_cn_r, fls_cn_l, fls_cn_r, fgt_cn_l, fgt_cn_r, fle_cn_l, fle_cn_r, fge_cn_l, fge_cn_r, spec_ItemOk.j1_inv3, spec_ItemOk.j0_inv3]; done)
      | (simp only [spec_FloatBits.inv0, cn_zero, feq_cn_l, feq_cn_r, fls_cn_l, fls_cn_r, fgt_cn_l, fgt_cn_r, fle_cn_l, fle_cn_r, fge_cn_l, fge_cn_r, spec_ItemOk.j1_inv3, spec_ItemOk.j0_inv3, feq_nan_l h_, feq_nan_l (cn_nanw h_), Bool.false_eq_true, if_false]; done)
      | (simp [feq_nan_l h_, feq_nan_l (cn_nanw h_)]; done)
  · rw [cn_num h_]


end Go.Proofs.Ytjjkhlphdbmdfaa.PFnExactValueRead
