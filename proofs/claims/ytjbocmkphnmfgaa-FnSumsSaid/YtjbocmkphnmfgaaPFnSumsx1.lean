-- By this session's own program (wip/xprint.py), over the kit's print.
import Derived.Test.YtjbocmkphnmfgaaPFnSumsx0
namespace Go.Proofs.Ytjbocmkphnmfgaa.PFnSums
open Go.RowKit Go.Proofs.YtjbocmkphnmfgaaW.PrintWords Go.Proofs.YtjbocmkphnmfgaaW.PrintLast Go.Proofs.YtjbocmkphnmfgaaW.PrintMore
attribute [local go_sem] max2_int min2_int max_two min_two max_three min_three max_four min_four   -- for this text's walks alone
attribute [local go_sem high] fl_eql fl_neq fl_lss fl_leq fl_gtr fl_geq fl_add fl_sub fl_mul fl_quo fl_neg fl_ofInt fl_toInt fl_store sub_sign ext_bits ext_from fl_nan_quo fl_nan_add fl_nan_mul fl_nan_sub
set_option linter.unusedVariables false
set_option linter.unusedSimpArgs false

/-! ### spec_FloatBits: function 11 -/
mutual
def spec_FloatBits.j0 : Nat → Nat → Int → Nat → Bool → Option (Int)
  | 0, _, _, _, _ => none
  | k + 1, x0, x3, x4, x20 => if x20 = true then (spec_FloatBits.j1 k 9223372036854775808 (fneg x0)) else (spec_FloatBits.j1 k x3 x4)
def spec_FloatBits.j1 : Nat → Int → Nat → Option (Int)
  | 0, _, _ => none
  | k + 1, x3, x4 => if (feq x4 0) = true then (some x3) else (if (fgt x4 9218868437227405311) = true then (some (Go.bits .or .u64 x3 9218868437227405312)) else (spec_FloatBits.l0 k x3 x4 0))
def spec_FloatBits.l0 : Nat → Int → Nat → Int → Option (Int)
  | 0, _, _, _ => none
  | k + 1, x3, x4, x5 => if (fge x4 4611686018427387904) = true then (if (fok .quo x4 4611686018427387904) = true then (spec_FloatBits.l0 k x3 (fval .quo x4 4611686018427387904) (wrap64 (x5 + 1))) else (none)) else (spec_FloatBits.l1 k x3 x4 x5)
def spec_FloatBits.l1 : Nat → Int → Nat → Int → Option (Int)
  | 0, _, _, _ => none
  | k + 1, x3, x4, x5 => if (fls x4 4607182418800017408) = true then (if x5 > (-1022) then (if (fok .mul x4 4611686018427387904) = true then (spec_FloatBits.l1 k x3 (fval .mul x4 4611686018427387904) (wrap64 (x5 - 1))) else (none)) else (if (fok .mul x4 4841369599423283200) = true then (if (fiok .u64 (fval .mul x4 4841369599423283200)) = true then (some (Go.bits .or .u64 x3 (fival .u64 (fval .mul x4 4841369599423283200)))) else (none)) else (none))) else (if (fok .sub x4 4607182418800017408) = true then (if (fok .mul (fval .sub x4 4607182418800017408) 4841369599423283200) = true then (if (fiok .u64 (fval .mul (fval .sub x4 4607182418800017408) 4841369599423283200)) = true then (some (Go.bits .or .u64 (Go.bits .or .u64 x3 (IntKind.u64.wrap ((IntKind.u64.wrap (wrap64 (x5 + 1023))) * 4503599627370496))) (fival .u64 (fval .mul (fval .sub x4 4607182418800017408) 4841369599423283200)))) else (none)) else (none)) else (none))
end
def spec_FloatBits.f (k : Nat) (a0 : Nat) : Option (Int) := if ((feq a0 a0) = true) then (if (fls a0 0) = true then (spec_FloatBits.j0 k a0 0 a0 true) else (if (feq a0 0) = true then (if (fok .quo 4607182418800017408 a0) = true then (spec_FloatBits.j0 k a0 0 a0 (fls (fval .quo 4607182418800017408 a0) 0)) else (none)) else (spec_FloatBits.j0 k a0 0 a0 false))) else (some 9221120237041090560)
theorem spec_FloatBits.mono_l : ∀ k, (∀ y0 y1 y2 y3, LeO (spec_FloatBits.j0 k y0 y1 y2 y3) (spec_FloatBits.j0 (k + 1) y0 y1 y2 y3)) ∧ (∀ y0 y1, LeO (spec_FloatBits.j1 k y0 y1) (spec_FloatBits.j1 (k + 1) y0 y1)) ∧ (∀ y0 y1 y2, LeO (spec_FloatBits.l0 k y0 y1 y2) (spec_FloatBits.l0 (k + 1) y0 y1 y2)) ∧ (∀ y0 y1 y2, LeO (spec_FloatBits.l1 k y0 y1 y2) (spec_FloatBits.l1 (k + 1) y0 y1 y2))
  | 0 => ⟨fun _ _ _ _ r h => by simp [spec_FloatBits.j0] at h, fun _ _ r h => by simp [spec_FloatBits.j1] at h, fun _ _ _ r h => by simp [spec_FloatBits.l0] at h, fun _ _ _ r h => by simp [spec_FloatBits.l1] at h⟩
  | k + 1 => by
    obtain ⟨ih0, ih1, ih2, ih3⟩ := spec_FloatBits.mono_l k
    refine ⟨?_, ?_, ?_, ?_⟩
    · intro y0 y1 y2 y3
      unfold spec_FloatBits.j0
      repeat' first
      | (with_reducible exact ih0 _ _ _ _)
      | (with_reducible exact ih1 _ _)
      | (with_reducible exact ih2 _ _ _)
      | (with_reducible exact ih3 _ _ _)
      | (with_reducible exact LeO.refl _)
      | (with_reducible exact LeO.none _)
      | (with_reducible refine LeO.ite ?_ ?_)
      | (with_reducible refine LeO.bind ?_ (fun _ => ?_))
      | exact ih0 _ _ _ _
      | exact ih1 _ _
      | exact ih2 _ _ _
      | exact ih3 _ _ _
      | exact LeO.none _
      | refine LeO.ite ?_ ?_
      | refine LeO.bind ?_ (fun _ => ?_)
    · intro y0 y1
      unfold spec_FloatBits.j1
      repeat' first
      | (with_reducible exact ih0 _ _ _ _)
      | (with_reducible exact ih1 _ _)
      | (with_reducible exact ih2 _ _ _)
      | (with_reducible exact ih3 _ _ _)
      | (with_reducible exact LeO.refl _)
      | (with_reducible exact LeO.none _)
      | (with_reducible refine LeO.ite ?_ ?_)
      | (with_reducible refine LeO.bind ?_ (fun _ => ?_))
      | exact ih0 _ _ _ _
      | exact ih1 _ _
      | exact ih2 _ _ _
      | exact ih3 _ _ _
      | exact LeO.none _
      | refine LeO.ite ?_ ?_
      | refine LeO.bind ?_ (fun _ => ?_)
    · intro y0 y1 y2
      unfold spec_FloatBits.l0
      repeat' first
      | (with_reducible exact ih0 _ _ _ _)
      | (with_reducible exact ih1 _ _)
      | (with_reducible exact ih2 _ _ _)
      | (with_reducible exact ih3 _ _ _)
      | (with_reducible exact LeO.refl _)
      | (with_reducible exact LeO.none _)
      | (with_reducible refine LeO.ite ?_ ?_)
      | (with_reducible refine LeO.bind ?_ (fun _ => ?_))
      | exact ih0 _ _ _ _
      | exact ih1 _ _
      | exact ih2 _ _ _
      | exact ih3 _ _ _
      | exact LeO.none _
      | refine LeO.ite ?_ ?_
      | refine LeO.bind ?_ (fun _ => ?_)
    · intro y0 y1 y2
      unfold spec_FloatBits.l1
      repeat' first
      | (with_reducible exact ih0 _ _ _ _)
      | (with_reducible exact ih1 _ _)
      | (with_reducible exact ih2 _ _ _)
      | (with_reducible exact ih3 _ _ _)
      | (with_reducible exact LeO.refl _)
      | (with_reducible exact LeO.none _)
      | (with_reducible refine LeO.ite ?_ ?_)
      | (with_reducible refine LeO.bind ?_ (fun _ => ?_))
      | exact ih0 _ _ _ _
      | exact ih1 _ _
      | exact ih2 _ _ _
      | exact ih3 _ _ _
      | exact LeO.none _
      | refine LeO.ite ?_ ?_
      | refine LeO.bind ?_ (fun _ => ?_)
theorem spec_FloatBits.mono : ∀ a0 k, LeO (spec_FloatBits.f k a0) (spec_FloatBits.f (k + 1) a0) := by
  intro a0 k
  obtain ⟨ih0, ih1, ih2, ih3⟩ := spec_FloatBits.mono_l k
  unfold spec_FloatBits.f
  repeat' first
      | (with_reducible exact ih0 _ _ _ _)
      | (with_reducible exact ih1 _ _)
      | (with_reducible exact ih2 _ _ _)
      | (with_reducible exact ih3 _ _ _)
      | (with_reducible exact LeO.refl _)
      | (with_reducible exact LeO.none _)
      | (with_reducible refine LeO.ite ?_ ?_)
      | (with_reducible refine LeO.bind ?_ (fun _ => ?_))
      | exact ih0 _ _ _ _
      | exact ih1 _ _
      | exact ih2 _ _ _
      | exact ih3 _ _ _
      | exact LeO.none _
      | refine LeO.ite ?_ ?_
      | refine LeO.bind ?_ (fun _ => ?_)
set_option maxHeartbeats 8000000 in
set_option maxRecDepth 100000 in
theorem spec_FloatBits.calls (k : Nat) (a0 : Nat) (r : Int) (w : World) (h : spec_FloatBits.f k a0 = some r) :
    Calls Try.prog 11 #[.float .f64 a0] w fun e w' => e = .returned (.int .u64 r) ∧ Drawn0 w w' := by
  have H : (if ((feq a0 a0) = true) then (if (fls a0 0) = true then (spec_FloatBits.j0 k a0 0 a0 true) else (if (feq a0 0) = true then (if (fok .quo 4607182418800017408 a0) = true then (spec_FloatBits.j0 k a0 0 a0 (fls (fval .quo 4607182418800017408 a0) 0)) else (none)) else (spec_FloatBits.j0 k a0 0 a0 false))) else (some 9221120237041090560)) = some r := h
  clear h
  by_cases c2 : ((feq a0 a0) = true)
  · rw [if_pos c2] at H
    have c2b0 : (feq a0 a0) = true := c2
    clear c2
    have HC3 := Aside0.mk H
    clear H
    go_enter Try.func11, Try.ntmps11
    go_upto_region 5 with (fail)
    go_cut [20] (fun v20 wc => ∃ (kq : Nat) (x20_2 : Bool), v20 = .bool x20_2 ∧ Aside0 (spec_FloatBits.j0 kq a0 0 a0 x20_2 = some r) ∧ Aside0 (kq ≤ k) ∧ Drawn0 w wc)
    case first =>
      have H := HC3.out
      clear HC3
      by_cases c4 : (fls a0 0) = true
      · rw [if_pos c4] at H
        have c4b0 : (fls a0 0) = true := c4
        clear c4
        (first | rw [c4b0] | (simp only [i64_w, i32_w]; rw [c4b0]) | skip)
        have H' := Aside0.mk H
        clear H
        go_wp2
        go_meet
        case rel => exact ⟨_, (true), (by first | rfl | (simp; done) | (simp [*]; done)), H', ⟨by first | omega | exact Nat.le_refl _⟩, by repeat (first | exact Drawn0.refl _ | apply Drawn0.step)⟩
      · rw [if_neg c4] at H
        have c4b0 : (fls a0 0) = false := by simpa using c4
        clear c4
        (first | rw [c4b0] | (simp only [i64_w, i32_w]; rw [c4b0]) | skip)
        by_cases c5 : (feq a0 0) = true
        · rw [if_pos c5] at H
          have c5b0 : (feq a0 0) = true := c5
          clear c5
          by_cases c6 : (fok .quo 4607182418800017408 a0) = true
          · rw [if_pos c6] at H
            have c6b0 : (fok .quo 4607182418800017408 a0) = true := c6
            clear c6
            have H' := Aside0.mk H
            clear H
            go_wp2
            go_meet
            case rel => exact ⟨_, ((fls (fval .quo 4607182418800017408 a0) 0)), (by first | rfl | (simp; done) | (simp [*]; done)), H', ⟨by first | omega | exact Nat.le_refl _⟩, by repeat (first | exact Drawn0.refl _ | apply Drawn0.step)⟩
          · rw [if_neg c6] at H
            exact absurd H (by simp)
        · rw [if_neg c5] at H
          have c5b0 : (feq a0 0) = false := by simpa using c5
          clear c5
          have H' := Aside0.mk H
          clear H
          go_wp2
          go_meet
          case rel => exact ⟨_, (false), (by first | rfl | (simp; done) | (simp [*]; done)), H', ⟨by first | omega | exact Nat.le_refl _⟩, by repeat (first | exact Drawn0.refl _ | apply Drawn0.step)⟩
    case rest =>
      clear HC3
      try clear c1
      try clear c2
      try clear c2b0
      try clear p2
      try clear c4
      try clear c4b0
      try clear c5
      try clear c5b0
      try clear c6
      try clear c6b0
      obtain ⟨kq, x20_2, rfl, HA, HJ2, ⟨mc2, rfl⟩⟩ := hcut
      cases kq with
      | zero => exact absurd HA.out (by simp [spec_FloatBits.j0])
      | succ kj2 =>
        have H := HA.out
        clear HA
        simp only [spec_FloatBits.j0] at H
        have HC7 := Aside0.mk H
        clear H
        go_upto_if 20 with (fail)
        go_cut [3, 4] (fun v3 v4 wc => ∃ (kq : Nat) (x3_6 : Int) (x4_6 : Nat), v3 = .int .u64 x3_6 ∧ v4 = .float .f64 x4_6 ∧ Aside0 (spec_FloatBits.j1 kq x3_6 x4_6 = some r) ∧ Aside0 (kq ≤ kj2) ∧ Drawn0 w wc)
        case first =>
          have H := HC7.out
          clear HC7
          by_cases c8 : x20_2 = true
          · subst c8
            have H1 : (spec_FloatBits.j1 kj2 9223372036854775808 (fneg a0)) = some r := by rw [if_pos rfl] at H; exact H
            clear H
            have H := H1
            clear H1
            have H' := Aside0.mk H
            clear H
            go_wp2
            go_meet
            case rel => exact ⟨_, (9223372036854775808), (fneg a0), (by first | rfl | (simp; done) | (simp [*]; done)), (by first | rfl | (simp; done) | (simp [*]; done)), H', ⟨by have := HJ2.out; first | omega | exact Nat.le_refl _⟩, by repeat (first | exact Drawn0.refl _ | apply Drawn0.step)⟩
          · replace c8 := Bool.eq_false_iff.mpr c8
            subst c8
            have H1 : (spec_FloatBits.j1 kj2 0 a0) = some r := by rw [if_neg (show ¬ (false = true) by decide)] at H; exact H
            clear H
            have H := H1
            clear H1
            have H' := Aside0.mk H
            clear H
            go_wp2
            go_meet
            case rel => exact ⟨_, (0), (a0), (by first | rfl | (simp; done) | (simp [*]; done)), (by first | rfl | (simp; done) | (simp [*]; done)), H', ⟨by have := HJ2.out; first | omega | exact Nat.le_refl _⟩, by repeat (first | exact Drawn0.refl _ | apply Drawn0.step)⟩
        case rest =>
          clear HC7
          try clear c1
          try clear c2
          try clear c2b0
          try clear p2
          try clear c4
          try clear c4b0
          try clear c5
          try clear c5b0
          try clear c6
          try clear c6b0
          try clear c8
          try clear p2
          obtain ⟨kq, x3_6, x4_6, rfl, rfl, HA, HJ6, ⟨mc6, rfl⟩⟩ := hcut
          cases kq with
          | zero => exact absurd HA.out (by simp [spec_FloatBits.j1])
          | succ kj6 =>
            have H := HA.out
            clear HA
            simp only [spec_FloatBits.j1] at H
            by_cases c9 : (feq x4_6 0) = true
            · rw [if_pos c9] at H
              have c9b0 : (feq x4_6 0) = true := c9
              clear c9
              obtain rfl := Option.some.inj H
              go_wp2
              go_ret
              exact ⟨by first | rfl | (simp; done) | (simp [*]; done), by repeat (first | exact Drawn0.refl _ | apply Drawn0.step)⟩
            · rw [if_neg c9] at H
              have c9b0 : (feq x4_6 0) = false := by simpa using c9
              clear c9
              by_cases c10 : (fgt x4_6 9218868437227405311) = true
              · rw [if_pos c10] at H
                have c10b0 : (fgt x4_6 9218868437227405311) = true := c10
                clear c10
                obtain rfl := Option.some.inj H
                go_wp2
                go_ret
                exact ⟨by first | rfl | (simp; done) | (simp [*]; done), by repeat (first | exact Drawn0.refl _ | apply Drawn0.step)⟩
              · rw [if_neg c10] at H
                have c10b0 : (fgt x4_6 9218868437227405311) = false := by simpa using c10
                clear c10
                have H' := Aside0.mk H
                clear H
                go_wp2
                go_loopg [4, 5] kj6 (fun kq v4 v5 w' => ∃ (x4_3 : Nat) (x5_3 : Int), v4 = .float .f64 x4_3 ∧ v5 = .int .i64 x5_3 ∧ Aside0 (spec_FloatBits.l0 kq x3_6 x4_3 x5_3 = some r) ∧ Aside0 (kq ≤ kj6) ∧ Drawn0 w w')
                case atStart => exact ⟨(x4_6), (0), (by first | rfl | (simp; done) | (simp [*]; done)), (by first | rfl | (simp; done) | (simp [*]; done)), H', ⟨Nat.le_refl _⟩, by repeat (first | exact Drawn0.refl _ | apply Drawn0.step)⟩
                case round =>
                  clear H'
                  try clear c1
                  try clear c2
                  try clear c2b0
                  try clear p2
                  try clear c4
                  try clear c4b0
                  try clear c5
                  try clear c5b0
                  try clear c6
                  try clear c6b0
                  try clear c8
                  try clear c9
                  try clear c9b0
                  try clear c10
                  try clear c10b0
                  try clear p2
                  obtain ⟨x4_3, x5_3, rfl, rfl, HA, HK3, ⟨m3, rfl⟩⟩ := hrel
                  cases gk with
                  | zero => exact absurd HA.out (by simp [spec_FloatBits.l0])
                  | succ k3 =>
                    have H := HA.out
                    clear HA
                    simp only [spec_FloatBits.l0] at H
                    by_cases c11 : (fge x4_3 4611686018427387904) = true
                    · rw [if_pos c11] at H
                      have c11b0 : (fge x4_3 4611686018427387904) = true := c11
                      clear c11
                      by_cases c12 : (fok .quo x4_3 4611686018427387904) = true
                      · rw [if_pos c12] at H
                        have c12b0 : (fok .quo x4_3 4611686018427387904) = true := c12
                        clear c12
                        have H' := Aside0.mk H
                        clear H
                        go_wp2
                        go_roundg k3
                        case measure => have := HJ2.out; have := HJ6.out; have := HK3.out; omega
                        case rel => exact ⟨(fval .quo x4_3 4611686018427387904), (wrap64 (x5_3 + 1)), (by first | rfl | (simp; done) | (simp [*]; done)), (by first | rfl | (simp; done) | (simp [*]; done)), H', ⟨by have := HJ2.out; have := HJ6.out; have := HK3.out; omega⟩, by repeat (first | exact Drawn0.refl _ | apply Drawn0.step)⟩
                      · rw [if_neg c12] at H
                        exact absurd H (by simp)
                    · rw [if_neg c11] at H
                      have c11b0 : (fge x4_3 4611686018427387904) = false := by simpa using c11
                      clear c11
                      have H' := Aside0.mk H
                      clear H
                      go_wp2
                      go_loopg [4, 5] k3 (fun kq v4 v5 w' => ∃ (x4_4 : Nat) (x5_4 : Int), v4 = .float .f64 x4_4 ∧ v5 = .int .i64 x5_4 ∧ Aside0 (spec_FloatBits.l1 kq x3_6 x4_4 x5_4 = some r) ∧ Aside0 (kq ≤ k3) ∧ Drawn0 w w')
                      case atStart => exact ⟨(x4_3), (x5_3), (by first | rfl | (simp; done) | (simp [*]; done)), (by first | rfl | (simp; done) | (simp [*]; done)), H', ⟨Nat.le_refl _⟩, by repeat (first | exact Drawn0.refl _ | apply Drawn0.step)⟩
                      case round =>
                        clear H'
                        try clear c1
                        try clear c2
                        try clear c2b0
                        try clear p2
                        try clear c4
                        try clear c4b0
                        try clear c5
                        try clear c5b0
                        try clear c6
                        try clear c6b0
                        try clear p6
                        try clear c8
                        try clear c9
                        try clear c9b0
                        try clear c10
                        try clear c10b0
                        try clear c11
                        try clear c11b0
                        try clear c12
                        try clear c12b0
                        try clear p2
                        obtain ⟨x4_4, x5_4, rfl, rfl, HA, HK4, ⟨m4, rfl⟩⟩ := hrel
                        cases gk with
                        | zero => exact absurd HA.out (by simp [spec_FloatBits.l1])
                        | succ k4 =>
                          have H := HA.out
                          clear HA
                          simp only [spec_FloatBits.l1] at H
                          by_cases c13 : (fls x4_4 4607182418800017408) = true
                          · rw [if_pos c13] at H
                            have c13b0 : (fls x4_4 4607182418800017408) = true := c13
                            clear c13
                            by_cases c14 : x5_4 > (-1022)
                            · rw [if_pos c14] at H
                              have c14b0 : decide ((-1022) < x5_4) = true := decide_eq_true c14
                              clear c14
                              by_cases c15 : (fok .mul x4_4 4611686018427387904) = true
                              · rw [if_pos c15] at H
                                have c15b0 : (fok .mul x4_4 4611686018427387904) = true := c15
                                clear c15
                                have H' := Aside0.mk H
                                clear H
                                go_wp2
                                go_roundg k4
                                case measure => have := HJ2.out; have := HJ6.out; have := HK3.out; have := HK4.out; omega
                                case rel => exact ⟨(fval .mul x4_4 4611686018427387904), (wrap64 (x5_4 - 1)), (by first | rfl | (simp; done) | (simp [*]; done)), (by first | rfl | (simp; done) | (simp [*]; done)), H', ⟨by have := HJ2.out; have := HJ6.out; have := HK3.out; have := HK4.out; omega⟩, by repeat (first | exact Drawn0.refl _ | apply Drawn0.step)⟩
                              · rw [if_neg c15] at H
                                exact absurd H (by simp)
                            · rw [if_neg c14] at H
                              have c14b0 : decide ((-1022) < x5_4) = false := decide_eq_false c14
                              clear c14
                              by_cases c16 : (fok .mul x4_4 4841369599423283200) = true
                              · rw [if_pos c16] at H
                                have c16b0 : (fok .mul x4_4 4841369599423283200) = true := c16
                                clear c16
                                by_cases c17 : (fiok .u64 (fval .mul x4_4 4841369599423283200)) = true
                                · rw [if_pos c17] at H
                                  have c17b0 : (fiok .u64 (fval .mul x4_4 4841369599423283200)) = true := c17
                                  clear c17
                                  obtain rfl := Option.some.inj H
                                  go_wp2
                                  go_ret
                                  exact ⟨by first | rfl | (simp; done) | (simp [*]; done), by repeat (first | exact Drawn0.refl _ | apply Drawn0.step)⟩
                                · rw [if_neg c17] at H
                                  exact absurd H (by simp)
                              · rw [if_neg c16] at H
                                exact absurd H (by simp)
                          · rw [if_neg c13] at H
                            have c13b0 : (fls x4_4 4607182418800017408) = false := by simpa using c13
                            clear c13
                            by_cases c18 : (fok .sub x4_4 4607182418800017408) = true
                            · rw [if_pos c18] at H
                              have c18b0 : (fok .sub x4_4 4607182418800017408) = true := c18
                              clear c18
                              by_cases c19 : (fok .mul (fval .sub x4_4 4607182418800017408) 4841369599423283200) = true
                              · rw [if_pos c19] at H
                                have c19b0 : (fok .mul (fval .sub x4_4 4607182418800017408) 4841369599423283200) = true := c19
                                clear c19
                                by_cases c20 : (fiok .u64 (fval .mul (fval .sub x4_4 4607182418800017408) 4841369599423283200)) = true
                                · rw [if_pos c20] at H
                                  have c20b0 : (fiok .u64 (fval .mul (fval .sub x4_4 4607182418800017408) 4841369599423283200)) = true := c20
                                  clear c20
                                  obtain rfl := Option.some.inj H
                                  go_wp2
                                  go_ret
                                  exact ⟨by first | rfl | (simp; done) | (simp [*]; done), by repeat (first | exact Drawn0.refl _ | apply Drawn0.step)⟩
                                · rw [if_neg c20] at H
                                  exact absurd H (by simp)
                              · rw [if_neg c19] at H
                                exact absurd H (by simp)
                            · rw [if_neg c18] at H
                              exact absurd H (by simp)
  · rw [if_neg c2] at H
    have c2b0 : (feq a0 a0) = false := by simpa using c2
    clear c2
    obtain rfl := Option.some.inj H
    go_enter Try.func11, Try.ntmps11
    go_wp2
    go_ret
    exact ⟨by first | rfl | (simp; done) | (simp [*]; done), by repeat (first | exact Drawn0.refl _ | apply Drawn0.step)⟩
theorem spec_FloatBits.inv0 (k : Nat) (a0 : Nat) : spec_FloatBits.f k (cn a0) = spec_FloatBits.f k a0 := by
  by_cases h_ : nanw a0
  · unfold spec_FloatBits.f
    first
      | (simp only [cn_zero, feq_cn_l, feq_cn_r, fls_cn_l, fls_cn_r, fgt_cn_l, fgt_cn_r, fle_cn_l, fle_cn_r, fge_cn_l, fge_cn_r]; done)
      | (simp only [cn_zero, feq_cn_l, feq_cn_r, fls_cn_l, fls_cn_r, fgt_cn_l, fgt_cn_r, fle_cn_l, fle_cn_r, fge_cn_l, fge_cn_r, feq_nan_l h_, feq_nan_l (cn_nanw h_), Bool.false_eq_true, if_false]; done)
      | (simp [feq_nan_l h_, feq_nan_l (cn_nanw h_)]; done)
  · rw [cn_num h_]


-- NOT PRINTED: function 29 (math_Float64bits)

/-! ### impl_FloatBits: function 12 -/
def impl_FloatBits.f (a0 : Nat) : Option (Int) := if ((feq a0 a0) = true) then (some ((a0 : Nat) : Int)) else (some 9221120237041090560)
set_option maxHeartbeats 8000000 in
set_option maxRecDepth 100000 in
theorem impl_FloatBits.calls (a0 : Nat) (r : Int) (w : World) (h : impl_FloatBits.f a0 = some r) :
    Calls Try.prog 12 #[.float .f64 a0] w fun e w' => e = .returned (.int .u64 r) ∧ Drawn0 w w' := by
  have H : (if ((feq a0 a0) = true) then (some ((a0 : Nat) : Int)) else (some 9221120237041090560)) = some r := h
  clear h
  by_cases c2 : ((feq a0 a0) = true)
  · rw [if_pos c2] at H
    have c2b0 : (feq a0 a0) = true := c2
    clear c2
    obtain rfl := Option.some.inj H
    go_enter Try.func12, Try.ntmps12
    go_wp2
    go_ret
    exact ⟨by first | rfl | (simp; done) | (simp [*]; done), by repeat (first | exact Drawn0.refl _ | apply Drawn0.step)⟩
  · rw [if_neg c2] at H
    have c2b0 : (feq a0 a0) = false := by simpa using c2
    clear c2
    obtain rfl := Option.some.inj H
    go_enter Try.func12, Try.ntmps12
    go_wp2
    go_ret
    exact ⟨by first | rfl | (simp; done) | (simp [*]; done), by repeat (first | exact Drawn0.refl _ | apply Drawn0.step)⟩
theorem impl_FloatBits.inv0 (a0 : Nat) : impl_FloatBits.f (cn a0) = impl_FloatBits.f a0 := by
  by_cases h_ : nanw a0
  · unfold impl_FloatBits.f
    first
      | (simp only [cn_zero, feq_cn_l, feq_cn_r, fls_cn_l, fls_cn_r, fgt_cn_l, fgt_cn_r, fle_cn_l, fle_cn_r, fge_cn_l, fge_cn_r]; done)
      | (simp only [cn_zero, feq_cn_l, feq_cn_r, fls_cn_l, fls_cn_r, fgt_cn_l, fgt_cn_r, fle_cn_l, fle_cn_r, fge_cn_l, fge_cn_r, feq_nan_l h_, feq_nan_l (cn_nanw h_), Bool.false_eq_true, if_false]; done)
      | (simp [feq_nan_l h_, feq_nan_l (cn_nanw h_)]; done)
  · rw [cn_num h_]


-- NOT PRINTED: function 30 (math_Float64frombits)

/-! ### math_NaN: function 31 -/
def math_NaN.f  : Option (Nat) := some ((9221120237041090561 : Int).toNat)
set_option maxHeartbeats 8000000 in
set_option maxRecDepth 100000 in
theorem math_NaN.calls  (r : Nat) (w : World) (h : math_NaN.f  = some r) :
    Calls Try.prog 31 #[] w fun e w' => e = .returned (.float .f64 r) ∧ Drawn0 w w' := by
  have H : (some ((9221120237041090561 : Int).toNat)) = some r := h
  clear h
  obtain rfl := Option.some.inj H
  go_enter Try.func31, Try.ntmps31
  go_wp2
  go_ret
  exact ⟨by first | rfl | (simp; done) | (simp [*]; done), by repeat (first | exact Drawn0.refl _ | apply Drawn0.step)⟩

/-! ### impl_FloatSum: function 18 -/
def impl_FloatSum.l0 : Nat → Nat → List Nat → Int → Int → Option (Nat)
  | 0, _, _, _, _ => none
  | k + 1, x3, x10, x11, x12 => if x12 < x11 then (if 0 ≤ x12 then (if x12 < (x10.length : Int) then (if (fok .add x3 (rdOf (0 : Nat) x10 x12)) = true then (impl_FloatSum.l0 k (fval .add x3 (rdOf (0 : Nat) x10 x12)) x10 x11 (wrap64 (x12 + 1))) else (none)) else (none)) else (none)) else (some x3)
def impl_FloatSum.f (k : Nat) (l0 : List Nat) : Option (Nat) := if (l0.length : Int) > 1000 then ((math_NaN.f).bind fun t101 => (some t101)) else (impl_FloatSum.l0 k 0 l0 (l0.length : Int) 0)
theorem impl_FloatSum.mono_l : ∀ k, (∀ y0 y1 y2 y3, LeO (impl_FloatSum.l0 k y0 y1 y2 y3) (impl_FloatSum.l0 (k + 1) y0 y1 y2 y3))
  | 0 => fun _ _ _ _ r h => by simp [impl_FloatSum.l0] at h
  | k + 1 => by
    have ih0 := impl_FloatSum.mono_l k
    · intro y0 y1 y2 y3
      unfold impl_FloatSum.l0
      repeat' first
      | (with_reducible exact ih0 _ _ _ _)
      | (with_reducible exact LeO.refl _)
      | (with_reducible exact LeO.none _)
      | (with_reducible refine LeO.ite ?_ ?_)
      | (with_reducible refine LeO.bind ?_ (fun _ => ?_))
      | exact ih0 _ _ _ _
      | exact LeO.none _
      | refine LeO.ite ?_ ?_
      | refine LeO.bind ?_ (fun _ => ?_)
theorem impl_FloatSum.mono : ∀ a0 k, LeO (impl_FloatSum.f k a0) (impl_FloatSum.f (k + 1) a0) := by
  intro a0 k
  have ih0 := impl_FloatSum.mono_l k
  unfold impl_FloatSum.f
  repeat' first
      | (with_reducible exact ih0 _ _ _ _)
      | (with_reducible exact LeO.refl _)
      | (with_reducible exact LeO.none _)
      | (with_reducible refine LeO.ite ?_ ?_)
      | (with_reducible refine LeO.bind ?_ (fun _ => ?_))
      | exact ih0 _ _ _ _
      | exact LeO.none _
      | refine LeO.ite ?_ ?_
      | refine LeO.bind ?_ (fun _ => ?_)
set_option maxHeartbeats 8000000 in
set_option maxRecDepth 100000 in
theorem impl_FloatSum.calls (k : Nat) (A0 : Option Addr) (c0 : Nat) (l0 : List Nat) (r : Nat) (w : World) (hr0 : Kd.C Kd.flt w A0 l0.length l0) (hc0 : l0.length ≤ c0) (h : impl_FloatSum.f k l0 = some r) :
    Calls Try.prog 18 #[.slice A0 l0.length c0] w fun e w' => e = .returned (.float .f64 r) ∧ Drawn0 w w' := by
  have HR0 := Aside0.mk hr0
  have HC0 := Aside0.mk hc0
  clear hr0 hc0
  have H : (if (l0.length : Int) > 1000 then ((math_NaN.f).bind fun t101 => (some t101)) else (impl_FloatSum.l0 k 0 l0 (l0.length : Int) 0)) = some r := h
  clear h
  by_cases c2 : (l0.length : Int) > 1000
  · rw [if_pos c2] at H
    have c2b0 : decide (1000 < (l0.length : Int)) = true := decide_eq_true c2
    have c2b1 : decide (1000 < l0.length) = true := decide_eq_true (by omega)
    clear c2
    replace H := Option.bind_eq_some_iff.mp H
    obtain ⟨t101, A30, H⟩ := H
    replace H : (some t101) = some r := H
    have A3 := Aside0.mk A30
    clear A30
    obtain rfl := Option.some.inj H
    go_enter Try.func18, Try.ntmps18
    go_wp2_with (first | ((with_reducible refine gate_callee (f := 31) rfl ?_); refine goesL_ (some 9) rfl rfl Try.func31 (by kernel_rfl) rfl #[] rfl (by (try simp only [List.map_toArray, List.map_cons, List.map_nil]); first | done | rfl | (simp only [List.length_drop, List.length_take]; rfl)) ?_; (with_reducible refine (math_NaN.calls  t101 _ A3.out).mono ?_); rintro e w' ⟨rfl, ⟨nd, rfl⟩⟩; refine ⟨_, rfl, ?_⟩))
    go_ret
    exact ⟨by first | rfl | (simp; done) | (simp [*]; done), by repeat (first | exact Drawn0.refl _ | apply Drawn0.step)⟩
  · rw [if_neg c2] at H
    have c2b0 : decide (1000 < (l0.length : Int)) = false := decide_eq_false c2
    have c2b1 : decide (1000 < l0.length) = false := decide_eq_false (by omega)
    clear c2
    have H' := Aside0.mk H
    clear H
    go_enter Try.func18, Try.ntmps18
    go_wp2
    go_loopg [3, 12] k (fun kq v3 v12 w' => ∃ (x3_1 : Nat) (x12_1 : Int), v3 = .float .f64 x3_1 ∧ v12 = .int .i64 x12_1 ∧ Aside0 (impl_FloatSum.l0 kq x3_1 l0 (l0.length : Int) x12_1 = some r) ∧ Aside0 (kq ≤ k) ∧ Drawn0 w w')
    case atStart => exact ⟨(0), (0), (by first | rfl | (simp; done) | (simp [*]; done)), (by first | rfl | (simp; done) | (simp [*]; done)), H', ⟨Nat.le_refl _⟩, by repeat (first | exact Drawn0.refl _ | apply Drawn0.step)⟩
    case round =>
      clear H'
      try clear c1
      try clear c2
      try clear c2b0
      try clear c2b1
      try clear p2
      try clear c3
      obtain ⟨x3_1, x12_1, rfl, rfl, HA, HK1, ⟨m1, rfl⟩⟩ := hrel
      cases gk with
      | zero => exact absurd HA.out (by simp [impl_FloatSum.l0])
      | succ k1 =>
        have H := HA.out
        clear HA
        simp only [impl_FloatSum.l0] at H
        by_cases c4 : x12_1 < (l0.length : Int)
        · rw [if_pos c4] at H
          have c4b0 : decide (x12_1 < (l0.length : Int)) = true := decide_eq_true c4
          clear c4
          by_cases c5 : 0 ≤ x12_1
          · rw [if_pos c5] at H
            have c5b0 : decide (0 ≤ x12_1) = true := decide_eq_true c5
            clear c5
            by_cases c6 : x12_1 < (l0.length : Int)
            · rw [if_pos c6] at H
              have c6b0 : decide (x12_1 < (l0.length : Int)) = true := decide_eq_true c6
              clear c6
              by_cases c7 : (fok .add x3_1 (rdOf (0 : Nat) l0 x12_1)) = true
              · rw [if_pos c7] at H
                have c7b0 : (fok .add x3_1 (rdOf (0 : Nat) l0 x12_1)) = true := c7
                clear c7
                have H' := Aside0.mk H
                clear H
                have p102 : 0 ≤ (x12_1 : Int) := of_decide_eq_true (by first | (with_reducible assumption) | assumption)
                have q102 : x12_1 < (l0.length : Int) := of_decide_eq_true (by first | (with_reducible assumption) | assumption)
                obtain ⟨ad102, e102, hx102_0⟩ := Kd.at_flt HR0.out x12_1 p102 q102
                cases e102
                replace p102 := eq_true p102
                replace q102 := eq_true q102
                go_wp2
                go_roundg k1
                case measure => have := HK1.out; omega
                case rel => exact ⟨(fval .add x3_1 (rdOf (0 : Nat) l0 x12_1)), (wrap64 (x12_1 + 1)), (by first | rfl | (simp; done) | (simp [*]; done)), (by first | rfl | (simp; done) | (simp [*]; done)), H', ⟨by have := HK1.out; omega⟩, by repeat (first | exact Drawn0.refl _ | apply Drawn0.step)⟩
              · rw [if_neg c7] at H
                exact absurd H (by simp)
            · rw [if_neg c6] at H
              exact absurd H (by simp)
          · rw [if_neg c5] at H
            exact absurd H (by simp)
        · rw [if_neg c4] at H
          have c4b0 : decide (x12_1 < (l0.length : Int)) = false := decide_eq_false c4
          clear c4
          obtain rfl := Option.some.inj H
          go_wp2
          go_ret
          exact ⟨by first | rfl | (simp; done) | (simp [*]; done), by repeat (first | exact Drawn0.refl _ | apply Drawn0.step)⟩
/-- one more summand -/
def addR (s y t : Nat) : Prop := (fok .add s y = true ∧ t = fval .add s y) ∨ (fok .add s y = false ∧ nanR t)
/-- what the first summands come to -/
def sumTo (l : List Nat) : Nat → Nat → Prop
  | 0, s => s = 0
  | n + 1, s => ∃ t, sumTo l n t ∧ addR t (rdOf (0 : Nat) l (n : Int)) s
/-- where FloatSum's answer is known -/
def impl_FloatSum.Q (l0 : List Nat) : Prop := ∃ t, math_NaN.f = some t
/-- what FloatSum answers -/
def impl_FloatSum.R (l0 : List Nat) (r : Nat) : Prop := (1000 < l0.length ∧ ∃ t, math_NaN.f = some t ∧ r = t) ∨ (l0.length ≤ 1000 ∧ sumTo l0 l0.length r)
set_option maxHeartbeats 8000000 in
set_option maxRecDepth 100000 in
theorem impl_FloatSum.callsN (A0 : Option Addr) (c0 : Nat) (l0 : List Nat) (w : World) (hr0 : Kd.C Kd.flt w A0 l0.length l0) (hc0 : l0.length ≤ c0) (h : impl_FloatSum.Q l0) :
    Calls Try.prog 18 #[.slice A0 l0.length c0] w fun e w' => ∃ r_ : Nat, e = .returned (.float .f64 r_) ∧ Aside0 (impl_FloatSum.R l0 r_) ∧ Drawn0 w w' := by
  have HR0 := Aside0.mk hr0
  have HC0 := Aside0.mk hc0
  clear hr0 hc0
  by_cases c2 : (l0.length : Int) > 1000
  · have c2b0 : decide (1000 < (l0.length : Int)) = true := decide_eq_true c2
    have c2b1 : decide (1000 < l0.length) = true := decide_eq_true (by omega)
    have C2 := Aside0.mk (show 1000 < l0.length by omega)
    clear c2
    obtain ⟨t107, ht⟩ := h
    have A3 := Aside0.mk ht
    clear ht
    go_enter Try.func18, Try.ntmps18
    go_wp2_with (first | ((with_reducible refine gate_callee (f := 31) rfl ?_); refine goesL_ (some 9) rfl rfl Try.func31 (by kernel_rfl) rfl #[] rfl (by (try simp only [List.map_toArray, List.map_cons, List.map_nil]); first | done | rfl | (simp only [List.length_drop, List.length_take]; rfl)) ?_; (with_reducible refine (math_NaN.calls  t107 _ A3.out).mono ?_); rintro e w' ⟨rfl, ⟨nd, rfl⟩⟩; refine ⟨_, rfl, ?_⟩))
    go_ret
    exact ⟨_, by first | rfl | (simp; done) | (simp [*]; done), ⟨Or.inl ⟨C2.out, _, A3.out, rfl⟩⟩, by repeat (first | exact Drawn0.refl _ | apply Drawn0.step)⟩
  · have c2b0 : decide (1000 < (l0.length : Int)) = false := decide_eq_false c2
    have c2b1 : decide (1000 < l0.length) = false := decide_eq_false (by omega)
    have C2 := Aside0.mk (show l0.length ≤ 1000 by omega)
    clear c2 h
    have H' : Aside0 (∃ i : Nat, (0 : Int) = (i : Int) ∧ i ≤ l0.length ∧ sumTo l0 i 0 ∧ (l0.length + 1) + i = l0.length + 1) := ⟨0, rfl, Nat.zero_le _, rfl, rfl⟩
    go_enter Try.func18, Try.ntmps18
    go_wp2
    go_loopg [3, 12] (l0.length + 1) (fun kq v3 v12 w' => ∃ (x3_1 : Nat) (x4_1 : Int), v3 = .float .f64 x3_1 ∧ v12 = .int .i64 x4_1 ∧ Aside0 (∃ i : Nat, x4_1 = (i : Int) ∧ i ≤ l0.length ∧ sumTo l0 i x3_1 ∧ kq + i = l0.length + 1) ∧ Drawn0 w w')
    case atStart => exact ⟨(0), (0), (by first | rfl | (simp; done) | (simp [*]; done)), (by first | rfl | (simp; done) | (simp [*]; done)), H', by repeat (first | exact Drawn0.refl _ | apply Drawn0.step)⟩
    case round =>
      clear H'
      try clear c2b0
      try clear c2b1
      obtain ⟨x3_1, x4_1, rfl, rfl, HA, ⟨m1, rfl⟩⟩ := hrel
      cases gk with
      | zero => obtain ⟨i, h1, h2, h3, h4⟩ := HA.out; exact absurd h4 (by omega)
      | succ k1 =>
        by_cases c4 : x4_1 < (l0.length : Int)
        · have c5 : 0 ≤ x4_1 := by
            obtain ⟨i, h1, h2, h3, h4⟩ := HA.out
            omega
          have H2 : Aside0 (∀ r, addR x3_1 (rdOf (0 : Nat) l0 x4_1) r → ∃ i : Nat, wrap64 (x4_1 + 1) = (i : Int) ∧ i ≤ l0.length ∧ sumTo l0 i r ∧ k1 + i = l0.length + 1) := by
            obtain ⟨i, h1, h2, h3, h4⟩ := HA.out
            have h5 := C2.out
            subst h1
            exact ⟨fun r hr => ⟨i + 1, by unfold wrap64; omega, by omega, ⟨x3_1, h3, hr⟩, by omega⟩⟩
          clear HA
          have c4b0 : decide (x4_1 < (l0.length : Int)) = true := decide_eq_true c4
          clear c4
          have c5b0 : decide (0 ≤ x4_1) = true := decide_eq_true c5
          clear c5
          have p101 : 0 ≤ (x4_1 : Int) := of_decide_eq_true (by first | (with_reducible assumption) | assumption)
          have q101 : x4_1 < (l0.length : Int) := of_decide_eq_true (by first | (with_reducible assumption) | assumption)
          obtain ⟨ad101, e101, hx101_0⟩ := Kd.at_flt HR0.out x4_1 p101 q101
          cases e101
          replace p101 := eq_true p101
          replace q101 := eq_true q101
          by_cases c6 : (fok .add x3_1 (rdOf (0 : Nat) l0 x4_1)) = true
          · have c6b0 : (fok .add x3_1 (rdOf (0 : Nat) l0 x4_1)) = true := c6
            clear c6
            have H' := Aside0.mk (H2.out _ (Or.inl ⟨c6b0, rfl⟩))
            clear H2
            go_wp2
            go_roundg k1
            case measure => omega
            case rel => exact ⟨(fval .add x3_1 (rdOf (0 : Nat) l0 x4_1)), (wrap64 (x4_1 + 1)), (by first | rfl | (simp; done) | (simp [*]; done)), (by first | rfl | (simp; done) | (simp [*]; done)), H', by repeat (first | exact Drawn0.refl _ | apply Drawn0.step)⟩
          · have c6b0 : (fok .add x3_1 (rdOf (0 : Nat) l0 x4_1)) = false := Bool.eq_false_iff.mpr c6
            clear c6
            have H' := Aside0.mk (fun r hr => H2.out r (Or.inr ⟨c6b0, hr⟩))
            clear H2
            go_wp2
            go_roundg k1
            case measure => omega
            case rel => exact ⟨_, (wrap64 (x4_1 + 1)), (by first | rfl | (simp; done) | (simp [*]; done)), (by first | rfl | (simp; done) | (simp [*]; done)), ⟨H'.out _ (nanR_of _ _ _)⟩, by repeat (first | exact Drawn0.refl _ | apply Drawn0.step)⟩
        · have c4b0 : decide (x4_1 < (l0.length : Int)) = false := decide_eq_false c4
          have HL : Aside0 (sumTo l0 l0.length x3_1) := by
            obtain ⟨i, h1, h2, h3, h4⟩ := HA.out
            have : i = l0.length := by omega
            exact ⟨this ▸ h3⟩
          clear HA c4
          go_wp2
          go_ret
          exact ⟨_, by first | rfl | (simp; done) | (simp [*]; done), ⟨Or.inr ⟨C2.out, HL.out⟩⟩, by repeat (first | exact Drawn0.refl _ | apply Drawn0.step)⟩


/-! ### laws_big: function 26 -/
def laws_big.f (l0 : List Int) : Option (Bool) := some (decide ((l0.length : Int) > 1048576))
set_option maxHeartbeats 8000000 in
set_option maxRecDepth 100000 in
theorem laws_big.calls (A0 : Option Addr) (c0 : Nat) (l0 : List Int) (r : Bool) (w : World) (hr0 : Kd.C (Kd.int .u8) w A0 l0.length l0) (hc0 : l0.length ≤ c0) (h : laws_big.f l0 = some r) :
    Calls Try.prog 26 #[.slice A0 l0.length c0] w fun e w' => e = .returned (.bool r) ∧ Drawn0 w w' := by
  have HR0 := Aside0.mk hr0
  have HC0 := Aside0.mk hc0
  clear hr0 hc0
  have H : (some (decide ((l0.length : Int) > 1048576))) = some r := h
  clear h
  obtain rfl := Option.some.inj H
  go_enter Try.func26, Try.ntmps26
  go_wp2
  go_ret
  exact ⟨by first | rfl | (simp; done) | (simp [*]; done), by repeat (first | exact Drawn0.refl _ | apply Drawn0.step)⟩

/-- A state of type 52 at block g of W; what its slices lead to came in by w0. -/
def IsS52 (w0 W : World) (g : Nat) (f0 : List Int) (f1 : Int) (f2 : Int) : Prop := ∃ A0 c0, W.heap[g]? = some (.cells #[.slice A0 f0.length c0, .int .i64 f1, .int .i64 f2] 52 (0, 0)) ∧ w0.heap.size ≤ g ∧ Kd.C (Kd.int .u8) w0 A0 f0.length f0
theorem IsS52.grown {w0 W : World} {g : Nat} {f0 : List Int} {f1 : Int} {f2 : Int} {W1 : World} {row : Option Nat} (h : IsS52 w0 W g f0 f1 f2) (hw : W.grownBy W1 row) (hne : some g ≠ row) : IsS52 w0 W1 g f0 f1 f2 := by
  obtain ⟨A0, c0, hb, hg, hr0⟩ := h
  exact ⟨A0, c0, blk_grown hb hw hne, hg, hr0⟩
theorem IsS52.own_neN {w0 W : World} {g : Nat} {f0 : List Int} {f1 : Int} {f2 : Int} {α : Type} {d : Kd α} {e : Nat} {base : Nat} {ok : Nat → Prop} {v : Value} {xs : List α} (h : IsS52 w0 W g f0 f1 f2) (ho : Kd.N d e W base ok v xs) (ht : e ≠ 52) : some g ≠ v.ownBlock := by
  obtain ⟨A0, c0, hb, hg, hr0⟩ := h
  exact Kd.N_ne ho hb ht
theorem IsS52.fresh {w0 W : World} {g : Nat} {f0 : List Int} {f1 : Int} {f2 : Int} (h : IsS52 w0 W g f0 f1 f2) : ∀ k, W.heap.size ≤ k → k ≠ g := by
  obtain ⟨A0, c0, hb, hg, hr0⟩ := h
  exact Kd.freshB hb
theorem IsS52.kept {w0 W : World} {g : Nat} {f0 : List Int} {f1 : Int} {f2 : Int} {W1 : World} {S : Nat → Prop} (h : IsS52 w0 W g f0 f1 f2) (hk : Kept W W1 S) (hne : ¬ S g) : IsS52 w0 W1 g f0 f1 f2 := by
  obtain ⟨A0, c0, hb, hg, hr0⟩ := h
  exact ⟨A0, c0, blk_kept hb hk hne, hg, hr0⟩
theorem IsS52.below {w0 W : World} {g : Nat} {f0 : List Int} {f1 : Int} {f2 : Int} {W1 : World} (h : IsS52 w0 W g f0 f1 f2) (hw : Below W.heap.size W W1) : IsS52 w0 W1 g f0 f1 f2 := h.grown (grown_of_below hw none) (by simp)
theorem IsS52.alloc {w0 W : World} {g : Nat} {f0 : List Int} {f1 : Int} {f2 : Int} (h : IsS52 w0 W g f0 f1 f2) (o : Obj) : IsS52 w0 (W.alloc o) g f0 f1 f2 := h.below (below_alloc (Below.refl _ _) o)
theorem IsS52.drewN {w0 W : World} {g : Nat} {f0 : List Int} {f1 : Int} {f2 : Int} (h : IsS52 w0 W g f0 f1 f2) (m : Nat) : IsS52 w0 (W.drewN m) g f0 f1 f2 := h
theorem IsS52.drew {w0 W : World} {g : Nat} {f0 : List Int} {f1 : Int} {f2 : Int} (h : IsS52 w0 W g f0 f1 f2) : IsS52 w0 W.drew g f0 f1 f2 := h
theorem IsS52.at_ {w0 W : World} {g : Nat} {f0 : List Int} {f1 : Int} {f2 : Int} {w' : World} {m : Nat} (hq : W.drewN m = w') (h : IsS52 w0 W g f0 f1 f2) : IsS52 w0 w' g f0 f1 f2 := by subst hq; exact IsS52.drewN h m
theorem IsS52.apart {w0 W : World} {g : Nat} {f0 : List Int} {f1 : Int} {f2 : Int} {α : Type} {d : Kd α} {e : Nat} {base : Nat} {ok : Nat → Prop} {v : Value} {xs : List α} (h : IsS52 w0 W g f0 f1 f2) (ho : d.R e W base ok v xs) (ht : ∀ q, q ∈ e :: d.E → q ≠ 52) : d.R e W base (fun k => ok k ∧ k ≠ g) v xs := by
  obtain ⟨A0, c0, hb, hg, hr0⟩ := h
  exact Kd.R_types ho hb ht
theorem IsS52.own_ne {w0 W : World} {g : Nat} {f0 : List Int} {f1 : Int} {f2 : Int} {α : Type} {d : Kd α} {e : Nat} {base : Nat} {ok : Nat → Prop} {v : Value} {xs : List α} (h : IsS52 w0 W g f0 f1 f2) (ho : d.R e W base ok v xs) (ht : e ≠ 52) : some g ≠ v.ownBlock := by
  obtain ⟨A0, c0, hb, hg, hr0⟩ := h
  exact Kd.R_ne ho hb ht
theorem IsS52.apartQ {w0 W : World} {g : Nat} {f0 : List Int} {f1 : Int} {f2 : Int} {α : Type} {d : Kd α} {e : Nat} {base : Nat} {ok : Nat → Prop} {v : Value} {xs : List α} (h : IsS52 w0 W g f0 f1 f2) (ho : d.Q e W base ok v xs) (ht : ∀ q, q ∈ e :: d.E → q ≠ 52) : d.Q e W base (fun k => ok k ∧ k ≠ g) v xs := by
  obtain ⟨A0, c0, hb, hg, hr0⟩ := h
  exact Kd.Q_types ho hb ht
theorem IsS52.own_neQ {w0 W : World} {g : Nat} {f0 : List Int} {f1 : Int} {f2 : Int} {α : Type} {d : Kd α} {e : Nat} {base : Nat} {ok : Nat → Prop} {v : Value} {xs : List α} (h : IsS52 w0 W g f0 f1 f2) (ho : d.Q e W base ok v xs) (ht : e ≠ 52) : some g ≠ v.ownBlock := by
  obtain ⟨A0, c0, hb, hg, hr0⟩ := h
  exact Kd.Q_ne ho hb ht
theorem IsS52.apartS {w0 W : World} {g : Nat} {f0 : List Int} {f1 : Int} {f2 : Int} {α : Type} {d : Kd α} {e : Nat} {base : Nat} {ok : Nat → Prop} {v : Value} {xs : List α} (h : IsS52 w0 W g f0 f1 f2) (ho : d.S e W base ok v xs) (ht : ∀ q, q ∈ e :: d.E → q ≠ 52) : d.S e W base (fun k => ok k ∧ k ≠ g) v xs := by
  obtain ⟨A0, c0, hb, hg, hr0⟩ := h
  exact Kd.S_types ho hb ht
theorem IsS52.own_neS {w0 W : World} {g : Nat} {f0 : List Int} {f1 : Int} {f2 : Int} {α : Type} {d : Kd α} {e : Nat} {base : Nat} {ok : Nat → Prop} {v : Value} {xs : List α} (h : IsS52 w0 W g f0 f1 f2) (ho : d.S e W base ok v xs) (ht : e ≠ 52) : some g ≠ v.ownBlock := by
  obtain ⟨A0, c0, hb, hg, hr0⟩ := h
  exact Kd.S_ne ho hb ht
theorem IsS52.lt {w0 W : World} {g : Nat} {f0 : List Int} {f1 : Int} {f2 : Int} (h : IsS52 w0 W g f0 f1 f2) : g < W.heap.size := by
  obtain ⟨A0, c0, hb, hg, hr0⟩ := h
  exact blk_lt hb
theorem IsS52.ge {w0 W : World} {g : Nat} {f0 : List Int} {f1 : Int} {f2 : Int} (h : IsS52 w0 W g f0 f1 f2) : w0.heap.size ≤ g := by
  obtain ⟨A0, c0, hb, hg, hr0⟩ := h
  exact hg
theorem IsS52.ne_blk {w0 W : World} {g : Nat} {f0 : List Int} {f1 : Int} {f2 : Int} {a : Nat} {cs : Array Value} {t : TypeId} {fr : Nat × Nat} (h : IsS52 w0 W g f0 f1 f2) (hb2 : W.heap[a]? = some (.cells cs t fr)) (ht : t ≠ 52) : g ≠ a := by
  obtain ⟨A0, c0, hb, hg, hr0⟩ := h
  rintro rfl
  rw [hb] at hb2
  injection hb2 with hb2
  injection hb2 with _ ht2
  exact ht ht2.symm
theorem IsS52.far {w0 W : World} {g : Nat} {f0 : List Int} {f1 : Int} {f2 : Int} {p : Addr} (h : IsS52 w0 W g f0 f1 f2) (hne : g ≠ p.block) (u : Value) : IsS52 w0 (W.setCell p u) g f0 f1 f2 := by
  obtain ⟨A0, c0, hb, hg, hr0⟩ := h
  exact ⟨A0, c0, blk_far hb hne u, hg, hr0⟩
theorem cellS52_0 {W : World} {g : Nat} {A0 : Option Addr} {c0 : Nat} {f0 : List Int} {f1 : Int} {f2 : Int} (h : W.heap[g]? = some (.cells #[.slice A0 f0.length c0, .int .i64 f1, .int .i64 f2] 52 (0, 0))) : W.cell? ⟨g, 0, none⟩ = some (.slice A0 f0.length c0) := (blk_cell h 0).trans rfl
theorem cellS52_1 {W : World} {g : Nat} {A0 : Option Addr} {c0 : Nat} {f0 : List Int} {f1 : Int} {f2 : Int} (h : W.heap[g]? = some (.cells #[.slice A0 f0.length c0, .int .i64 f1, .int .i64 f2] 52 (0, 0))) : W.cell? ⟨g, 1, none⟩ = some (.int .i64 f1) := (blk_cell h 1).trans rfl
theorem IsS52.set_1 {w0 W : World} {g : Nat} {f0 : List Int} {f1 : Int} {f2 : Int} (h : IsS52 w0 W g f0 f1 f2) (x : Int) : IsS52 w0 (W.setCell ⟨g, 1, none⟩ (.int .i64 x)) g f0 x f2 := by
  obtain ⟨A0, c0, hb, hg, hr0⟩ := h
  exact ⟨A0, c0, by simpa using blk_set hb 1 (.int .i64 x), hg, hr0⟩
theorem cellS52_2 {W : World} {g : Nat} {A0 : Option Addr} {c0 : Nat} {f0 : List Int} {f1 : Int} {f2 : Int} (h : W.heap[g]? = some (.cells #[.slice A0 f0.length c0, .int .i64 f1, .int .i64 f2] 52 (0, 0))) : W.cell? ⟨g, 2, none⟩ = some (.int .i64 f2) := (blk_cell h 2).trans rfl
theorem IsS52.set_2 {w0 W : World} {g : Nat} {f0 : List Int} {f1 : Int} {f2 : Int} (h : IsS52 w0 W g f0 f1 f2) (x : Int) : IsS52 w0 (W.setCell ⟨g, 2, none⟩ (.int .i64 x)) g f0 f1 x := by
  obtain ⟨A0, c0, hb, hg, hr0⟩ := h
  exact ⟨A0, c0, by simpa using blk_set hb 2 (.int .i64 x), hg, hr0⟩
theorem IsS52.new (w0 W : World) (A0 : Option Addr) (c0 : Nat) (f0 : List Int) (f1 : Int) (f2 : Int) (hB : Below w0.heap.size w0 W) (hr0 : Kd.C (Kd.int .u8) w0 A0 f0.length f0) : IsS52 w0 (W.alloc (.cells #[.slice A0 f0.length c0, .int .i64 f1, .int .i64 f2] 52)) W.heap.size f0 f1 f2 := ⟨A0, c0, by simpa using heap_alloc_new W _, hB.size, hr0⟩

/-! ### spec_l1New: function 33 -/
def spec_l1New.l0 : Nat → List Int → Int → Int → Option (List Int × Int × Int)
  | 0, _, _, _ => none
  | k + 1, x0, x3, x4 => if x4 < (x0.length : Int) then (if x4 < 4000 then (if 0 ≤ x4 then (spec_l1New.l0 k x0 (Go.bits .and .i64 (wrap64 ((wrap64 ((wrap64 (x3 * 131)) + (wrap64 (rd x0 x4)))) + 7)) 1073741823) (wrap64 (x4 + 1))) else (none)) else (some (x0, 0, x3))) else (some (x0, 0, x3))
def spec_l1New.f (k : Nat) (l0 : List Int) : Option (List Int × Int × Int) := spec_l1New.l0 k l0 (wrap64 (25252 + (l0.length : Int))) 0
theorem spec_l1New.mono_l : ∀ k, (∀ y0 y1 y2, LeO (spec_l1New.l0 k y0 y1 y2) (spec_l1New.l0 (k + 1) y0 y1 y2))
  | 0 => fun _ _ _ r h => by simp [spec_l1New.l0] at h
  | k + 1 => by
    have ih0 := spec_l1New.mono_l k
    · intro y0 y1 y2
      unfold spec_l1New.l0
      repeat' first
      | (with_reducible exact ih0 _ _ _)
      | (with_reducible exact LeO.refl _)
      | (with_reducible exact LeO.none _)
      | (with_reducible refine LeO.ite ?_ ?_)
      | (with_reducible refine LeO.bind ?_ (fun _ => ?_))
      | exact ih0 _ _ _
      | exact LeO.none _
      | refine LeO.ite ?_ ?_
      | refine LeO.bind ?_ (fun _ => ?_)
theorem spec_l1New.mono : ∀ a0 k, LeO (spec_l1New.f k a0) (spec_l1New.f (k + 1) a0) := by
  intro a0 k
  have ih0 := spec_l1New.mono_l k
  unfold spec_l1New.f
  repeat' first
      | (with_reducible exact ih0 _ _ _)
      | (with_reducible exact LeO.refl _)
      | (with_reducible exact LeO.none _)
      | (with_reducible refine LeO.ite ?_ ?_)
      | (with_reducible refine LeO.bind ?_ (fun _ => ?_))
      | exact ih0 _ _ _
      | exact LeO.none _
      | refine LeO.ite ?_ ?_
      | refine LeO.bind ?_ (fun _ => ?_)
set_option maxHeartbeats 8000000 in
set_option maxRecDepth 100000 in
theorem spec_l1New.calls (k : Nat) (A0 : Option Addr) (c0 : Nat) (l0 : List Int) (r1 : List Int) (r2 : Int) (r3 : Int) (w0 w : World) (hB : Below w0.heap.size w0 w) (hr0 : Kd.C (Kd.int .u8) w0 A0 l0.length l0) (hc0 : l0.length ≤ c0) (h : spec_l1New.f k l0 = some (r1, r2, r3)) :
    Calls Try.prog 33 #[.slice A0 l0.length c0] w fun e w' => ∃ g_ : Nat, e = .returned (.pointer (some ⟨g_, 0, none⟩)) ∧ IsS52 w0 w' g_ r1 r2 r3 ∧ Below w0.heap.size w0 w' ∧ Below w.heap.size w w' := by
  have hu52 := Try.underlying52
  have HR0 := Aside0.mk hr0
  have HC0 := Aside0.mk hc0
  clear hr0 hc0
  have HBW := Aside0.mk (Below.refl w.heap.size w)
  have HW0 := Aside0.mk hB.size
  have HB := Aside0.mk hB
  clear hB
  have H : (spec_l1New.l0 k l0 (wrap64 (25252 + (l0.length : Int))) 0) = some (r1, r2, r3) := h
  clear h
  have H' := Aside0.mk H
  clear H
  go_enter Try.func33, Try.ntmps33
  go_wp2
  go_loopg [3, 4] k (fun kq v3 v4 w' => ∃ (x3_1 : Int) (x4_1 : Int), v3 = .int .i64 x3_1 ∧ v4 = .int .i64 x4_1 ∧ Aside0 (spec_l1New.l0 kq l0 x3_1 x4_1 = some (r1, r2, r3)) ∧ Aside0 (kq ≤ k) ∧ Aside0 (Below w0.heap.size w0 w') ∧ Aside0 (Below w.heap.size w w'))
  case atStart => exact ⟨(wrap64 (25252 + (l0.length : Int))), (0), (by first | rfl | (simp; done) | (simp [*]; done)), (by first | rfl | (simp; done) | (simp [*]; done)), H', ⟨Nat.le_refl _⟩, ⟨by repeat (first | (with_reducible first | exact HB.out | apply below_alloc | apply pw_below_drewN | apply below_drew1) | exact HB.out)⟩, ⟨by repeat (first | (with_reducible first | exact HBW.out | apply below_alloc | apply pw_below_drewN | apply below_drew1) | exact HBW.out)⟩⟩
  case round =>
    clear H'
    obtain ⟨x3_1, x4_1, rfl, rfl, HA, HK1, HB, HBW⟩ := hrel
    cases gk with
    | zero => exact absurd HA.out (by simp [spec_l1New.l0])
    | succ k1 =>
      have H := HA.out
      clear HA
      simp only [spec_l1New.l0] at H
      by_cases c2 : x4_1 < (l0.length : Int)
      · rw [if_pos c2] at H
        have c2b0 : decide (x4_1 < (l0.length : Int)) = true := decide_eq_true c2
        clear c2
        by_cases c3 : x4_1 < 4000
        · rw [if_pos c3] at H
          have c3b0 : decide (x4_1 < 4000) = true := decide_eq_true c3
          clear c3
          by_cases c4 : 0 ≤ x4_1
          · rw [if_pos c4] at H
            have c4b0 : decide (0 ≤ x4_1) = true := decide_eq_true c4
            clear c4
            have H' := Aside0.mk H
            clear H
            have p103 : 0 ≤ (x4_1 : Int) := of_decide_eq_true (by first | (with_reducible assumption) | assumption)
            have q103 : x4_1 < (l0.length : Int) := of_decide_eq_true (by first | (with_reducible assumption) | assumption)
            obtain ⟨ad103, e103, hx103_0⟩ := Kd.at_int HR0.out x4_1 p103 q103
            cases e103
            replace hx103_0 := pw_cell_below HB.out hx103_0
            replace p103 := eq_true p103
            replace q103 := eq_true q103
            go_wp2
            go_roundg k1
            case measure => have := HK1.out; omega
            case rel => exact ⟨(Go.bits .and .i64 (wrap64 ((wrap64 ((wrap64 (x3_1 * 131)) + (wrap64 (rd l0 x4_1)))) + 7)) 1073741823), (wrap64 (x4_1 + 1)), (by first | rfl | (simp; done) | (simp [*]; done)), (by first | rfl | (simp; done) | (simp [*]; done)), H', ⟨by have := HK1.out; omega⟩, ⟨by repeat (first | (with_reducible first | exact HB.out | apply below_alloc | apply pw_below_drewN | apply below_drew1) | exact HB.out)⟩, ⟨by repeat (first | (with_reducible first | exact HBW.out | apply below_alloc | apply pw_below_drewN | apply below_drew1) | exact HBW.out)⟩⟩
          · rw [if_neg c4] at H
            exact absurd H (by simp)
        · rw [if_neg c3] at H
          have c3b0 : decide (x4_1 < 4000) = false := decide_eq_false c3
          clear c3
          simp only [Option.some.injEq, Prod.mk.injEq] at H
          obtain ⟨rfl, rfl, rfl⟩ := H
          go_wp2_with (first | ((with_reducible refine gate_dst (N := 31) rfl ?_); refine box_event ?hg (N := 31) ?hd (cs := #[.slice A0 l0.length c0, .int .i64 0, .int .i64 x3_1]) (t := 52) ?hr ?_; (case hd => rfl); (case hg => rfl); (case hr => first | (go_simp; done) | (go_simp; rfl)); intro gb104 hg w5 hbox hb; have n0_ := Aside0.mk (below_step HBW.out hb); have n1_ := Aside0.mk (below_step (by repeat (first | (with_reducible first | exact HB.out | apply below_alloc | apply pw_below_drewN | apply below_drew1) | exact HB.out)) hb); have n2_ := Aside0.mk (hbox); have n3_ := Aside0.mk ((by rw [hg]; exact (below_size (by repeat (first | (with_reducible first | exact HBW.out | apply below_alloc | apply pw_below_drewN | apply below_drew1) | exact HBW.out))) : w.heap.size ≤ gb104)); have n4_ := Aside0.mk ((Nat.le_trans HW0.out (by rw [hg]; exact (below_size (by repeat (first | (with_reducible first | exact HBW.out | apply below_alloc | apply pw_below_drewN | apply below_drew1) | exact HBW.out))) : w.heap.size ≤ gb104) : w0.heap.size ≤ gb104)); clear HBW; clear HB; have HBW := n0_; have HB := n1_; have BK104 := n2_; have GW104 := n3_; have GE104 := n4_; clear n0_ n1_ n2_ n3_ n4_; clear hb hbox hg))
          go_ret
          exact ⟨_, rfl, (show IsS52 w0 _ gb104 l0 0 x3_1 from ⟨_, _, by (with_reducible repeat (first | refine blk_drewN ?_ _ | refine blk_drew ?_ | refine blk_alloc ?_ _)); exact BK104.out, GE104.out, HR0.out⟩), by repeat (first | (with_reducible first | exact HB.out | apply below_alloc | apply pw_below_drewN | apply below_drew1 | refine below_set ?_ GE104.out) | exact HB.out), by repeat (first | (with_reducible first | exact HBW.out | apply below_alloc | apply pw_below_drewN | apply below_drew1 | refine below_set ?_ GW104.out) | exact HBW.out)⟩
      · rw [if_neg c2] at H
        have c2b0 : decide (x4_1 < (l0.length : Int)) = false := decide_eq_false c2
        clear c2
        simp only [Option.some.injEq, Prod.mk.injEq] at H
        obtain ⟨rfl, rfl, rfl⟩ := H
        go_wp2_with (first | ((with_reducible refine gate_dst (N := 31) rfl ?_); refine box_event ?hg (N := 31) ?hd (cs := #[.slice A0 l0.length c0, .int .i64 0, .int .i64 x3_1]) (t := 52) ?hr ?_; (case hd => rfl); (case hg => rfl); (case hr => first | (go_simp; done) | (go_simp; rfl)); intro gb105 hg w6 hbox hb; have n0_ := Aside0.mk (below_step HBW.out hb); have n1_ := Aside0.mk (below_step (by repeat (first | (with_reducible first | exact HB.out | apply below_alloc | apply pw_below_drewN | apply below_drew1) | exact HB.out)) hb); have n2_ := Aside0.mk (hbox); have n3_ := Aside0.mk ((by rw [hg]; exact (below_size (by repeat (first | (with_reducible first | exact HBW.out | apply below_alloc | apply pw_below_drewN | apply below_drew1) | exact HBW.out))) : w.heap.size ≤ gb105)); have n4_ := Aside0.mk ((Nat.le_trans HW0.out (by rw [hg]; exact (below_size (by repeat (first | (with_reducible first | exact HBW.out | apply below_alloc | apply pw_below_drewN | apply below_drew1) | exact HBW.out))) : w.heap.size ≤ gb105) : w0.heap.size ≤ gb105)); clear HBW; clear HB; have HBW := n0_; have HB := n1_; have BK105 := n2_; have GW105 := n3_; have GE105 := n4_; clear n0_ n1_ n2_ n3_ n4_; clear hb hbox hg))
        go_ret
        exact ⟨_, rfl, (show IsS52 w0 _ gb105 l0 0 x3_1 from ⟨_, _, by (with_reducible repeat (first | refine blk_drewN ?_ _ | refine blk_drew ?_ | refine blk_alloc ?_ _)); exact BK105.out, GE105.out, HR0.out⟩), by repeat (first | (with_reducible first | exact HB.out | apply below_alloc | apply pw_below_drewN | apply below_drew1 | refine below_set ?_ GE105.out) | exact HB.out), by repeat (first | (with_reducible first | exact HBW.out | apply below_alloc | apply pw_below_drewN | apply below_drew1 | refine below_set ?_ GW105.out) | exact HBW.out)⟩

end Go.Proofs.Ytjbocmkphnmfgaa.PFnSums
