-- By this session's own program (wip/xprint.py), over the kit's print.
import Derived.Test.YtjbocmkphnmfgaaPFnExactFloatUnrankx0
import Derived.Test.YtjbocmkphnmfgaaPFnExactFloatUnrankx1
namespace Go.Proofs.Ytjbocmkphnmfgaa.PFnExactFloatUnrank
open Go.RowKit Go.Proofs.YtjbocmkphnmfgaaW.PrintWords Go.Proofs.YtjbocmkphnmfgaaW.PrintLast Go.Proofs.YtjbocmkphnmfgaaW.PrintMore
attribute [local go_sem] max2_int min2_int max_two min_two max_three min_three max_four min_four   -- for this text's walks alone
attribute [local go_sem high] fl_eql fl_neq fl_lss fl_leq fl_gtr fl_geq fl_add fl_sub fl_mul fl_quo fl_neg fl_ofInt fl_toInt fl_store ext_bits ext_from fl_nan_quo fl_nan_add fl_nan_mul fl_nan_sub
set_option linter.unusedVariables false
set_option linter.unusedSimpArgs false

/-! ### spec_FloatBits: function 11 -/
mutual
def spec_FloatBits.j0 : Nat → Nat → Int → Nat → Bool → Option (Int)
  | 0, _, _, _, _ => none
  | k + 1, x0, x3, x4, x20 => if x20 = true then (spec_FloatBits.j1 k 9223372036854775808 (fneg x0)) else (spec_FloatBits.j1 k x3 x4)
def spec_FloatBits.j1 : Nat → Int → Nat → Option (Int)
  | 0, _, _ => none
  | k + 1, x3, x4 => if (feq x4 0) = true then (some x3) else (if (fgt x4 9218868437227405311) = true then (some (Go.bits .or .u64 x3 9218868437227405312)) else (spec_FloatBits.l0 k x3 x4 0))
def spec_FloatBits.l0 : Nat → Int → Nat → Int → Option (Int)
  | 0, _, _, _ => none
  | k + 1, x3, x4, x5 => if (fge x4 4611686018427387904) = true then (if (fok .quo x4 4611686018427387904) = true then (spec_FloatBits.l0 k x3 (fval .quo x4 4611686018427387904) (wrap64 (x5 + 1))) else (none)) else (spec_FloatBits.l1 k x3 x4 x5)
def spec_FloatBits.l1 : Nat → Int → Nat → Int → Option (Int)
  | 0, _, _, _ => none
  | k + 1, x3, x4, x5 => if (fls x4 4607182418800017408) = true then (if x5 > (-1022) then (if (fok .mul x4 4611686018427387904) = true then (spec_FloatBits.l1 k x3 (fval .mul x4 4611686018427387904) (wrap64 (x5 - 1))) else (none)) else (if (fok .mul x4 4841369599423283200) = true then (if (fiok .u64 (fval .mul x4 4841369599423283200)) = true then (some (Go.bits .or .u64 x3 (fival .u64 (fval .mul x4 4841369599423283200)))) else (none)) else (none))) else (if (fok .sub x4 4607182418800017408) = true then (if (fok .mul (fval .sub x4 4607182418800017408) 4841369599423283200) = true then (if (fiok .u64 (fval .mul (fval .sub x4 4607182418800017408) 4841369599423283200)) = true then (some (Go.bits .or .u64 (Go.bits .or .u64 x3 (IntKind.u64.wrap ((IntKind.u64.wrap (wrap64 (x5 + 1023))) * 4503599627370496))) (fival .u64 (fval .mul (fval .sub x4 4607182418800017408) 4841369599423283200)))) else (none)) else (none)) else (none))
end
def spec_FloatBits.f (k : Nat) (a0 : Nat) : Option (Int) := if ((feq a0 a0) = true) then (if (fls a0 0) = true then (spec_FloatBits.j0 k a0 0 a0 true) else (if (feq a0 0) = true then (if (fok .quo 4607182418800017408 a0) = true then (spec_FloatBits.j0 k a0 0 a0 (fls (fval .quo 4607182418800017408 a0) 0)) else (none)) else (spec_FloatBits.j0 k a0 0 a0 false))) else (some 9221120237041090560)
theorem spec_FloatBits.mono_l : ∀ k, (∀ y0 y1 y2 y3, LeO (spec_FloatBits.j0 k y0 y1 y2 y3) (spec_FloatBits.j0 (k + 1) y0 y1 y2 y3)) ∧ (∀ y0 y1, LeO (spec_FloatBits.j1 k y0 y1) (spec_FloatBits.j1 (k + 1) y0 y1)) ∧ (∀ y0 y1 y2, LeO (spec_FloatBits.l0 k y0 y1 y2) (spec_FloatBits.l0 (k + 1) y0 y1 y2)) ∧ (∀ y0 y1 y2, LeO (spec_FloatBits.l1 k y0 y1 y2) (spec_FloatBits.l1 (k + 1) y0 y1 y2))
  | 0 => ⟨fun _ _ _ _ r h => by simp [spec_FloatBits.j0] at h, fun _ _ r h => by simp [spec_FloatBits.j1] at h, fun _ _ _ r h => by simp [spec_FloatBits.l0] at h, fun _ _ _ r h => by simp [spec_FloatBits.l1] at h⟩
  | k + 1 => by
    obtain ⟨ih0, ih1, ih2, ih3⟩ := spec_FloatBits.mono_l k
    refine ⟨?_, ?_, ?_, ?_⟩
    · intro y0 y1 y2 y3
      unfold spec_FloatBits.j0
      repeat' first
      | (with_reducible exact ih0 _ _ _ _)
      | (with_reducible exact ih1 _ _)
      | (with_reducible exact ih2 _ _ _)
      | (with_reducible exact ih3 _ _ _)
      | (with_reducible exact LeO.refl _)
      | (with_reducible exact LeO.none _)
      | (with_reducible refine LeO.ite ?_ ?_)
      | (with_reducible refine LeO.bind ?_ (fun _ => ?_))
      | exact ih0 _ _ _ _
      | exact ih1 _ _
      | exact ih2 _ _ _
      | exact ih3 _ _ _
      | exact LeO.none _
      | refine LeO.ite ?_ ?_
      | refine LeO.bind ?_ (fun _ => ?_)
    · intro y0 y1
      unfold spec_FloatBits.j1
      repeat' first
      | (with_reducible exact ih0 _ _ _ _)
      | (with_reducible exact ih1 _ _)
      | (with_reducible exact ih2 _ _ _)
      | (with_reducible exact ih3 _ _ _)
      | (with_reducible exact LeO.refl _)
      | (with_reducible exact LeO.none _)
      | (with_reducible refine LeO.ite ?_ ?_)
      | (with_reducible refine LeO.bind ?_ (fun _ => ?_))
      | exact ih0 _ _ _ _
      | exact ih1 _ _
      | exact ih2 _ _ _
      | exact ih3 _ _ _
      | exact LeO.none _
      | refine LeO.ite ?_ ?_
      | refine LeO.bind ?_ (fun _ => ?_)
    · intro y0 y1 y2
      unfold spec_FloatBits.l0
      repeat' first
      | (with_reducible exact ih0 _ _ _ _)
      | (with_reducible exact ih1 _ _)
      | (with_reducible exact ih2 _ _ _)
      | (with_reducible exact ih3 _ _ _)
      | (with_reducible exact LeO.refl _)
      | (with_reducible exact LeO.none _)
      | (with_reducible refine LeO.ite ?_ ?_)
      | (with_reducible refine LeO.bind ?_ (fun _ => ?_))
      | exact ih0 _ _ _ _
      | exact ih1 _ _
      | exact ih2 _ _ _
      | exact ih3 _ _ _
      | exact LeO.none _
      | refine LeO.ite ?_ ?_
      | refine LeO.bind ?_ (fun _ => ?_)
    · intro y0 y1 y2
      unfold spec_FloatBits.l1
      repeat' first
      | (with_reducible exact ih0 _ _ _ _)
      | (with_reducible exact ih1 _ _)
      | (with_reducible exact ih2 _ _ _)
      | (with_reducible exact ih3 _ _ _)
      | (with_reducible exact LeO.refl _)
      | (with_reducible exact LeO.none _)
      | (with_reducible refine LeO.ite ?_ ?_)
      | (with_reducible refine LeO.bind ?_ (fun _ => ?_))
      | exact ih0 _ _ _ _
      | exact ih1 _ _
      | exact ih2 _ _ _
      | exact ih3 _ _ _
      | exact LeO.none _
      | refine LeO.ite ?_ ?_
      | refine LeO.bind ?_ (fun _ => ?_)
theorem spec_FloatBits.mono : ∀ a0 k, LeO (spec_FloatBits.f k a0) (spec_FloatBits.f (k + 1) a0) := by
  intro a0 k
  obtain ⟨ih0, ih1, ih2, ih3⟩ := spec_FloatBits.mono_l k
  unfold spec_FloatBits.f
  repeat' first
      | (with_reducible exact ih0 _ _ _ _)
      | (with_reducible exact ih1 _ _)
      | (with_reducible exact ih2 _ _ _)
      | (with_reducible exact ih3 _ _ _)
      | (with_reducible exact LeO.refl _)
      | (with_reducible exact LeO.none _)
      | (with_reducible refine LeO.ite ?_ ?_)
      | (with_reducible refine LeO.bind ?_ (fun _ => ?_))
      | exact ih0 _ _ _ _
      | exact ih1 _ _
      | exact ih2 _ _ _
      | exact ih3 _ _ _
      | exact LeO.none _
      | refine LeO.ite ?_ ?_
      | refine LeO.bind ?_ (fun _ => ?_)
set_option maxHeartbeats 8000000 in
set_option maxRecDepth 100000 in
theorem spec_FloatBits.calls (k : Nat) (a0 : Nat) (r : Int) (w : World) (h : spec_FloatBits.f k a0 = some r) :
    Calls Try.prog 11 #[.float .f64 a0] w fun e w' => e = .returned (.int .u64 r) ∧ Drawn0 w w' := by
  have H : (if ((feq a0 a0) = true) then (if (fls a0 0) = true then (spec_FloatBits.j0 k a0 0 a0 true) else (if (feq a0 0) = true then (if (fok .quo 4607182418800017408 a0) = true then (spec_FloatBits.j0 k a0 0 a0 (fls (fval .quo 4607182418800017408 a0) 0)) else (none)) else (spec_FloatBits.j0 k a0 0 a0 false))) else (some 9221120237041090560)) = some r := h
  clear h
  by_cases c2 : ((feq a0 a0) = true)
  · rw [if_pos c2] at H
    have c2b0 : (feq a0 a0) = true := c2
    clear c2
    have HC3 := Aside0.mk H
    clear H
    go_enter Try.func11, Try.ntmps11
    go_upto_region 5 with (fail)
    go_cut [20] (fun v20 wc => ∃ (kq : Nat) (x20_2 : Bool), v20 = .bool x20_2 ∧ Aside0 (spec_FloatBits.j0 kq a0 0 a0 x20_2 = some r) ∧ Aside0 (kq ≤ k) ∧ Drawn0 w wc)
    case first =>
      have H := HC3.out
      clear HC3
      by_cases c4 : (fls a0 0) = true
      · rw [if_pos c4] at H
        have c4b0 : (fls a0 0) = true := c4
        clear c4
        (first | rw [c4b0] | (simp only [i64_w, i32_w]; rw [c4b0]) | skip)
        have H' := Aside0.mk H
        clear H
        go_wp2
        go_meet
        case rel => exact ⟨_, (true), (by first | rfl | (simp; done) | (simp [*]; done)), H', ⟨by first | omega | exact Nat.le_refl _⟩, by repeat (first | exact Drawn0.refl _ | apply Drawn0.step)⟩
      · rw [if_neg c4] at H
        have c4b0 : (fls a0 0) = false := by simpa using c4
        clear c4
        (first | rw [c4b0] | (simp only [i64_w, i32_w]; rw [c4b0]) | skip)
        by_cases c5 : (feq a0 0) = true
        · rw [if_pos c5] at H
          have c5b0 : (feq a0 0) = true := c5
          clear c5
          by_cases c6 : (fok .quo 4607182418800017408 a0) = true
          · rw [if_pos c6] at H
            have c6b0 : (fok .quo 4607182418800017408 a0) = true := c6
            clear c6
            have H' := Aside0.mk H
            clear H
            go_wp2
            go_meet
            case rel => exact ⟨_, ((fls (fval .quo 4607182418800017408 a0) 0)), (by first | rfl | (simp; done) | (simp [*]; done)), H', ⟨by first | omega | exact Nat.le_refl _⟩, by repeat (first | exact Drawn0.refl _ | apply Drawn0.step)⟩
          · rw [if_neg c6] at H
            exact absurd H (by simp)
        · rw [if_neg c5] at H
          have c5b0 : (feq a0 0) = false := by simpa using c5
          clear c5
          have H' := Aside0.mk H
          clear H
          go_wp2
          go_meet
          case rel => exact ⟨_, (false), (by first | rfl | (simp; done) | (simp [*]; done)), H', ⟨by first | omega | exact Nat.le_refl _⟩, by repeat (first | exact Drawn0.refl _ | apply Drawn0.step)⟩
    case rest =>
      clear HC3
      try clear c1
      try clear c2
      try clear c2b0
      try clear p2
      try clear c4
      try clear c4b0
      try clear c5
      try clear c5b0
      try clear c6
      try clear c6b0
      obtain ⟨kq, x20_2, rfl, HA, HJ2, ⟨mc2, rfl⟩⟩ := hcut
      cases kq with
      | zero => exact absurd HA.out (by simp [spec_FloatBits.j0])
      | succ kj2 =>
        have H := HA.out
        clear HA
        simp only [spec_FloatBits.j0] at H
        have HC7 := Aside0.mk H
        clear H
        go_upto_if 20 with (fail)
        go_cut [3, 4] (fun v3 v4 wc => ∃ (kq : Nat) (x3_6 : Int) (x4_6 : Nat), v3 = .int .u64 x3_6 ∧ v4 = .float .f64 x4_6 ∧ Aside0 (spec_FloatBits.j1 kq x3_6 x4_6 = some r) ∧ Aside0 (kq ≤ kj2) ∧ Drawn0 w wc)
        case first =>
          have H := HC7.out
          clear HC7
          by_cases c8 : x20_2 = true
          · subst c8
            have H1 : (spec_FloatBits.j1 kj2 9223372036854775808 (fneg a0)) = some r := by rw [if_pos rfl] at H; exact H
            clear H
            have H := H1
            clear H1
            have H' := Aside0.mk H
            clear H
            go_wp2
            go_meet
            case rel => exact ⟨_, (9223372036854775808), (fneg a0), (by first | rfl | (simp; done) | (simp [*]; done)), (by first | rfl | (simp; done) | (simp [*]; done)), H', ⟨by have := HJ2.out; first | omega | exact Nat.le_refl _⟩, by repeat (first | exact Drawn0.refl _ | apply Drawn0.step)⟩
          · replace c8 := Bool.eq_false_iff.mpr c8
            subst c8
            have H1 : (spec_FloatBits.j1 kj2 0 a0) = some r := by rw [if_neg (show ¬ (false = true) by decide)] at H; exact H
            clear H
            have H := H1
            clear H1
            have H' := Aside0.mk H
            clear H
            go_wp2
            go_meet
            case rel => exact ⟨_, (0), (a0), (by first | rfl | (simp; done) | (simp [*]; done)), (by first | rfl | (simp; done) | (simp [*]; done)), H', ⟨by have := HJ2.out; first | omega | exact Nat.le_refl _⟩, by repeat (first | exact Drawn0.refl _ | apply Drawn0.step)⟩
        case rest =>
          clear HC7
          try clear c1
          try clear c2
          try clear c2b0
          try clear p2
          try clear c4
          try clear c4b0
          try clear c5
          try clear c5b0
          try clear c6
          try clear c6b0
          try clear c8
          try clear p2
          obtain ⟨kq, x3_6, x4_6, rfl, rfl, HA, HJ6, ⟨mc6, rfl⟩⟩ := hcut
          cases kq with
          | zero => exact absurd HA.out (by simp [spec_FloatBits.j1])
          | succ kj6 =>
            have H := HA.out
            clear HA
            simp only [spec_FloatBits.j1] at H
            by_cases c9 : (feq x4_6 0) = true
            · rw [if_pos c9] at H
              have c9b0 : (feq x4_6 0) = true := c9
              clear c9
              obtain rfl := Option.some.inj H
              go_wp2
              go_ret
              exact ⟨by first | rfl | (simp; done) | (simp [*]; done), by repeat (first | exact Drawn0.refl _ | apply Drawn0.step)⟩
            · rw [if_neg c9] at H
              have c9b0 : (feq x4_6 0) = false := by simpa using c9
              clear c9
              by_cases c10 : (fgt x4_6 9218868437227405311) = true
              · rw [if_pos c10] at H
                have c10b0 : (fgt x4_6 9218868437227405311) = true := c10
                clear c10
                obtain rfl := Option.some.inj H
                go_wp2
                go_ret
                exact ⟨by first | rfl | (simp; done) | (simp [*]; done), by repeat (first | exact Drawn0.refl _ | apply Drawn0.step)⟩
              · rw [if_neg c10] at H
                have c10b0 : (fgt x4_6 9218868437227405311) = false := by simpa using c10
                clear c10
                have H' := Aside0.mk H
                clear H
                go_wp2
                go_loopg [4, 5] kj6 (fun kq v4 v5 w' => ∃ (x4_3 : Nat) (x5_3 : Int), v4 = .float .f64 x4_3 ∧ v5 = .int .i64 x5_3 ∧ Aside0 (spec_FloatBits.l0 kq x3_6 x4_3 x5_3 = some r) ∧ Aside0 (kq ≤ kj6) ∧ Drawn0 w w')
                case atStart => exact ⟨(x4_6), (0), (by first | rfl | (simp; done) | (simp [*]; done)), (by first | rfl | (simp; done) | (simp [*]; done)), H', ⟨Nat.le_refl _⟩, by repeat (first | exact Drawn0.refl _ | apply Drawn0.step)⟩
                case round =>
                  clear H'
                  try clear c1
                  try clear c2
                  try clear c2b0
                  try clear p2
                  try clear c4
                  try clear c4b0
                  try clear c5
                  try clear c5b0
                  try clear c6
                  try clear c6b0
                  try clear c8
                  try clear c9
                  try clear c9b0
                  try clear c10
                  try clear c10b0
                  try clear p2
                  obtain ⟨x4_3, x5_3, rfl, rfl, HA, HK3, ⟨m3, rfl⟩⟩ := hrel
                  cases gk with
                  | zero => exact absurd HA.out (by simp [spec_FloatBits.l0])
                  | succ k3 =>
                    have H := HA.out
                    clear HA
                    simp only [spec_FloatBits.l0] at H
                    by_cases c11 : (fge x4_3 4611686018427387904) = true
                    · rw [if_pos c11] at H
                      have c11b0 : (fge x4_3 4611686018427387904) = true := c11
                      clear c11
                      by_cases c12 : (fok .quo x4_3 4611686018427387904) = true
                      · rw [if_pos c12] at H
                        have c12b0 : (fok .quo x4_3 4611686018427387904) = true := c12
                        clear c12
                        have H' := Aside0.mk H
                        clear H
                        go_wp2
                        go_roundg k3
                        case measure => have := HJ2.out; have := HJ6.out; have := HK3.out; omega
                        case rel => exact ⟨(fval .quo x4_3 4611686018427387904), (wrap64 (x5_3 + 1)), (by first | rfl | (simp; done) | (simp [*]; done)), (by first | rfl | (simp; done) | (simp [*]; done)), H', ⟨by have := HJ2.out; have := HJ6.out; have := HK3.out; omega⟩, by repeat (first | exact Drawn0.refl _ | apply Drawn0.step)⟩
                      · rw [if_neg c12] at H
                        exact absurd H (by simp)
                    · rw [if_neg c11] at H
                      have c11b0 : (fge x4_3 4611686018427387904) = false := by simpa using c11
                      clear c11
                      have H' := Aside0.mk H
                      clear H
                      go_wp2
                      go_loopg [4, 5] k3 (fun kq v4 v5 w' => ∃ (x4_4 : Nat) (x5_4 : Int), v4 = .float .f64 x4_4 ∧ v5 = .int .i64 x5_4 ∧ Aside0 (spec_FloatBits.l1 kq x3_6 x4_4 x5_4 = some r) ∧ Aside0 (kq ≤ k3) ∧ Drawn0 w w')
                      case atStart => exact ⟨(x4_3), (x5_3), (by first | rfl | (simp; done) | (simp [*]; done)), (by first | rfl | (simp; done) | (simp [*]; done)), H', ⟨Nat.le_refl _⟩, by repeat (first | exact Drawn0.refl _ | apply Drawn0.step)⟩
                      case round =>
                        clear H'
                        try clear c1
                        try clear c2
                        try clear c2b0
                        try clear p2
                        try clear c4
                        try clear c4b0
                        try clear c5
                        try clear c5b0
                        try clear c6
                        try clear c6b0
                        try clear p6
                        try clear c8
                        try clear c9
                        try clear c9b0
                        try clear c10
                        try clear c10b0
                        try clear c11
                        try clear c11b0
                        try clear c12
                        try clear c12b0
                        try clear p2
                        obtain ⟨x4_4, x5_4, rfl, rfl, HA, HK4, ⟨m4, rfl⟩⟩ := hrel
                        cases gk with
                        | zero => exact absurd HA.out (by simp [spec_FloatBits.l1])
                        | succ k4 =>
                          have H := HA.out
                          clear HA
                          simp only [spec_FloatBits.l1] at H
                          by_cases c13 : (fls x4_4 4607182418800017408) = true
                          · rw [if_pos c13] at H
                            have c13b0 : (fls x4_4 4607182418800017408) = true := c13
                            clear c13
                            by_cases c14 : x5_4 > (-1022)
                            · rw [if_pos c14] at H
                              have c14b0 : decide ((-1022) < x5_4) = true := decide_eq_true c14
                              clear c14
                              by_cases c15 : (fok .mul x4_4 4611686018427387904) = true
                              · rw [if_pos c15] at H
                                have c15b0 : (fok .mul x4_4 4611686018427387904) = true := c15
                                clear c15
                                have H' := Aside0.mk H
                                clear H
                                go_wp2
                                go_roundg k4
                                case measure => have := HJ2.out; have := HJ6.out; have := HK3.out; have := HK4.out; omega
                                case rel => exact ⟨(fval .mul x4_4 4611686018427387904), (wrap64 (x5_4 - 1)), (by first | rfl | (simp; done) | (simp [*]; done)), (by first | rfl | (simp; done) | (simp [*]; done)), H', ⟨by have := HJ2.out; have := HJ6.out; have := HK3.out; have := HK4.out; omega⟩, by repeat (first | exact Drawn0.refl _ | apply Drawn0.step)⟩
                              · rw [if_neg c15] at H
                                exact absurd H (by simp)
                            · rw [if_neg c14] at H
                              have c14b0 : decide ((-1022) < x5_4) = false := decide_eq_false c14
                              clear c14
                              by_cases c16 : (fok .mul x4_4 4841369599423283200) = true
                              · rw [if_pos c16] at H
                                have c16b0 : (fok .mul x4_4 4841369599423283200) = true := c16
                                clear c16
                                by_cases c17 : (fiok .u64 (fval .mul x4_4 4841369599423283200)) = true
                                · rw [if_pos c17] at H
                                  have c17b0 : (fiok .u64 (fval .mul x4_4 4841369599423283200)) = true := c17
                                  clear c17
                                  obtain rfl := Option.some.inj H
                                  go_wp2
                                  go_ret
                                  exact ⟨by first | rfl | (simp; done) | (simp [*]; done), by repeat (first | exact Drawn0.refl _ | apply Drawn0.step)⟩
                                · rw [if_neg c17] at H
                                  exact absurd H (by simp)
                              · rw [if_neg c16] at H
                                exact absurd H (by simp)
                          · rw [if_neg c13] at H
                            have c13b0 : (fls x4_4 4607182418800017408) = false := by simpa using c13
                            clear c13
                            by_cases c18 : (fok .sub x4_4 4607182418800017408) = true
                            · rw [if_pos c18] at H
                              have c18b0 : (fok .sub x4_4 4607182418800017408) = true := c18
                              clear c18
                              by_cases c19 : (fok .mul (fval .sub x4_4 4607182418800017408) 4841369599423283200) = true
                              · rw [if_pos c19] at H
                                have c19b0 : (fok .mul (fval .sub x4_4 4607182418800017408) 4841369599423283200) = true := c19
                                clear c19
                                by_cases c20 : (fiok .u64 (fval .mul (fval .sub x4_4 4607182418800017408) 4841369599423283200)) = true
                                · rw [if_pos c20] at H
                                  have c20b0 : (fiok .u64 (fval .mul (fval .sub x4_4 4607182418800017408) 4841369599423283200)) = true := c20
                                  clear c20
                                  obtain rfl := Option.some.inj H
                                  go_wp2
                                  go_ret
                                  exact ⟨by first | rfl | (simp; done) | (simp [*]; done), by repeat (first | exact Drawn0.refl _ | apply Drawn0.step)⟩
                                · rw [if_neg c20] at H
                                  exact absurd H (by simp)
                              · rw [if_neg c19] at H
                                exact absurd H (by simp)
                            · rw [if_neg c18] at H
                              exact absurd H (by simp)
  · rw [if_neg c2] at H
    have c2b0 : (feq a0 a0) = false := by simpa using c2
    clear c2
    obtain rfl := Option.some.inj H
    go_enter Try.func11, Try.ntmps11
    go_wp2
    go_ret
    exact ⟨by first | rfl | (simp; done) | (simp [*]; done), by repeat (first | exact Drawn0.refl _ | apply Drawn0.step)⟩

/-! ### spec_FloatRank: function 20 -/
def spec_FloatRank.f (k : Nat) (a0 : Nat) : Option (Int) := (spec_FloatBits.f k a0).bind fun t101 => (if t101 = 9221120237041090560 then (some 18446744073709551615) else (if (feq a0 0) = true then (some 9223372036854775808) else (if (t101 / 9223372036854775808) = 1 then (some (Go.bits .xor .u64 IntKind.u64.max t101)) else (some (Go.bits .or .u64 t101 9223372036854775808)))))
theorem spec_FloatRank.mono : ∀ a0 k, LeO (spec_FloatRank.f k a0) (spec_FloatRank.f (k + 1) a0) := by
  intro a0 k
  unfold spec_FloatRank.f
  repeat' first
      | (with_reducible exact spec_FloatBits.mono _ _)
      | (with_reducible exact LeO.refl _)
      | (with_reducible exact LeO.none _)
      | (with_reducible refine LeO.ite ?_ ?_)
      | (with_reducible refine LeO.bind ?_ (fun _ => ?_))
      | exact spec_FloatBits.mono _ _
      | exact LeO.none _
      | refine LeO.ite ?_ ?_
      | refine LeO.bind ?_ (fun _ => ?_)
set_option maxHeartbeats 8000000 in
set_option maxRecDepth 100000 in
theorem spec_FloatRank.calls (k : Nat) (a0 : Nat) (r : Int) (w : World) (h : spec_FloatRank.f k a0 = some r) :
    Calls Try.prog 20 #[.float .f64 a0] w fun e w' => e = .returned (.int .u64 r) ∧ Drawn0 w w' := by
  have H : ((spec_FloatBits.f k a0).bind fun t101 => (if t101 = 9221120237041090560 then (some 18446744073709551615) else (if (feq a0 0) = true then (some 9223372036854775808) else (if (t101 / 9223372036854775808) = 1 then (some (Go.bits .xor .u64 IntKind.u64.max t101)) else (some (Go.bits .or .u64 t101 9223372036854775808)))))) = some r := h
  clear h
  replace H := Option.bind_eq_some_iff.mp H
  obtain ⟨t101, A20, H⟩ := H
  replace H : (if t101 = 9221120237041090560 then (some 18446744073709551615) else (if (feq a0 0) = true then (some 9223372036854775808) else (if (t101 / 9223372036854775808) = 1 then (some (Go.bits .xor .u64 IntKind.u64.max t101)) else (some (Go.bits .or .u64 t101 9223372036854775808))))) = some r := H
  have A2 := Aside0.mk A20
  clear A20
  by_cases c3 : t101 = 9221120237041090560
  · rw [if_pos c3] at H
    have c3b0 : (t101 == 9221120237041090560) = true := beq_iff_eq.mpr c3
    have c3b1 : (t101 != 9221120237041090560) = false := bne_eq_false_iff_eq.mpr c3
    clear c3
    obtain rfl := Option.some.inj H
    go_enter Try.func20, Try.ntmps20
    go_wp2_with (first | ((with_reducible refine gate_callee (f := 11) rfl ?_); refine goesL_ (some 5) rfl rfl Try.func11 (by kernel_rfl) rfl #[.float .f64 a0] rfl (by (try simp only [List.map_toArray, List.map_cons, List.map_nil]); first | done | rfl | (simp only [List.length_drop, List.length_take]; rfl)) ?_; (with_reducible refine (spec_FloatBits.calls k a0 t101 _ A2.out).mono ?_); rintro e w' ⟨rfl, ⟨nd, rfl⟩⟩; refine ⟨_, rfl, ?_⟩))
    go_ret
    exact ⟨by first | rfl | (simp; done) | (simp [*]; done), by repeat (first | exact Drawn0.refl _ | apply Drawn0.step)⟩
  · rw [if_neg c3] at H
    have c3b0 : (t101 == 9221120237041090560) = false := beq_eq_false_iff_ne.mpr c3
    have c3b1 : (t101 != 9221120237041090560) = true := bne_iff_ne.mpr c3
    by_cases c4 : (feq a0 0) = true
    · rw [if_pos c4] at H
      have c4b0 : (feq a0 0) = true := c4
      clear c4
      obtain rfl := Option.some.inj H
      go_enter Try.func20, Try.ntmps20
      go_wp2_with (first | ((with_reducible refine gate_callee (f := 11) rfl ?_); refine goesL_ (some 5) rfl rfl Try.func11 (by kernel_rfl) rfl #[.float .f64 a0] rfl (by (try simp only [List.map_toArray, List.map_cons, List.map_nil]); first | done | rfl | (simp only [List.length_drop, List.length_take]; rfl)) ?_; (with_reducible refine (spec_FloatBits.calls k a0 t101 _ A2.out).mono ?_); rintro e w' ⟨rfl, ⟨nd, rfl⟩⟩; refine ⟨_, rfl, ?_⟩))
      go_ret
      exact ⟨by first | rfl | (simp; done) | (simp [*]; done), by repeat (first | exact Drawn0.refl _ | apply Drawn0.step)⟩
    · rw [if_neg c4] at H
      have c4b0 : (feq a0 0) = false := by simpa using c4
      clear c4
      by_cases c5 : (t101 / 9223372036854775808) = 1
      · rw [if_pos c5] at H
        have c5b0 : ((t101 / 9223372036854775808) == 1) = true := beq_iff_eq.mpr c5
        have c5b1 : ((t101 / 9223372036854775808) != 1) = false := bne_eq_false_iff_eq.mpr c5
        clear c5
        obtain rfl := Option.some.inj H
        go_enter Try.func20, Try.ntmps20
        go_wp2_with (first | ((with_reducible refine gate_callee (f := 11) rfl ?_); refine goesL_ (some 5) rfl rfl Try.func11 (by kernel_rfl) rfl #[.float .f64 a0] rfl (by (try simp only [List.map_toArray, List.map_cons, List.map_nil]); first | done | rfl | (simp only [List.length_drop, List.length_take]; rfl)) ?_; (with_reducible refine (spec_FloatBits.calls k a0 t101 _ A2.out).mono ?_); rintro e w' ⟨rfl, ⟨nd, rfl⟩⟩; refine ⟨_, rfl, ?_⟩))
        go_ret
        exact ⟨by first | rfl | (simp; done) | (simp [*]; done), by repeat (first | exact Drawn0.refl _ | apply Drawn0.step)⟩
      · rw [if_neg c5] at H
        have c5b0 : ((t101 / 9223372036854775808) == 1) = false := beq_eq_false_iff_ne.mpr c5
        have c5b1 : ((t101 / 9223372036854775808) != 1) = true := bne_iff_ne.mpr c5
        obtain rfl := Option.some.inj H
        go_enter Try.func20, Try.ntmps20
        go_wp2_with (first | ((with_reducible refine gate_callee (f := 11) rfl ?_); refine goesL_ (some 5) rfl rfl Try.func11 (by kernel_rfl) rfl #[.float .f64 a0] rfl (by (try simp only [List.map_toArray, List.map_cons, List.map_nil]); first | done | rfl | (simp only [List.length_drop, List.length_take]; rfl)) ?_; (with_reducible refine (spec_FloatBits.calls k a0 t101 _ A2.out).mono ?_); rintro e w' ⟨rfl, ⟨nd, rfl⟩⟩; refine ⟨_, rfl, ?_⟩))
        go_ret
        exact ⟨by first | rfl | (simp; done) | (simp [*]; done), by repeat (first | exact Drawn0.refl _ | apply Drawn0.step)⟩

/-! ### spec_FloatUnrank: function 24 -/
def spec_FloatUnrank.j0 : Nat → Int → Int → Option (Nat × Bool)
  | 0, _, _ => none
  | k + 1, x0, x4 => (spec_FloatOf.f k x4).bind fun t102 => ((spec_FloatRank.f k t102).bind fun t103 => (if t103 = x0 then (some (t102, true)) else (some (0, false))))
def spec_FloatUnrank.f (k : Nat) (a0 : Int) : Option (Nat × Bool) := if a0 = 18446744073709551615 then (spec_FloatUnrank.j0 k a0 9221120237041090560) else (if (a0 / 9223372036854775808) = 1 then (spec_FloatUnrank.j0 k a0 (Go.bits .and .u64 a0 9223372036854775807)) else (spec_FloatUnrank.j0 k a0 (Go.bits .xor .u64 IntKind.u64.max a0)))
theorem spec_FloatUnrank.mono_l : ∀ k, (∀ y0 y1, LeO (spec_FloatUnrank.j0 k y0 y1) (spec_FloatUnrank.j0 (k + 1) y0 y1))
  | 0 => fun _ _ r h => by simp [spec_FloatUnrank.j0] at h
  | k + 1 => by
    have ih0 := spec_FloatUnrank.mono_l k
    · intro y0 y1
      unfold spec_FloatUnrank.j0
      repeat' first
      | (with_reducible exact ih0 _ _)
      | (with_reducible exact spec_FloatOf.mono _ _)
      | (with_reducible exact spec_FloatRank.mono _ _)
      | (with_reducible exact LeO.refl _)
      | (with_reducible exact LeO.none _)
      | (with_reducible refine LeO.ite ?_ ?_)
      | (with_reducible refine LeO.bind ?_ (fun _ => ?_))
      | exact ih0 _ _
      | exact spec_FloatOf.mono _ _
      | exact spec_FloatRank.mono _ _
      | exact LeO.none _
      | refine LeO.ite ?_ ?_
      | refine LeO.bind ?_ (fun _ => ?_)
theorem spec_FloatUnrank.mono : ∀ a0 k, LeO (spec_FloatUnrank.f k a0) (spec_FloatUnrank.f (k + 1) a0) := by
  intro a0 k
  have ih0 := spec_FloatUnrank.mono_l k
  unfold spec_FloatUnrank.f
  repeat' first
      | (with_reducible exact ih0 _ _)
      | (with_reducible exact spec_FloatOf.mono _ _)
      | (with_reducible exact spec_FloatRank.mono _ _)
      | (with_reducible exact LeO.refl _)
      | (with_reducible exact LeO.none _)
      | (with_reducible refine LeO.ite ?_ ?_)
      | (with_reducible refine LeO.bind ?_ (fun _ => ?_))
      | exact ih0 _ _
      | exact spec_FloatOf.mono _ _
      | exact spec_FloatRank.mono _ _
      | exact LeO.none _
      | refine LeO.ite ?_ ?_
      | refine LeO.bind ?_ (fun _ => ?_)
set_option maxHeartbeats 8000000 in
set_option maxRecDepth 100000 in
theorem spec_FloatUnrank.calls (k : Nat) (a0 : Int) (r1 : Nat) (r2 : Bool) (w : World) (h : spec_FloatUnrank.f k a0 = some (r1, r2)) :
    Calls Try.prog 24 #[.int .u64 a0] w fun e w' => e = .returned (.tuple #[.float .f64 r1, .bool r2]) ∧ Drawn0 w w' := by
  have H : (if a0 = 18446744073709551615 then (spec_FloatUnrank.j0 k a0 9221120237041090560) else (if (a0 / 9223372036854775808) = 1 then (spec_FloatUnrank.j0 k a0 (Go.bits .and .u64 a0 9223372036854775807)) else (spec_FloatUnrank.j0 k a0 (Go.bits .xor .u64 IntKind.u64.max a0)))) = some (r1, r2) := h
  clear h
  have HC2 := Aside0.mk H
  clear H
  go_enter Try.func24, Try.ntmps24
  go_upto_if 7 with (fail)
  go_cut [4] (fun v4 wc => ∃ (kq : Nat) (x4_1 : Int), v4 = .int .u64 x4_1 ∧ Aside0 (spec_FloatUnrank.j0 kq a0 x4_1 = some (r1, r2)) ∧ Aside0 (kq ≤ k) ∧ Drawn0 w wc)
  case first =>
    have H := HC2.out
    clear HC2
    by_cases c3 : a0 = 18446744073709551615
    · rw [if_pos c3] at H
      have c3b0 : (a0 == 18446744073709551615) = true := beq_iff_eq.mpr c3
      have c3b1 : (a0 != 18446744073709551615) = false := bne_eq_false_iff_eq.mpr c3
      clear c3
      (first | rw [c3b0] | (simp only [i64_w, i32_w]; rw [c3b0]) | skip)
      have H' := Aside0.mk H
      clear H
      go_wp2
      go_meet
      case rel => exact ⟨_, (9221120237041090560), (by first | rfl | (simp; done) | (simp [*]; done)), H', ⟨by first | omega | exact Nat.le_refl _⟩, by repeat (first | exact Drawn0.refl _ | apply Drawn0.step)⟩
    · rw [if_neg c3] at H
      have c3b0 : (a0 == 18446744073709551615) = false := beq_eq_false_iff_ne.mpr c3
      have c3b1 : (a0 != 18446744073709551615) = true := bne_iff_ne.mpr c3
      (first | rw [c3b0] | (simp only [i64_w, i32_w]; rw [c3b0]) | skip)
      by_cases c4 : (a0 / 9223372036854775808) = 1
      · rw [if_pos c4] at H
        have c4b0 : ((a0 / 9223372036854775808) == 1) = true := beq_iff_eq.mpr c4
        have c4b1 : ((a0 / 9223372036854775808) != 1) = false := bne_eq_false_iff_eq.mpr c4
        clear c4
        have H' := Aside0.mk H
        clear H
        go_wp2
        go_meet
        case rel => exact ⟨_, (Go.bits .and .u64 a0 9223372036854775807), (by first | rfl | (simp; done) | (simp [*]; done)), H', ⟨by first | omega | exact Nat.le_refl _⟩, by repeat (first | exact Drawn0.refl _ | apply Drawn0.step)⟩
      · rw [if_neg c4] at H
        have c4b0 : ((a0 / 9223372036854775808) == 1) = false := beq_eq_false_iff_ne.mpr c4
        have c4b1 : ((a0 / 9223372036854775808) != 1) = true := bne_iff_ne.mpr c4
        have H' := Aside0.mk H
        clear H
        go_wp2
        go_meet
        case rel => exact ⟨_, (Go.bits .xor .u64 IntKind.u64.max a0), (by first | rfl | (simp; done) | (simp [*]; done)), H', ⟨by first | omega | exact Nat.le_refl _⟩, by repeat (first | exact Drawn0.refl _ | apply Drawn0.step)⟩
  case rest =>
    clear HC2
    try clear c2
    try clear p2
    try clear c3
    try clear c3b0
    try clear c3b1
    try clear c4
    try clear c4b0
    try clear c4b1
    obtain ⟨kq, x4_1, rfl, HA, HJ1, ⟨mc1, rfl⟩⟩ := hcut
    cases kq with
    | zero => exact absurd HA.out (by simp [spec_FloatUnrank.j0])
    | succ kj1 =>
      have H := HA.out
      clear HA
      simp only [spec_FloatUnrank.j0] at H
      replace H := Option.bind_eq_some_iff.mp H
      obtain ⟨t102, A50, H⟩ := H
      replace H : ((spec_FloatRank.f kj1 t102).bind fun t103 => (if t103 = a0 then (some (t102, true)) else (some (0, false)))) = some (r1, r2) := H
      have A5 := Aside0.mk A50
      clear A50
      replace H := Option.bind_eq_some_iff.mp H
      obtain ⟨t103, A60, H⟩ := H
      replace H : (if t103 = a0 then (some (t102, true)) else (some (0, false))) = some (r1, r2) := H
      have A6 := Aside0.mk A60
      clear A60
      by_cases c7 : t103 = a0
      · rw [if_pos c7] at H
        have c7b0 : (t103 == a0) = true := beq_iff_eq.mpr c7
        have c7b1 : (t103 != a0) = false := bne_eq_false_iff_eq.mpr c7
        clear c7
        simp only [Option.some.injEq, Prod.mk.injEq] at H
        obtain ⟨rfl, rfl⟩ := H
        go_wp2_with (first | ((with_reducible refine gate_callee (f := 13) rfl ?_); refine goesL_ (some 16) rfl rfl Try.func13 (by kernel_rfl) rfl #[.int .u64 x4_1] rfl (by (try simp only [List.map_toArray, List.map_cons, List.map_nil]); first | done | rfl | (simp only [List.length_drop, List.length_take]; rfl)) ?_; (with_reducible refine (spec_FloatOf.calls kj1 x4_1 t102 _ A5.out).mono ?_); rintro e w' ⟨rfl, ⟨nd, rfl⟩⟩; refine ⟨_, rfl, ?_⟩) | ((with_reducible refine gate_callee (f := 20) rfl ?_); refine goesL_ (some 18) rfl rfl Try.func20 (by kernel_rfl) rfl #[.float .f64 t102] rfl (by (try simp only [List.map_toArray, List.map_cons, List.map_nil]); first | done | rfl | (simp only [List.length_drop, List.length_take]; rfl)) ?_; (with_reducible refine (spec_FloatRank.calls kj1 t102 t103 _ A6.out).mono ?_); rintro e w' ⟨rfl, ⟨nd, rfl⟩⟩; refine ⟨_, rfl, ?_⟩))
        go_ret2
        exact ⟨by first | rfl | (simp; done) | (simp [*]; done), by repeat (first | exact Drawn0.refl _ | apply Drawn0.step)⟩
      · rw [if_neg c7] at H
        have c7b0 : (t103 == a0) = false := beq_eq_false_iff_ne.mpr c7
        have c7b1 : (t103 != a0) = true := bne_iff_ne.mpr c7
        simp only [Option.some.injEq, Prod.mk.injEq] at H
        obtain ⟨rfl, rfl⟩ := H
        go_wp2_with (first | ((with_reducible refine gate_callee (f := 13) rfl ?_); refine goesL_ (some 16) rfl rfl Try.func13 (by kernel_rfl) rfl #[.int .u64 x4_1] rfl (by (try simp only [List.map_toArray, List.map_cons, List.map_nil]); first | done | rfl | (simp only [List.length_drop, List.length_take]; rfl)) ?_; (with_reducible refine (spec_FloatOf.calls kj1 x4_1 t102 _ A5.out).mono ?_); rintro e w' ⟨rfl, ⟨nd, rfl⟩⟩; refine ⟨_, rfl, ?_⟩) | ((with_reducible refine gate_callee (f := 20) rfl ?_); refine goesL_ (some 18) rfl rfl Try.func20 (by kernel_rfl) rfl #[.float .f64 t102] rfl (by (try simp only [List.map_toArray, List.map_cons, List.map_nil]); first | done | rfl | (simp only [List.length_drop, List.length_take]; rfl)) ?_; (with_reducible refine (spec_FloatRank.calls kj1 t102 t103 _ A6.out).mono ?_); rintro e w' ⟨rfl, ⟨nd, rfl⟩⟩; refine ⟨_, rfl, ?_⟩))
        go_ret2
        exact ⟨by first | rfl | (simp; done) | (simp [*]; done), by repeat (first | exact Drawn0.refl _ | apply Drawn0.step)⟩
/-- the bits that FloatUnrank hands to FloatOf -/
def spec_FloatUnrank.b (a0 : Int) : Int := if a0 = 18446744073709551615 then 9221120237041090560 else if a0 / 9223372036854775808 = 1 then Go.bits .and .u64 a0 9223372036854775807 else Go.bits .xor .u64 IntKind.u64.max a0
/-- where FloatUnrank's answer is known -/
def spec_FloatUnrank.Q (k : Nat) (a0 : Int) : Prop := (∃ r, spec_FloatUnrank.f k a0 = some r) ∨ (spec_FloatOf.nanC (spec_FloatUnrank.b a0) ∧ ∀ t, nanR t → spec_FloatRank.f k t = some 18446744073709551615)
/-- what FloatUnrank answers -/
def spec_FloatUnrank.R (k : Nat) (a0 : Int) (r1 : Nat) (r2 : Bool) : Prop := spec_FloatUnrank.f k a0 = some (r1, r2) ∨ (spec_FloatOf.nanC (spec_FloatUnrank.b a0) ∧ ((a0 = 18446744073709551615 ∧ nanR r1 ∧ r2 = true) ∨ (a0 ≠ 18446744073709551615 ∧ r1 = 0 ∧ r2 = false)))
set_option maxHeartbeats 8000000 in
set_option maxRecDepth 100000 in
theorem spec_FloatUnrank.calls0T (k : Nat) (a0 : Int) (w : World) (c3 : a0 = 18446744073709551615) (h : spec_FloatOf.nanC (spec_FloatUnrank.b a0)) (hr : ∀ t, nanR t → spec_FloatRank.f k t = some 18446744073709551615) :
    Calls Try.prog 24 #[.int .u64 a0] w fun e w' => ∃ r1_ : Nat, e = .returned (.tuple #[.float .f64 r1_, .bool true]) ∧ nanR r1_ ∧ Drawn0 w w' := by
  have HN := Aside0.mk h
  have HR := Aside0.mk hr
  clear h hr
  unfold spec_FloatUnrank.b at HN
  rw [if_pos c3] at HN
  subst c3
  go_enter Try.func24, Try.ntmps24
  go_wp2_with (first | ((with_reducible refine gate_callee (f := 13) rfl ?_); refine goesL_ (some 16) rfl rfl Try.func13 (by kernel_rfl) rfl #[.int .u64 9221120237041090560] rfl (by (try simp only [List.map_toArray, List.map_cons, List.map_nil]); first | done | rfl) ?_; (with_reducible refine (spec_FloatOf.calls0 _ _ HN.out).mono ?_); rintro e w' ⟨t102, rfl, hn, ⟨nd, rfl⟩⟩; refine ⟨_, rfl, ?_⟩; have A6 := Aside0.mk (HR.out t102 hn); have N6 := Aside0.mk hn; clear hn) | ((with_reducible refine gate_callee (f := 20) rfl ?_); refine goesL_ (some 18) rfl rfl Try.func20 (by kernel_rfl) rfl #[.float .f64 t102] rfl (by (try simp only [List.map_toArray, List.map_cons, List.map_nil]); first | done | rfl) ?_; (with_reducible refine (spec_FloatRank.calls k t102 _ _ A6.out).mono ?_); rintro e w' ⟨rfl, ⟨nd2, rfl⟩⟩; refine ⟨_, rfl, ?_⟩))
  go_ret2
  exact ⟨_, by first | rfl | (simp; done) | (simp [*]; done), N6.out, by repeat (first | exact Drawn0.refl _ | apply Drawn0.step)⟩
set_option maxHeartbeats 8000000 in
set_option maxRecDepth 100000 in
theorem spec_FloatUnrank.calls0F (k : Nat) (a0 : Int) (w : World) (c3 : a0 ≠ 18446744073709551615) (h : spec_FloatOf.nanC (spec_FloatUnrank.b a0)) (hr : ∀ t, nanR t → spec_FloatRank.f k t = some 18446744073709551615) :
    Calls Try.prog 24 #[.int .u64 a0] w fun e w' => e = .returned (.tuple #[.float .f64 0, .bool false]) ∧ Drawn0 w w' := by
  have HN := Aside0.mk h
  have HR := Aside0.mk hr
  clear h hr
  unfold spec_FloatUnrank.b at HN
  rw [if_neg c3] at HN
  have c3b0 : (a0 == 18446744073709551615) = false := beq_eq_false_iff_ne.mpr c3
  have c3b1 : (a0 != 18446744073709551615) = true := bne_iff_ne.mpr c3
  have c3b2 : ((18446744073709551615 : Int) == a0) = false := beq_eq_false_iff_ne.mpr (fun h => c3 h.symm)
  have c3b3 : ((18446744073709551615 : Int) != a0) = true := bne_iff_ne.mpr (fun h => c3 h.symm)
  have NE := Aside0.mk c3
  clear c3
  by_cases c4 : (a0 / 9223372036854775808) = 1
  · rw [if_pos c4] at HN
    have c4b0 : ((a0 / 9223372036854775808) == 1) = true := beq_iff_eq.mpr c4
    have c4b1 : ((a0 / 9223372036854775808) != 1) = false := bne_eq_false_iff_eq.mpr c4
    clear c4
    go_enter Try.func24, Try.ntmps24
    go_wp2_with (first | ((with_reducible refine gate_callee (f := 13) rfl ?_); refine goesL_ (some 16) rfl rfl Try.func13 (by kernel_rfl) rfl #[.int .u64 (Go.bits .and .u64 a0 9223372036854775807)] rfl (by (try simp only [List.map_toArray, List.map_cons, List.map_nil]); first | done | rfl) ?_; (with_reducible refine (spec_FloatOf.calls0 _ _ HN.out).mono ?_); rintro e w' ⟨t102, rfl, hn, ⟨nd, rfl⟩⟩; refine ⟨_, rfl, ?_⟩; have A6 := Aside0.mk (HR.out t102 hn); have N6 := Aside0.mk hn; clear hn) | ((with_reducible refine gate_callee (f := 20) rfl ?_); refine goesL_ (some 18) rfl rfl Try.func20 (by kernel_rfl) rfl #[.float .f64 t102] rfl (by (try simp only [List.map_toArray, List.map_cons, List.map_nil]); first | done | rfl) ?_; (with_reducible refine (spec_FloatRank.calls k t102 _ _ A6.out).mono ?_); rintro e w' ⟨rfl, ⟨nd2, rfl⟩⟩; refine ⟨_, rfl, ?_⟩))
    go_ret2
    exact ⟨by first | rfl | (simp; done) | (simp [*]; done), by repeat (first | exact Drawn0.refl _ | apply Drawn0.step)⟩
  · rw [if_neg c4] at HN
    have c4b0 : ((a0 / 9223372036854775808) == 1) = false := beq_eq_false_iff_ne.mpr c4
    have c4b1 : ((a0 / 9223372036854775808) != 1) = true := bne_iff_ne.mpr c4
    clear c4
    go_enter Try.func24, Try.ntmps24
    go_wp2_with (first | ((with_reducible refine gate_callee (f := 13) rfl ?_); refine goesL_ (some 16) rfl rfl Try.func13 (by kernel_rfl) rfl #[.int .u64 (Go.bits .xor .u64 IntKind.u64.max a0)] rfl (by (try simp only [List.map_toArray, List.map_cons, List.map_nil]); first | done | rfl) ?_; (with_reducible refine (spec_FloatOf.calls0 _ _ HN.out).mono ?_); rintro e w' ⟨t102, rfl, hn, ⟨nd, rfl⟩⟩; refine ⟨_, rfl, ?_⟩; have A6 := Aside0.mk (HR.out t102 hn); have N6 := Aside0.mk hn; clear hn) | ((with_reducible refine gate_callee (f := 20) rfl ?_); refine goesL_ (some 18) rfl rfl Try.func20 (by kernel_rfl) rfl #[.float .f64 t102] rfl (by (try simp only [List.map_toArray, List.map_cons, List.map_nil]); first | done | rfl) ?_; (with_reducible refine (spec_FloatRank.calls k t102 _ _ A6.out).mono ?_); rintro e w' ⟨rfl, ⟨nd2, rfl⟩⟩; refine ⟨_, rfl, ?_⟩))
    go_ret2
    exact ⟨by first | rfl | (simp; done) | (simp [*]; done), by repeat (first | exact Drawn0.refl _ | apply Drawn0.step)⟩
theorem spec_FloatUnrank.callsN (k : Nat) (a0 : Int) (w : World) (h : spec_FloatUnrank.Q k a0) :
    Calls Try.prog 24 #[.int .u64 a0] w fun e w' => ∃ (r1_ : Nat) (r2_ : Bool), e = .returned (.tuple #[.float .f64 r1_, .bool r2_]) ∧ Aside0 (spec_FloatUnrank.R k a0 r1_ r2_) ∧ Drawn0 w w' := by
  rcases h with ⟨⟨r1, r2⟩, h⟩ | ⟨h, hr⟩
  · exact (spec_FloatUnrank.calls k a0 r1 r2 w h).mono (fun e w' ⟨e1, d⟩ => ⟨r1, r2, e1, ⟨Or.inl h⟩, d⟩)
  · by_cases c3 : a0 = 18446744073709551615
    · exact (spec_FloatUnrank.calls0T k a0 w c3 h hr).mono (fun e w' ⟨r1, e1, n, d⟩ => ⟨r1, true, e1, ⟨Or.inr ⟨h, Or.inl ⟨c3, n, rfl⟩⟩⟩, d⟩)
    · exact (spec_FloatUnrank.calls0F k a0 w c3 h hr).mono (fun e w' ⟨e1, d⟩ => ⟨0, false, e1, ⟨Or.inr ⟨h, Or.inr ⟨c3, rfl, rfl⟩⟩⟩, d⟩)


-- NOT PRINTED: function 29 (math_Float64bits)

/-! ### impl_FloatRank: function 21 -/
def impl_FloatRank.f (a0 : Nat) : Option (Int) := if ((feq a0 a0) = true) then (if (feq a0 0) = true then (some 9223372036854775808) else (if (fgt a0 0) = true then (some (Go.bits .or .u64 ((a0 : Nat) : Int) 9223372036854775808)) else (some (Go.bits .xor .u64 IntKind.u64.max ((a0 : Nat) : Int))))) else (some 18446744073709551615)
set_option maxHeartbeats 8000000 in
set_option maxRecDepth 100000 in
theorem impl_FloatRank.calls (a0 : Nat) (r : Int) (w : World) (h : impl_FloatRank.f a0 = some r) :
    Calls Try.prog 21 #[.float .f64 a0] w fun e w' => e = .returned (.int .u64 r) ∧ Drawn0 w w' := by
  have H : (if ((feq a0 a0) = true) then (if (feq a0 0) = true then (some 9223372036854775808) else (if (fgt a0 0) = true then (some (Go.bits .or .u64 ((a0 : Nat) : Int) 9223372036854775808)) else (some (Go.bits .xor .u64 IntKind.u64.max ((a0 : Nat) : Int))))) else (some 18446744073709551615)) = some r := h
  clear h
  by_cases c2 : ((feq a0 a0) = true)
  · rw [if_pos c2] at H
    have c2b0 : (feq a0 a0) = true := c2
    clear c2
    by_cases c3 : (feq a0 0) = true
    · rw [if_pos c3] at H
      have c3b0 : (feq a0 0) = true := c3
      clear c3
      obtain rfl := Option.some.inj H
      go_enter Try.func21, Try.ntmps21
      go_wp2
      go_ret
      exact ⟨by first | rfl | (simp; done) | (simp [*]; done), by repeat (first | exact Drawn0.refl _ | apply Drawn0.step)⟩
    · rw [if_neg c3] at H
      have c3b0 : (feq a0 0) = false := by simpa using c3
      clear c3
      by_cases c4 : (fgt a0 0) = true
      · rw [if_pos c4] at H
        have c4b0 : (fgt a0 0) = true := c4
        clear c4
        obtain rfl := Option.some.inj H
        go_enter Try.func21, Try.ntmps21
        go_wp2
        go_ret
        exact ⟨by first | rfl | (simp; done) | (simp [*]; done), by repeat (first | exact Drawn0.refl _ | apply Drawn0.step)⟩
      · rw [if_neg c4] at H
        have c4b0 : (fgt a0 0) = false := by simpa using c4
        clear c4
        obtain rfl := Option.some.inj H
        go_enter Try.func21, Try.ntmps21
        go_wp2
        go_ret
        exact ⟨by first | rfl | (simp; done) | (simp [*]; done), by repeat (first | exact Drawn0.refl _ | apply Drawn0.step)⟩
  · rw [if_neg c2] at H
    have c2b0 : (feq a0 a0) = false := by simpa using c2
    clear c2
    obtain rfl := Option.some.inj H
    go_enter Try.func21, Try.ntmps21
    go_wp2
    go_ret
    exact ⟨by first | rfl | (simp; done) | (simp [*]; done), by repeat (first | exact Drawn0.refl _ | apply Drawn0.step)⟩

-- NOT PRINTED: function 30 (math_Float64frombits)

/-! ### math_NaN: function 31 -/
def math_NaN.f  : Option (Nat) := some ((9221120237041090561 : Int).toNat)
set_option maxHeartbeats 8000000 in
set_option maxRecDepth 100000 in
theorem math_NaN.calls  (r : Nat) (w : World) (h : math_NaN.f  = some r) :
    Calls Try.prog 31 #[] w fun e w' => e = .returned (.float .f64 r) ∧ Drawn0 w w' := by
  have H : (some ((9221120237041090561 : Int).toNat)) = some r := h
  clear h
  obtain rfl := Option.some.inj H
  go_enter Try.func31, Try.ntmps31
  go_wp2
  go_ret
  exact ⟨by first | rfl | (simp; done) | (simp [*]; done), by repeat (first | exact Drawn0.refl _ | apply Drawn0.step)⟩

/-! ### impl_FloatUnrank: function 25 -/
def impl_FloatUnrank.j0 : Nat → Int → Int → Option (Nat × Bool)
  | 0, _, _ => none
  | k + 1, x0, x4 => if x0 = 18446744073709551615 then ((math_NaN.f).bind fun t104 => (some (t104, true))) else (if ((feq ((x4 : Int).toNat) ((x4 : Int).toNat)) = true) then ((impl_FloatRank.f ((x4 : Int).toNat)).bind fun t105 => (if t105 = x0 then (some ((x4 : Int).toNat, true)) else (some (0, false)))) else (some (0, false)))
def impl_FloatUnrank.f (k : Nat) (a0 : Int) : Option (Nat × Bool) := if a0 < 9223372036854775808 then (impl_FloatUnrank.j0 k a0 (Go.bits .xor .u64 IntKind.u64.max a0)) else (impl_FloatUnrank.j0 k a0 (Go.bits .andNot .u64 a0 9223372036854775808))
theorem impl_FloatUnrank.mono_l : ∀ k, (∀ y0 y1, LeO (impl_FloatUnrank.j0 k y0 y1) (impl_FloatUnrank.j0 (k + 1) y0 y1))
  | 0 => fun _ _ r h => by simp [impl_FloatUnrank.j0] at h
  | k + 1 => by
    have ih0 := impl_FloatUnrank.mono_l k
    · intro y0 y1
      unfold impl_FloatUnrank.j0
      repeat' first
      | (with_reducible exact ih0 _ _)
      | (with_reducible exact LeO.refl _)
      | (with_reducible exact LeO.none _)
      | (with_reducible refine LeO.ite ?_ ?_)
      | (with_reducible refine LeO.bind ?_ (fun _ => ?_))
      | exact ih0 _ _
      | exact LeO.none _
      | refine LeO.ite ?_ ?_
      | refine LeO.bind ?_ (fun _ => ?_)
theorem impl_FloatUnrank.mono : ∀ a0 k, LeO (impl_FloatUnrank.f k a0) (impl_FloatUnrank.f (k + 1) a0) := by
  intro a0 k
  have ih0 := impl_FloatUnrank.mono_l k
  unfold impl_FloatUnrank.f
  repeat' first
      | (with_reducible exact ih0 _ _)
      | (with_reducible exact LeO.refl _)
      | (with_reducible exact LeO.none _)
      | (with_reducible refine LeO.ite ?_ ?_)
      | (with_reducible refine LeO.bind ?_ (fun _ => ?_))
      | exact ih0 _ _
      | exact LeO.none _
      | refine LeO.ite ?_ ?_
      | refine LeO.bind ?_ (fun _ => ?_)
set_option maxHeartbeats 8000000 in
set_option maxRecDepth 100000 in
theorem impl_FloatUnrank.calls (k : Nat) (a0 : Int) (r1 : Nat) (r2 : Bool) (w : World) (h : impl_FloatUnrank.f k a0 = some (r1, r2)) :
    Calls Try.prog 25 #[.int .u64 a0] w fun e w' => e = .returned (.tuple #[.float .f64 r1, .bool r2]) ∧ Drawn0 w w' := by
  have H : (if a0 < 9223372036854775808 then (impl_FloatUnrank.j0 k a0 (Go.bits .xor .u64 IntKind.u64.max a0)) else (impl_FloatUnrank.j0 k a0 (Go.bits .andNot .u64 a0 9223372036854775808))) = some (r1, r2) := h
  clear h
  have HC2 := Aside0.mk H
  clear H
  go_enter Try.func25, Try.ntmps25
  go_upto_if 9 with (fail)
  go_cut [4] (fun v4 wc => ∃ (kq : Nat) (x4_1 : Int), v4 = .int .u64 x4_1 ∧ Aside0 (impl_FloatUnrank.j0 kq a0 x4_1 = some (r1, r2)) ∧ Aside0 (kq ≤ k) ∧ Drawn0 w wc)
  case first =>
    have H := HC2.out
    clear HC2
    by_cases c3 : a0 < 9223372036854775808
    · rw [if_pos c3] at H
      have c3b0 : decide (a0 < 9223372036854775808) = true := decide_eq_true c3
      clear c3
      (first | rw [c3b0] | (simp only [i64_w, i32_w]; rw [c3b0]) | skip)
      have H' := Aside0.mk H
      clear H
      go_wp2
      go_meet
      case rel => exact ⟨_, (Go.bits .xor .u64 IntKind.u64.max a0), (by first | rfl | (simp; done) | (simp [*]; done)), H', ⟨by first | omega | exact Nat.le_refl _⟩, by repeat (first | exact Drawn0.refl _ | apply Drawn0.step)⟩
    · rw [if_neg c3] at H
      have c3b0 : decide (a0 < 9223372036854775808) = false := decide_eq_false c3
      clear c3
      (first | rw [c3b0] | (simp only [i64_w, i32_w]; rw [c3b0]) | skip)
      have H' := Aside0.mk H
      clear H
      go_wp2
      go_meet
      case rel => exact ⟨_, (Go.bits .andNot .u64 a0 9223372036854775808), (by first | rfl | (simp; done) | (simp [*]; done)), H', ⟨by first | omega | exact Nat.le_refl _⟩, by repeat (first | exact Drawn0.refl _ | apply Drawn0.step)⟩
  case rest =>
    clear HC2
    try clear c2
    try clear p2
    try clear c3
    try clear c3b0
    obtain ⟨kq, x4_1, rfl, HA, HJ1, ⟨mc1, rfl⟩⟩ := hcut
    cases kq with
    | zero => exact absurd HA.out (by simp [impl_FloatUnrank.j0])
    | succ kj1 =>
      have H := HA.out
      clear HA
      simp only [impl_FloatUnrank.j0] at H
      by_cases c4 : a0 = 18446744073709551615
      · rw [if_pos c4] at H
        have c4b0 : (a0 == 18446744073709551615) = true := beq_iff_eq.mpr c4
        have c4b1 : (a0 != 18446744073709551615) = false := bne_eq_false_iff_eq.mpr c4
        clear c4
        replace H := Option.bind_eq_some_iff.mp H
        obtain ⟨t104, A50, H⟩ := H
        replace H : (some (t104, true)) = some (r1, r2) := H
        have A5 := Aside0.mk A50
        clear A50
        simp only [Option.some.injEq, Prod.mk.injEq] at H
        obtain ⟨rfl, rfl⟩ := H
        go_wp2_with (first | ((with_reducible refine gate_callee (f := 31) rfl ?_); refine goesL_ (some 17) rfl rfl Try.func31 (by kernel_rfl) rfl #[] rfl (by (try simp only [List.map_toArray, List.map_cons, List.map_nil]); first | done | rfl | (simp only [List.length_drop, List.length_take]; rfl)) ?_; (with_reducible refine (math_NaN.calls  t104 _ A5.out).mono ?_); rintro e w' ⟨rfl, ⟨nd, rfl⟩⟩; refine ⟨_, rfl, ?_⟩))
        go_ret2
        exact ⟨by first | rfl | (simp; done) | (simp [*]; done), by repeat (first | exact Drawn0.refl _ | apply Drawn0.step)⟩
      · rw [if_neg c4] at H
        have c4b0 : (a0 == 18446744073709551615) = false := beq_eq_false_iff_ne.mpr c4
        have c4b1 : (a0 != 18446744073709551615) = true := bne_iff_ne.mpr c4
        by_cases c6 : ((feq ((x4_1 : Int).toNat) ((x4_1 : Int).toNat)) = true)
        · rw [if_pos c6] at H
          have c6b0 : (feq ((x4_1 : Int).toNat) ((x4_1 : Int).toNat)) = true := c6
          clear c6
          replace H := Option.bind_eq_some_iff.mp H
          obtain ⟨t105, A70, H⟩ := H
          replace H : (if t105 = a0 then (some ((x4_1 : Int).toNat, true)) else (some (0, false))) = some (r1, r2) := H
          have A7 := Aside0.mk A70
          clear A70
          by_cases c8 : t105 = a0
          · rw [if_pos c8] at H
            have c8b0 : (t105 == a0) = true := beq_iff_eq.mpr c8
            have c8b1 : (t105 != a0) = false := bne_eq_false_iff_eq.mpr c8
            clear c8
            simp only [Option.some.injEq, Prod.mk.injEq] at H
            obtain ⟨rfl, rfl⟩ := H
            go_wp2_with (first | (go_at_call 21; (with_reducible refine (impl_FloatRank.calls ((x4_1 : Int).toNat) t105 _ A7.out).mono ?_); rintro e w' ⟨rfl, ⟨nd, rfl⟩⟩))
            go_ret2
            exact ⟨by first | rfl | (simp; done) | (simp [*]; done), by repeat (first | exact Drawn0.refl _ | apply Drawn0.step)⟩
          · rw [if_neg c8] at H
            have c8b0 : (t105 == a0) = false := beq_eq_false_iff_ne.mpr c8
            have c8b1 : (t105 != a0) = true := bne_iff_ne.mpr c8
            simp only [Option.some.injEq, Prod.mk.injEq] at H
            obtain ⟨rfl, rfl⟩ := H
            go_wp2_with (first | (go_at_call 21; (with_reducible refine (impl_FloatRank.calls ((x4_1 : Int).toNat) t105 _ A7.out).mono ?_); rintro e w' ⟨rfl, ⟨nd, rfl⟩⟩))
            go_ret2
            exact ⟨by first | rfl | (simp; done) | (simp [*]; done), by repeat (first | exact Drawn0.refl _ | apply Drawn0.step)⟩
        · rw [if_neg c6] at H
          have c6b0 : (feq ((x4_1 : Int).toNat) ((x4_1 : Int).toNat)) = false := by simpa using c6
          clear c6
          simp only [Option.some.injEq, Prod.mk.injEq] at H
          obtain ⟨rfl, rfl⟩ := H
          go_wp2
          go_ret2
          exact ⟨by first | rfl | (simp; done) | (simp [*]; done), by repeat (first | exact Drawn0.refl _ | apply Drawn0.step)⟩

/-! ### laws_FnExactFloatUnrank: function 8 -/
def laws_FnExactFloatUnrank.H (a0 : Int) : Prop := ∃ (k2 : Nat), spec_FloatUnrank.Q k2 a0 ∧ ∀ (t4 : Nat) (t5 : Bool), spec_FloatUnrank.R k2 a0 t4 t5 → ∃ (k8 : Nat) (t10 : Nat), impl_FloatUnrank.f k8 a0 = some (t10, t5) ∧ ∃ (k12 : Nat), laws_sameFloat.f k12 t10 t4 = some true ∧ True
set_option maxHeartbeats 16000000 in
set_option maxRecDepth 100000 in
theorem laws_FnExactFloatUnrank.calls (a0 : Int) (w : World)  (h : laws_FnExactFloatUnrank.H a0) :
    Calls Try.prog 8 #[.int .u64 a0] w fun e w' => e = .returned (.bool true) ∧ Below w.heap.size w w' := by
  have HB := Aside0.mk (Below.refl w.heap.size w)
  have TOP := Aside0.mk (Nat.le_refl w.heap.size)
  have OW := Aside0.mk (Nat.le_refl w.heap.size)
  have H : ∃ (k2 : Nat), spec_FloatUnrank.Q k2 a0 ∧ ∀ (t4 : Nat) (t5 : Bool), spec_FloatUnrank.R k2 a0 t4 t5 → ∃ (k8 : Nat) (t10 : Nat), impl_FloatUnrank.f k8 a0 = some (t10, t5) ∧ ∃ (k12 : Nat), laws_sameFloat.f k12 t10 t4 = some true ∧ True := h
  clear h
  obtain ⟨k2, A3_, H⟩ := H
  have A3 := Aside0.mk A3_
  clear A3_
  have HN6 := Aside0.mk H
  clear H
  go_enter Try.func8, Try.ntmps8
  try go_wp2_with (first | ((with_reducible refine gate_callee (f := 24) rfl ?_); refine goesL_ (some 9) rfl rfl Try.func24 (by kernel_rfl) rfl #[.int .u64 a0] rfl (by (try simp only [List.map_toArray, List.map_cons, List.map_nil]); first | done | rfl | (simp only [List.length_drop, List.length_take]; rfl)) ?_; (with_reducible refine (spec_FloatUnrank.callsN k2 a0 _ A3.out).mono ?_); rintro e w1 ⟨t4, t5, rfl, hR, hd⟩; have H := HN6.out t4 t5 hR.out; clear hR HN6; obtain ⟨k8, t10, A9_, H⟩ := H; have A9 := Aside0.mk A9_; clear A9_; obtain ⟨k12, A13_, H⟩ := H; have A13 := Aside0.mk A13_; clear A13_; refine ⟨_, rfl, ?_⟩; have hb := drawn0_below hd; clear hd; have n0_ := Aside0.mk (show Below w.heap.size w w1 from below_step (by repeat (first | exact HB.out | apply pw_below_drewN | apply below_drew1)) hb); have n1_ := Aside0.mk (show w.heap.size ≤ w1.heap.size from Nat.le_trans TOP.out hb.size); (try clear HB); (try clear TOP); have HB := n0_; have TOP := n1_; clear n0_ n1_; clear hb) | ((with_reducible refine gate_callee (f := 25) rfl ?_); refine goesL_ (some 14) rfl rfl Try.func25 (by kernel_rfl) rfl #[.int .u64 a0] rfl (by (try simp only [List.map_toArray, List.map_cons, List.map_nil]); first | done | rfl | (simp only [List.length_drop, List.length_take]; rfl)) ?_; (with_reducible refine (impl_FloatUnrank.calls k8 a0 t10 t5 _ A9.out).mono ?_); rintro e w7 ⟨rfl, hd⟩; refine ⟨_, rfl, ?_⟩; have hb := drawn0_below hd; clear hd; have n0_ := Aside0.mk (show Below w.heap.size w w7 from below_step (by repeat (first | exact HB.out | apply pw_below_drewN | apply below_drew1)) hb); have n1_ := Aside0.mk (show w.heap.size ≤ w7.heap.size from Nat.le_trans TOP.out hb.size); (try clear HB); (try clear TOP); have HB := n0_; have TOP := n1_; clear n0_ n1_; clear hb) | ((with_reducible refine gate_callee (f := 15) rfl ?_); refine goesL_ (some 19) rfl rfl Try.func15 (by kernel_rfl) rfl #[.float .f64 t10, .float .f64 t4] rfl (by (try simp only [List.map_toArray, List.map_cons, List.map_nil]); first | done | rfl | (simp only [List.length_drop, List.length_take]; rfl)) ?_; (with_reducible refine (laws_sameFloat.calls k12 t10 t4 true _ A13.out).mono ?_); rintro e w11 ⟨rfl, hd⟩; refine ⟨_, rfl, ?_⟩; have hb := drawn0_below hd; clear hd; have n0_ := Aside0.mk (show Below w.heap.size w w11 from below_step (by repeat (first | exact HB.out | apply pw_below_drewN | apply below_drew1)) hb); have n1_ := Aside0.mk (show w.heap.size ≤ w11.heap.size from Nat.le_trans TOP.out hb.size); (try clear HB); (try clear TOP); have HB := n0_; have TOP := n1_; clear n0_ n1_; clear hb))
  go_ret
  exact ⟨rfl, HB.out⟩

end Go.Proofs.Ytjbocmkphnmfgaa.PFnExactFloatUnrank
