import Derived.Test.YtjjkhlphdbmdfaaZFnTuples30
import Derived.Test.YtjjkhlphdbmdfaaZFnTuples35
namespace Go.Proofs.Ytjjkhlphdbmdfaa.PFnTuples
open Go.RowKit Go.Proofs.YtjjkhlphdbmdfaaW.PrintWords Go.Proofs.YtjjkhlphdbmdfaaW.PrintLast Go.Proofs.YtjjkhlphdbmdfaaW.PrintMore
attribute [local go_sem] max2_int min2_int max_two min_two max_three min_three max_four min_four   -- for this text's walks alone
attribute [local go_sem high] fl_eql fl_neq fl_lss fl_leq fl_gtr fl_geq fl_add fl_sub fl_mul fl_quo fl_neg fl_ofInt fl_toInt fl_store sub_sign ext_bits ext_from fl_nan_quo fl_nan_add fl_nan_mul fl_nan_sub
open Go.Proofs.YtjjkhlphdbmdfaaW.PrintWords renaming below_alloc → h1, pw_below_drewN → h2, below_drew1 → h3, below_set → h4, blk_drewN → b1, blk_drew → b2, blk_alloc → b3
set_option linter.unusedVariables false
set_option linter.unusedSimpArgs false
mutual
def spec_FloatBits.j0 : Nat → Nat → Int → Nat → Bool → Option (Int)
 | 0, _, _, _, _ => none
 | k + 1, x0, x3, x4, x20 => if x20 = true then (spec_FloatBits.j1 k 9223372036854775808 (fneg x0)) else (spec_FloatBits.j1 k x3 x4)
def spec_FloatBits.j1 : Nat → Int → Nat → Option (Int)
 | 0, _, _ => none
 | k + 1, x3, x4 => if (feq x4 0) = true then (some x3) else (if (fgt x4 9218868437227405311) = true then (some (Go.bits .or .u64 x3 9218868437227405312)) else (spec_FloatBits.l0 k x3 x4 0))
def spec_FloatBits.l0 : Nat → Int → Nat → Int → Option (Int)
 | 0, _, _, _ => none
 | k + 1, x3, x4, x5 => if (fge x4 4611686018427387904) = true then (if (fok .quo x4 4611686018427387904) = true then (spec_FloatBits.l0 k x3 (fval .quo x4 4611686018427387904) (wrap64 (x5 + 1))) else (none)) else (spec_FloatBits.l1 k x3 x4 x5)
def spec_FloatBits.l1 : Nat → Int → Nat → Int → Option (Int)
 | 0, _, _, _ => none
 | k + 1, x3, x4, x5 => if (fls x4 4607182418800017408) = true then (if x5 > (-1022) then (if (fok .mul x4 4611686018427387904) = true then (spec_FloatBits.l1 k x3 (fval .mul x4 4611686018427387904) (wrap64 (x5 - 1))) else (none)) else (if (fok .mul x4 4841369599423283200) = true then (if (fiok .u64 (fval .mul x4 4841369599423283200)) = true then (some (Go.bits .or .u64 x3 (fival .u64 (fval .mul x4 4841369599423283200)))) else (none)) else (none))) else (if (fok .sub x4 4607182418800017408) = true then (if (fok .mul (fval .sub x4 4607182418800017408) 4841369599423283200) = true then (if (fiok .u64 (fval .mul (fval .sub x4 4607182418800017408) 4841369599423283200)) = true then (some (Go.bits .or .u64 (Go.bits .or .u64 x3 (IntKind.u64.wrap ((IntKind.u64.wrap (wrap64 (x5 + 1023))) * 4503599627370496))) (fival .u64 (fval .mul (fval .sub x4 4607182418800017408) 4841369599423283200)))) else (none)) else (none)) else (none))
end
def spec_FloatBits.f (k : Nat) (a0 : Nat) : Option (Int) := if ((feq a0 a0) = true) then (if (fls a0 0) = true then (spec_FloatBits.j0 k a0 0 a0 true) else (if (feq a0 0) = true then (if (fok .quo 4607182418800017408 a0) = true then (spec_FloatBits.j0 k a0 0 a0 (fls (fval .quo 4607182418800017408 a0) 0)) else (none)) else (spec_FloatBits.j0 k a0 0 a0 false))) else (some 9221120237041090560)
theorem spec_FloatBits.mono_l : ∀ k, (∀ y0 y1 y2 y3, LeO (spec_FloatBits.j0 k y0 y1 y2 y3) (spec_FloatBits.j0 (k + 1) y0 y1 y2 y3)) ∧ (∀ y0 y1, LeO (spec_FloatBits.j1 k y0 y1) (spec_FloatBits.j1 (k + 1) y0 y1)) ∧ (∀ y0 y1 y2, LeO (spec_FloatBits.l0 k y0 y1 y2) (spec_FloatBits.l0 (k + 1) y0 y1 y2)) ∧ (∀ y0 y1 y2, LeO (spec_FloatBits.l1 k y0 y1 y2) (spec_FloatBits.l1 (k + 1) y0 y1 y2))
 | 0 => ⟨fun _ _ _ _ r h => by simp [spec_FloatBits.j0] at h, fun _ _ r h => by simp [spec_FloatBits.j1] at h, fun _ _ _ r h => by simp [spec_FloatBits.l0] at h, fun _ _ _ r h => by simp [spec_FloatBits.l1] at h⟩
 | k + 1 => by
  obtain ⟨ih0, ih1, ih2, ih3⟩ := spec_FloatBits.mono_l k
  refine ⟨?_, ?_, ?_, ?_⟩
  ·intro y0 y1 y2 y3
   unfold spec_FloatBits.j0
   repeat' with_reducible first | exact ih0 _ _ _ _ | exact ih1 _ _ | exact ih2 _ _ _ | exact ih3 _ _ _ | exact LeO.refl _ | exact LeO.none _ | refine LeO.ite ?_ ?_ | refine LeO.bind ?_ (fun _ => ?_)
  ·intro y0 y1
   unfold spec_FloatBits.j1
   repeat' with_reducible first | exact ih0 _ _ _ _ | exact ih1 _ _ | exact ih2 _ _ _ | exact ih3 _ _ _ | exact LeO.refl _ | exact LeO.none _ | refine LeO.ite ?_ ?_ | refine LeO.bind ?_ (fun _ => ?_)
  ·intro y0 y1 y2
   unfold spec_FloatBits.l0
   repeat' with_reducible first | exact ih0 _ _ _ _ | exact ih1 _ _ | exact ih2 _ _ _ | exact ih3 _ _ _ | exact LeO.refl _ | exact LeO.none _ | refine LeO.ite ?_ ?_ | refine LeO.bind ?_ (fun _ => ?_)
  ·intro y0 y1 y2
   unfold spec_FloatBits.l1
   repeat' with_reducible first | exact ih0 _ _ _ _ | exact ih1 _ _ | exact ih2 _ _ _ | exact ih3 _ _ _ | exact LeO.refl _ | exact LeO.none _ | refine LeO.ite ?_ ?_ | refine LeO.bind ?_ (fun _ => ?_)
theorem spec_FloatBits.mono : ∀ a0 k, LeO (spec_FloatBits.f k a0) (spec_FloatBits.f (k + 1) a0) := by
 intro a0 k
 obtain ⟨ih0, ih1, ih2, ih3⟩ := spec_FloatBits.mono_l k
 unfold spec_FloatBits.f
 repeat' with_reducible first | exact ih0 _ _ _ _ | exact ih1 _ _ | exact ih2 _ _ _ | exact ih3 _ _ _ | exact LeO.refl _ | exact LeO.none _ | refine LeO.ite ?_ ?_ | refine LeO.bind ?_ (fun _ => ?_)
set_option maxHeartbeats 8000000 in
set_option maxRecDepth 100000 in
theorem spec_FloatBits.calls (k : Nat) (a0 : Nat) (r : Int) (w : World) (h : spec_FloatBits.f k a0 = some r) :
  Calls Try.prog 30 #[.float .f64 a0] w fun e w' => e = .returned (.int .u64 r) ∧ Drawn0 w w' := by
 have H := h
 clear h
 unfold spec_FloatBits.f at H
 by_cases c2 : ((feq a0 a0) = true)
 ·rw [if_pos c2] at H
  have c2b0 : (feq a0 a0) = true := c2
  clear c2
  have HC3 := Aside0.mk H
  clear H
  go_enter Try.func30, Try.ntmps30
  go_upto_region 5 with (fail)
  go_cut [20] (fun v20 wc => ∃ (kq : Nat) (x20_2 : Bool), v20 = .bool x20_2 ∧ Aside0 (spec_FloatBits.j0 kq a0 0 a0 x20_2 = some r) ∧ Aside0 (kq ≤ k) ∧ Drawn0 w wc)
  case first =>
   have H := HC3.out
   clear HC3
   by_cases c4 : (fls a0 0) = true
   ·rw [if_pos c4] at H
    have c4b0 : (fls a0 0) = true := c4
    clear c4
    (first | rw [c4b0] | (simp only [i64_w, i32_w]; rw [c4b0]) | skip)
    have H' := Aside0.mk H
    clear H
    go_wp2
    go_meet
    case rel => exact ⟨_, (true), (by first | rfl | (simp; done) | (simp [*]; done)), H', ⟨by first | omega | exact Nat.le_refl _⟩, by repeat (first | exact Drawn0.refl _ | apply Drawn0.step)⟩
   ·rw [if_neg c4] at H
    have c4b0 : (fls a0 0) = false := by simpa using c4
    clear c4
    (first | rw [c4b0] | (simp only [i64_w, i32_w]; rw [c4b0]) | skip)
    by_cases c5 : (feq a0 0) = true
    ·rw [if_pos c5] at H
     have c5b0 : (feq a0 0) = true := c5
     clear c5
     by_cases c6 : (fok .quo 4607182418800017408 a0) = true
     ·rw [if_pos c6] at H
      have c6b0 : (fok .quo 4607182418800017408 a0) = true := c6
      clear c6
      have H' := Aside0.mk H
      clear H
      go_wp2
      go_meet
      case rel => exact ⟨_, ((fls (fval .quo 4607182418800017408 a0) 0)), (by first | rfl | (simp; done) | (simp [*]; done)), H', ⟨by first | omega | exact Nat.le_refl _⟩, by repeat (first | exact Drawn0.refl _ | apply Drawn0.step)⟩
     ·rw [if_neg c6] at H
      exact absurd H (by simp)
    ·rw [if_neg c5] at H
     have c5b0 : (feq a0 0) = false := by simpa using c5
     clear c5
     have H' := Aside0.mk H
     clear H
     go_wp2
     go_meet
     case rel => exact ⟨_, (false), (by first | rfl | (simp; done) | (simp [*]; done)), H', ⟨by first | omega | exact Nat.le_refl _⟩, by repeat (first | exact Drawn0.refl _ | apply Drawn0.step)⟩
  case rest =>
   clear HC3
   try clear c2
   try clear c2b0
   try clear p2
   try clear c3
   try clear c4
   try clear c4b0
   try clear c5
   try clear c5b0
   try clear c6
   try clear c6b0
   obtain ⟨kq, x20_2, rfl, HA, HJ2, ⟨mc2, rfl⟩⟩ := hcut
   cases kq with
   | zero => exact absurd HA.out (by simp [spec_FloatBits.j0])
   | succ kj2 =>
    have H := HA.out
    clear HA
    simp only [spec_FloatBits.j0] at H
    have HC7 := Aside0.mk H
    clear H
    go_upto_if 20 with (fail)
    go_cut [3, 4] (fun v3 v4 wc => ∃ (kq : Nat) (x3_6 : Int) (x4_6 : Nat), v3 = .int .u64 x3_6 ∧ v4 = .float .f64 x4_6 ∧ Aside0 (spec_FloatBits.j1 kq x3_6 x4_6 = some r) ∧ Aside0 (kq ≤ kj2) ∧ Drawn0 w wc)
    case first =>
     have H := HC7.out
     clear HC7
     by_cases c8 : x20_2 = true
     ·subst c8
      rw [if_pos rfl] at H
      (try dsimp only at H)
      have H' := Aside0.mk H
      clear H
      go_wp2
      go_meet
      case rel => exact ⟨_, (9223372036854775808), (fneg a0), (by first | rfl | (simp; done) | (simp [*]; done)), (by first | rfl | (simp; done) | (simp [*]; done)), H', ⟨by have := HJ2.out; first | omega | exact Nat.le_refl _⟩, by repeat (first | exact Drawn0.refl _ | apply Drawn0.step)⟩
     ·replace c8 := Bool.eq_false_iff.mpr c8
      subst c8
      rw [if_neg (show ¬ (false = true) by decide)] at H
      (try dsimp only at H)
      have H' := Aside0.mk H
      clear H
      go_wp2
      go_meet
      case rel => exact ⟨_, (0), (a0), (by first | rfl | (simp; done) | (simp [*]; done)), (by first | rfl | (simp; done) | (simp [*]; done)), H', ⟨by have := HJ2.out; first | omega | exact Nat.le_refl _⟩, by repeat (first | exact Drawn0.refl _ | apply Drawn0.step)⟩
    case rest =>
     clear HC7
     try clear c2
     try clear c2b0
     try clear p2
     try clear c3
     try clear c4
     try clear c4b0
     try clear c5
     try clear c5b0
     try clear c6
     try clear c6b0
     try clear c8
     try clear p2
     obtain ⟨kq, x3_6, x4_6, rfl, rfl, HA, HJ6, ⟨mc6, rfl⟩⟩ := hcut
     cases kq with
     | zero => exact absurd HA.out (by simp [spec_FloatBits.j1])
     | succ kj6 =>
      have H := HA.out
      clear HA
      simp only [spec_FloatBits.j1] at H
      by_cases c9 : (feq x4_6 0) = true
      ·rw [if_pos c9] at H
       have c9b0 : (feq x4_6 0) = true := c9
       clear c9
       obtain rfl := Option.some.inj H
       go_wp2
       go_ret
       exact ⟨by first | rfl | (simp; done) | (simp [*]; done), by repeat (first | exact Drawn0.refl _ | apply Drawn0.step)⟩
      ·rw [if_neg c9] at H
       have c9b0 : (feq x4_6 0) = false := by simpa using c9
       clear c9
       by_cases c10 : (fgt x4_6 9218868437227405311) = true
       ·rw [if_pos c10] at H
        have c10b0 : (fgt x4_6 9218868437227405311) = true := c10
        clear c10
        obtain rfl := Option.some.inj H
        go_wp2
        go_ret
        exact ⟨by first | rfl | (simp; done) | (simp [*]; done), by repeat (first | exact Drawn0.refl _ | apply Drawn0.step)⟩
       ·rw [if_neg c10] at H
        have c10b0 : (fgt x4_6 9218868437227405311) = false := by simpa using c10
        clear c10
        have H' := Aside0.mk H
        clear H
        go_wp2
        go_loopg [4, 5] kj6 (fun kq v4 v5 w' => ∃ (x4_3 : Nat) (x5_3 : Int), v4 = .float .f64 x4_3 ∧ v5 = .int .i64 x5_3 ∧ Aside0 (spec_FloatBits.l0 kq x3_6 x4_3 x5_3 = some r) ∧ Aside0 (kq ≤ kj6) ∧ Drawn0 w w')
        case atStart => exact ⟨(x4_6), (0), (by first | rfl | (simp; done) | (simp [*]; done)), (by first | rfl | (simp; done) | (simp [*]; done)), H', ⟨Nat.le_refl _⟩, by repeat (first | exact Drawn0.refl _ | apply Drawn0.step)⟩
        case round =>
         clear H'
         try clear c1
         try clear c2
         try clear c2b0
         try clear p2
         try clear c3
         try clear c4
         try clear c4b0
         try clear c5
         try clear c5b0
         try clear c6
         try clear c6b0
         try clear c8
         try clear c9
         try clear c9b0
         try clear c10
         try clear c10b0
         try clear p2
         obtain ⟨x4_3, x5_3, rfl, rfl, HA, HK3, ⟨m3, rfl⟩⟩ := hrel
         cases gk with
         | zero => exact absurd HA.out (by simp [spec_FloatBits.l0])
         | succ k3 =>
          have H := HA.out
          clear HA
          simp only [spec_FloatBits.l0] at H
          by_cases c11 : (fge x4_3 4611686018427387904) = true
          ·rw [if_pos c11] at H
           have c11b0 : (fge x4_3 4611686018427387904) = true := c11
           clear c11
           by_cases c12 : (fok .quo x4_3 4611686018427387904) = true
           ·rw [if_pos c12] at H
            have c12b0 : (fok .quo x4_3 4611686018427387904) = true := c12
            clear c12
            have H' := Aside0.mk H
            clear H
            go_wp2
            go_roundg k3
            case measure => have := HJ2.out; have := HJ6.out; have := HK3.out; omega
            case rel => exact ⟨(fval .quo x4_3 4611686018427387904), (wrap64 (x5_3 + 1)), (by first | rfl | (simp; done) | (simp [*]; done)), (by first | rfl | (simp; done) | (simp [*]; done)), H', ⟨by have := HJ2.out; have := HJ6.out; have := HK3.out; omega⟩, by repeat (first | exact Drawn0.refl _ | apply Drawn0.step)⟩
           ·rw [if_neg c12] at H
            exact absurd H (by simp)
          ·rw [if_neg c11] at H
           have c11b0 : (fge x4_3 4611686018427387904) = false := by simpa using c11
           clear c11
           have H' := Aside0.mk H
           clear H
           go_wp2
           go_loopg [4, 5] k3 (fun kq v4 v5 w' => ∃ (x4_4 : Nat) (x5_4 : Int), v4 = .float .f64 x4_4 ∧ v5 = .int .i64 x5_4 ∧ Aside0 (spec_FloatBits.l1 kq x3_6 x4_4 x5_4 = some r) ∧ Aside0 (kq ≤ k3) ∧ Drawn0 w w')
           case atStart => exact ⟨(x4_3), (x5_3), (by first | rfl | (simp; done) | (simp [*]; done)), (by first | rfl | (simp; done) | (simp [*]; done)), H', ⟨Nat.le_refl _⟩, by repeat (first | exact Drawn0.refl _ | apply Drawn0.step)⟩
           case round =>
            clear H'
            try clear c1
            try clear c2
            try clear c2b0
            try clear p2
            try clear c3
            try clear c4
            try clear c4b0
            try clear c5
            try clear c5b0
            try clear c6
            try clear c6b0
            try clear p6
            try clear c8
            try clear c9
            try clear c9b0
            try clear c10
            try clear c10b0
            try clear c11
            try clear c11b0
            try clear c12
            try clear c12b0
            try clear p2
            obtain ⟨x4_4, x5_4, rfl, rfl, HA, HK4, ⟨m4, rfl⟩⟩ := hrel
            cases gk with
            | zero => exact absurd HA.out (by simp [spec_FloatBits.l1])
            | succ k4 =>
             have H := HA.out
             clear HA
             simp only [spec_FloatBits.l1] at H
             by_cases c13 : (fls x4_4 4607182418800017408) = true
             ·rw [if_pos c13] at H
              have c13b0 : (fls x4_4 4607182418800017408) = true := c13
              clear c13
              by_cases c14 : x5_4 > (-1022)
              ·rw [if_pos c14] at H
               have c14b0 : decide ((-1022) < x5_4) = true := decide_eq_true c14
               clear c14
               by_cases c15 : (fok .mul x4_4 4611686018427387904) = true
               ·rw [if_pos c15] at H
                have c15b0 : (fok .mul x4_4 4611686018427387904) = true := c15
                clear c15
                have H' := Aside0.mk H
                clear H
                go_wp2
                go_roundg k4
                case measure => have := HJ2.out; have := HJ6.out; have := HK3.out; have := HK4.out; omega
                case rel => exact ⟨(fval .mul x4_4 4611686018427387904), (wrap64 (x5_4 - 1)), (by first | rfl | (simp; done) | (simp [*]; done)), (by first | rfl | (simp; done) | (simp [*]; done)), H', ⟨by have := HJ2.out; have := HJ6.out; have := HK3.out; have := HK4.out; omega⟩, by repeat (first | exact Drawn0.refl _ | apply Drawn0.step)⟩
               ·rw [if_neg c15] at H
                exact absurd H (by simp)
              ·rw [if_neg c14] at H
               have c14b0 : decide ((-1022) < x5_4) = false := decide_eq_false c14
               clear c14
               by_cases c16 : (fok .mul x4_4 4841369599423283200) = true
               ·rw [if_pos c16] at H
                have c16b0 : (fok .mul x4_4 4841369599423283200) = true := c16
                clear c16
                by_cases c17 : (fiok .u64 (fval .mul x4_4 4841369599423283200)) = true
                ·rw [if_pos c17] at H
                 have c17b0 : (fiok .u64 (fval .mul x4_4 4841369599423283200)) = true := c17
                 clear c17
                 obtain rfl := Option.some.inj H
                 go_wp2
                 go_ret
                 exact ⟨by first | rfl | (simp; done) | (simp [*]; done), by repeat (first | exact Drawn0.refl _ | apply Drawn0.step)⟩
                ·rw [if_neg c17] at H
                 exact absurd H (by simp)
               ·rw [if_neg c16] at H
                exact absurd H (by simp)
             ·rw [if_neg c13] at H
              have c13b0 : (fls x4_4 4607182418800017408) = false := by simpa using c13
              clear c13
              by_cases c18 : (fok .sub x4_4 4607182418800017408) = true
              ·rw [if_pos c18] at H
               have c18b0 : (fok .sub x4_4 4607182418800017408) = true := c18
               clear c18
               by_cases c19 : (fok .mul (fval .sub x4_4 4607182418800017408) 4841369599423283200) = true
               ·rw [if_pos c19] at H
                have c19b0 : (fok .mul (fval .sub x4_4 4607182418800017408) 4841369599423283200) = true := c19
                clear c19
                by_cases c20 : (fiok .u64 (fval .mul (fval .sub x4_4 4607182418800017408) 4841369599423283200)) = true
                ·rw [if_pos c20] at H
                 have c20b0 : (fiok .u64 (fval .mul (fval .sub x4_4 4607182418800017408) 4841369599423283200)) = true := c20
                 clear c20
                 obtain rfl := Option.some.inj H
                 go_wp2
                 go_ret
                 exact ⟨by first | rfl | (simp; done) | (simp [*]; done), by repeat (first | exact Drawn0.refl _ | apply Drawn0.step)⟩
                ·rw [if_neg c20] at H
                 exact absurd H (by simp)
               ·rw [if_neg c19] at H
                exact absurd H (by simp)
              ·rw [if_neg c18] at H
               exact absurd H (by simp)
 ·rw [if_neg c2] at H
  have c2b0 : (feq a0 a0) = false := by simpa using c2
  clear c2
  obtain rfl := Option.some.inj H
  go_enter Try.func30, Try.ntmps30
  go_wp2
  go_ret
  exact ⟨by first | rfl | (simp; done) | (simp [*]; done), by repeat (first | exact Drawn0.refl _ | apply Drawn0.step)⟩
theorem spec_FloatBits.inv0 (k : Nat) (a0 : Nat) : spec_FloatBits.f k (cn a0) = spec_FloatBits.f k a0 := by
  by_cases h_ : nanw a0
  · unfold spec_FloatBits.f
    first
      | (simp only [cn_zeroI, cn_zero, feq_cn_l, feq_cn_r, fls_cn_l, fls_cn_r, fgt_cn_l, fgt_cn_r, fle_cn_l, fle_cn_r, fge_cn_l, fge_cn_r]; done)
      | (simp only [cn_zeroI, cn_zero, feq_cn_l, feq_cn_r, fls_cn_l, fls_cn_r, fgt_cn_l, fgt_cn_r, fle_cn_l, fle_cn_r, fge_cn_l, fge_cn_r, feq_nan_l h_, feq_nan_l (cn_nanw h_), Bool.false_eq_true, if_false]; done)
      | (simp [feq_nan_l h_, feq_nan_l (cn_nanw h_)]; done)
  · rw [cn_num h_]
mutual
def spec_ItemOk.j0 : Nat → Bool → Int → Int → Nat → List Int → Option (Bool)
 | 0, _, _, _, _, _ => none
 | k + 1, x16, x307000, x307001, x307002, x307003 => if x16 = true then (some false) else (if x307000 = 1 then (spec_ItemOk.j1 k false x307000 x307001 x307002 x307003) else (spec_ItemOk.j1 k (x307001 != 0) x307000 x307001 x307002 x307003))
def spec_ItemOk.j1 : Nat → Bool → Int → Int → Nat → List Int → Option (Bool)
 | 0, _, _, _, _, _ => none
 | k + 1, x24, x307000, x307001, x307002, x307003 => if x24 = true then (some false) else (if x307000 = 2 then (if x307000 = 3 then (some true) else (some ((x307003.length : Int) == 0))) else ((spec_FloatBits.f k x307002).bind fun t307 => (if t307 = 0 then (if x307000 = 3 then (some true) else (some ((x307003.length : Int) == 0))) else (some false))))
end
def spec_ItemOk.f (k : Nat) (a0_0 : Int) (a0_1 : Int) (a0_2 : Nat) (l0_3 : List Int) : Option (Bool) := if a0_0 < 0 then (spec_ItemOk.j0 k true a0_0 a0_1 a0_2 l0_3) else (if a0_0 > 3 then (spec_ItemOk.j0 k true a0_0 a0_1 a0_2 l0_3) else (spec_ItemOk.j0 k (decide ((l0_3.length : Int) > 40)) a0_0 a0_1 a0_2 l0_3))
theorem spec_ItemOk.mono_l : ∀ k, (∀ y0 y1 y2 y3 y4, LeO (spec_ItemOk.j0 k y0 y1 y2 y3 y4) (spec_ItemOk.j0 (k + 1) y0 y1 y2 y3 y4)) ∧ (∀ y0 y1 y2 y3 y4, LeO (spec_ItemOk.j1 k y0 y1 y2 y3 y4) (spec_ItemOk.j1 (k + 1) y0 y1 y2 y3 y4))
 | 0 => ⟨fun _ _ _ _ _ r h => by simp [spec_ItemOk.j0] at h, fun _ _ _ _ _ r h => by simp [spec_ItemOk.j1] at h⟩
 | k + 1 => by
  obtain ⟨ih0, ih1⟩ := spec_ItemOk.mono_l k
  refine ⟨?_, ?_⟩
  ·intro y0 y1 y2 y3 y4
   unfold spec_ItemOk.j0
   repeat' with_reducible first | exact ih0 _ _ _ _ _ | exact ih1 _ _ _ _ _ | exact spec_FloatBits.mono _ _ | exact LeO.refl _ | exact LeO.none _ | refine LeO.ite ?_ ?_ | refine LeO.bind ?_ (fun _ => ?_)
  ·intro y0 y1 y2 y3 y4
   unfold spec_ItemOk.j1
   repeat' with_reducible first | exact ih0 _ _ _ _ _ | exact ih1 _ _ _ _ _ | exact spec_FloatBits.mono _ _ | exact LeO.refl _ | exact LeO.none _ | refine LeO.ite ?_ ?_ | refine LeO.bind ?_ (fun _ => ?_)
theorem spec_ItemOk.mono : ∀ a0 a1 a2 a3 k, LeO (spec_ItemOk.f k a0 a1 a2 a3) (spec_ItemOk.f (k + 1) a0 a1 a2 a3) := by
 intro a0 a1 a2 a3 k
 obtain ⟨ih0, ih1⟩ := spec_ItemOk.mono_l k
 unfold spec_ItemOk.f
 repeat' with_reducible first | exact ih0 _ _ _ _ _ | exact ih1 _ _ _ _ _ | exact spec_FloatBits.mono _ _ | exact LeO.refl _ | exact LeO.none _ | refine LeO.ite ?_ ?_ | refine LeO.bind ?_ (fun _ => ?_)
set_option maxHeartbeats 8000000 in
set_option maxRecDepth 100000 in
theorem spec_ItemOk.calls (k : Nat) (a0_0 : Int) (a0_1 : Int) (a0_2 : Nat) (A0_3 : Option Addr) (c0_3 : Nat) (l0_3 : List Int) (r : Bool) (w : World) (hr0_3 : Kd.C (Kd.int .u8) w A0_3 l0_3.length l0_3) (hc0_3 : l0_3.length ≤ c0_3) (h : spec_ItemOk.f k a0_0 a0_1 a0_2 l0_3 = some r) :
  Calls Try.prog 27 #[.agg #[.int .i64 a0_0, .int .i64 a0_1, .float .f64 a0_2, .slice A0_3 l0_3.length c0_3]] w fun e w' => e = .returned (.bool r) ∧ Below w.heap.size w w' := by
 have hu25 := Try.underlying25
 have HR0_3 := Aside0.mk hr0_3
 have HC0_3 := Aside0.mk hc0_3
 clear hr0_3 hc0_3
 have HB := Aside0.mk (Below.refl w.heap.size w)
 have H := h
 clear h
 unfold spec_ItemOk.f at H
 have HC2 := Aside0.mk H
 clear H
 go_enter Try.func27, Try.ntmps27
 go_upto_region 1 with (first | ((with_reducible refine gate_dst (N := 1) rfl ?_); (try (refine gate_guard (by rfl) ?_; dsimp only)); refine box_event ?hg (N := 1) ?hd (cs := #[.int .i64 a0_0, .int .i64 a0_1, .float .f64 a0_2, .slice A0_3 l0_3.length c0_3]) (t := 25) ?hr ?_; (case hd => rfl); (case hg => rfl); (case hr => first | (go_simp; done) | (go_simp; rfl)); intro gb306 hg w3 hbox hb; have n0_ := Aside0.mk (below_step (hup HB.out) hb); have n1_ := Aside0.mk (hbox); have n2_ := Geq.mk ((by rw [hg]; exact (below_size (hup HB.out)) : w.heap.size ≤ gb306)); have n3_ := Geq.mk ((by rw [hg]; exact (below_size (hup HB.out)) : w.heap.size ≤ gb306)); clear HB; have HB := n0_; have BK306 := n1_; have GW306 := n2_; have GE306 := n3_; clear n0_ n1_ n2_ n3_; clear hb hbox hg))
 (try simp only [Act.put, List.setIfInBounds_toArray, List.set_cons_zero, List.set_cons_succ])
 go_cut [16] (fun v16 wc => ∃ (kq : Nat) (x16_1 : Bool), v16 = .bool x16_1 ∧ Aside0 (spec_ItemOk.j0 kq x16_1 a0_0 a0_1 a0_2 l0_3 = some r) ∧ Aside0 (kq ≤ k) ∧ Aside0 (wc.heap[gb306]? = some (.cells #[.int .i64 a0_0, .int .i64 a0_1, .float .f64 a0_2, (.slice A0_3 l0_3.length c0_3)] 25 (0, 0))) ∧ Aside0 (Below w.heap.size w wc))
 case first =>
  have H := HC2.out
  clear HC2
  by_cases c4 : a0_0 < 0
  ·rw [if_pos c4] at H
   have c4b0 : decide (a0_0 < 0) = true := decide_eq_true c4
   clear c4
   (first | rw [c4b0] | (simp only [i64_w, i32_w]; rw [c4b0]) | skip)
   have H' := Aside0.mk H
   clear H
   obtain ⟨hcz5_0, hcz5_1, hcz5_2, hcz5_3⟩ := blk_cells4 BK306.out
   obtain ⟨hfz5_0, hfz5_1, hfz5_2, hfz5_3⟩ := blk_frozens4 BK306.out
   go_wp2
   go_meet
   case rel => exact ⟨_, (true), (by first | rfl | (simp; done) | (simp [*]; done)), H', ⟨by first | omega | exact Nat.le_refl _⟩, ⟨by exact bup BK306.out⟩, ⟨hset HB.out⟩⟩
  ·rw [if_neg c4] at H
   have c4b0 : decide (a0_0 < 0) = false := decide_eq_false c4
   clear c4
   (first | rw [c4b0] | (simp only [i64_w, i32_w]; rw [c4b0]) | skip)
   by_cases c6 : a0_0 > 3
   ·rw [if_pos c6] at H
    have c6b0 : decide (3 < a0_0) = true := decide_eq_true c6
    clear c6
    have H' := Aside0.mk H
    clear H
    obtain ⟨hcz7_0, hcz7_1, hcz7_2, hcz7_3⟩ := blk_cells4 BK306.out
    obtain ⟨hfz7_0, hfz7_1, hfz7_2, hfz7_3⟩ := blk_frozens4 BK306.out
    go_wp2
    go_meet
    case rel => exact ⟨_, (true), (by first | rfl | (simp; done) | (simp [*]; done)), H', ⟨by first | omega | exact Nat.le_refl _⟩, ⟨by exact bup BK306.out⟩, ⟨hset HB.out⟩⟩
   ·rw [if_neg c6] at H
    have c6b0 : decide (3 < a0_0) = false := decide_eq_false c6
    clear c6
    have H' := Aside0.mk H
    clear H
    obtain ⟨hcz8_0, hcz8_1, hcz8_2, hcz8_3⟩ := blk_cells4 BK306.out
    obtain ⟨hfz8_0, hfz8_1, hfz8_2, hfz8_3⟩ := blk_frozens4 BK306.out
    go_wp2
    go_meet
    case rel => exact ⟨_, (decide ((l0_3.length : Int) > 40)), (by first | rfl | (simp; done) | (simp [*]; done)), H', ⟨by first | omega | exact Nat.le_refl _⟩, ⟨by exact bup BK306.out⟩, ⟨hset HB.out⟩⟩
 case rest =>
  clear HC2
  try clear c2
  try clear p2
  try clear c4
  try clear c4b0
  try clear c6
  try clear c6b0
  try clear hcz5_0
  try clear hcz5_1
  try clear hcz5_2
  try clear hcz5_3
  try clear hcz7_0
  try clear hcz7_1
  try clear hcz7_2
  try clear hcz7_3
  try clear hcz8_0
  try clear hcz8_1
  try clear hcz8_2
  try clear hcz8_3
  try clear hfz5_0
  try clear hfz5_1
  try clear hfz5_2
  try clear hfz5_3
  try clear hfz7_0
  try clear hfz7_1
  try clear hfz7_2
  try clear hfz7_3
  try clear hfz8_0
  try clear hfz8_1
  try clear hfz8_2
  try clear hfz8_3
  obtain ⟨kq, x16_1, rfl, HA, HJ1, BK306, HB⟩ := hcut
  cases kq with
  | zero => exact absurd HA.out (by simp [spec_ItemOk.j0])
  | succ kj1 =>
   have H := HA.out
   clear HA
   simp only [spec_ItemOk.j0] at H
   by_cases c9 : x16_1 = true
   ·subst c9
    rw [if_pos rfl] at H
    (try dsimp only at H)
    obtain rfl := Option.some.inj H
    go_wp2
    go_ret
    exact ⟨by first | rfl | (simp [errW_none, errW_some] <;> rfl) | (simp [*, errW_none, errW_some] <;> rfl), hset HB.out⟩
   ·replace c9 := Bool.eq_false_iff.mpr c9
    subst c9
    rw [if_neg (show ¬ (false = true) by decide)] at H
    (try dsimp only at H)
    have HC10 := Aside0.mk H
    clear H
    go_upto_region 3 with (fail)
    go_cut [24] (fun v24 wc => ∃ (kq : Nat) (x24_9 : Bool), v24 = .bool x24_9 ∧ Aside0 (spec_ItemOk.j1 kq x24_9 a0_0 a0_1 a0_2 l0_3 = some r) ∧ Aside0 (kq ≤ kj1) ∧ Aside0 (wc.heap[gb306]? = some (.cells #[.int .i64 a0_0, .int .i64 a0_1, .float .f64 a0_2, (.slice A0_3 l0_3.length c0_3)] 25 (0, 0))) ∧ Aside0 (Below w.heap.size w wc))
    case first =>
     have H := HC10.out
     clear HC10
     by_cases c11 : a0_0 = 1
     ·rw [if_pos c11] at H
      have c11b0 : (a0_0 == 1) = true := beq_iff_eq.mpr c11
      have c11b1 : (a0_0 != 1) = false := bne_eq_false_iff_eq.mpr c11
      clear c11
      (first | rw [c11b0] | (simp only [i64_w, i32_w]; rw [c11b0]) | skip)
      have H' := Aside0.mk H
      clear H
      obtain ⟨hcz12_0, hcz12_1, hcz12_2, hcz12_3⟩ := blk_cells4 BK306.out
      obtain ⟨hfz12_0, hfz12_1, hfz12_2, hfz12_3⟩ := blk_frozens4 BK306.out
      go_wp2
      go_meet
      case rel => exact ⟨_, (false), (by first | rfl | (simp; done) | (simp [*]; done)), H', ⟨by have := HJ1.out; first | omega | exact Nat.le_refl _⟩, ⟨by exact bup BK306.out⟩, ⟨hset HB.out⟩⟩
     ·rw [if_neg c11] at H
      have c11b0 : (a0_0 == 1) = false := beq_eq_false_iff_ne.mpr c11
      have c11b1 : (a0_0 != 1) = true := bne_iff_ne.mpr c11
      (first | rw [c11b0] | (simp only [i64_w, i32_w]; rw [c11b0]) | skip)
      have H' := Aside0.mk H
      clear H
      obtain ⟨hcz13_0, hcz13_1, hcz13_2, hcz13_3⟩ := blk_cells4 BK306.out
      obtain ⟨hfz13_0, hfz13_1, hfz13_2, hfz13_3⟩ := blk_frozens4 BK306.out
      go_wp2
      go_meet
      case rel => exact ⟨_, ((a0_1 != 0)), (by first | rfl | (simp; done) | (simp [*]; done)), H', ⟨by have := HJ1.out; first | omega | exact Nat.le_refl _⟩, ⟨by exact bup BK306.out⟩, ⟨hset HB.out⟩⟩
    case rest =>
     clear HC10
     try clear c1
     try clear c2
     try clear p2
     try clear c4
     try clear c4b0
     try clear c6
     try clear c6b0
     try clear c9
     try clear c11
     try clear c11b0
     try clear c11b1
     try clear hcz12_0
     try clear hcz12_1
     try clear hcz12_2
     try clear hcz12_3
     try clear hcz13_0
     try clear hcz13_1
     try clear hcz13_2
     try clear hcz13_3
     try clear hcz5_0
     try clear hcz5_1
     try clear hcz5_2
     try clear hcz5_3
     try clear hcz7_0
     try clear hcz7_1
     try clear hcz7_2
     try clear hcz7_3
     try clear hcz8_0
     try clear hcz8_1
     try clear hcz8_2
     try clear hcz8_3
     try clear hfz12_0
     try clear hfz12_1
     try clear hfz12_2
     try clear hfz12_3
     try clear hfz13_0
     try clear hfz13_1
     try clear hfz13_2
     try clear hfz13_3
     try clear hfz5_0
     try clear hfz5_1
     try clear hfz5_2
     try clear hfz5_3
     try clear hfz7_0
     try clear hfz7_1
     try clear hfz7_2
     try clear hfz7_3
     try clear hfz8_0
     try clear hfz8_1
     try clear hfz8_2
     try clear hfz8_3
     try clear p2
     obtain ⟨kq, x24_9, rfl, HA, HJ9, BK306, HB⟩ := hcut
     cases kq with
     | zero => exact absurd HA.out (by simp [spec_ItemOk.j1])
     | succ kj9 =>
      have H := HA.out
      clear HA
      simp only [spec_ItemOk.j1] at H
      by_cases c14 : x24_9 = true
      ·subst c14
       rw [if_pos rfl] at H
       (try dsimp only at H)
       obtain rfl := Option.some.inj H
       go_wp2
       go_ret
       exact ⟨by first | rfl | (simp [errW_none, errW_some] <;> rfl) | (simp [*, errW_none, errW_some] <;> rfl), hset HB.out⟩
      ·replace c14 := Bool.eq_false_iff.mpr c14
       subst c14
       rw [if_neg (show ¬ (false = true) by decide)] at H
       (try dsimp only at H)
       by_cases c15 : a0_0 = 2
       ·rw [if_pos c15] at H
        have c15b0 : (a0_0 == 2) = true := beq_iff_eq.mpr c15
        have c15b1 : (a0_0 != 2) = false := bne_eq_false_iff_eq.mpr c15
        clear c15
        by_cases c16 : a0_0 = 3
        ·rw [if_pos c16] at H
         have c16b0 : (a0_0 == 3) = true := beq_iff_eq.mpr c16
         have c16b1 : (a0_0 != 3) = false := bne_eq_false_iff_eq.mpr c16
         clear c16
         obtain rfl := Option.some.inj H
         obtain ⟨hcz17_0, hcz17_1, hcz17_2, hcz17_3⟩ := blk_cells4 BK306.out
         obtain ⟨hfz17_0, hfz17_1, hfz17_2, hfz17_3⟩ := blk_frozens4 BK306.out
         go_wp2
         go_ret
         exact ⟨by first | rfl | (simp [errW_none, errW_some] <;> rfl) | (simp [*, errW_none, errW_some] <;> rfl), hset HB.out⟩
        ·rw [if_neg c16] at H
         have c16b0 : (a0_0 == 3) = false := beq_eq_false_iff_ne.mpr c16
         have c16b1 : (a0_0 != 3) = true := bne_iff_ne.mpr c16
         obtain rfl := Option.some.inj H
         obtain ⟨hcz18_0, hcz18_1, hcz18_2, hcz18_3⟩ := blk_cells4 BK306.out
         obtain ⟨hfz18_0, hfz18_1, hfz18_2, hfz18_3⟩ := blk_frozens4 BK306.out
         go_wp2
         go_ret
         exact ⟨by first | rfl | (simp [errW_none, errW_some] <;> rfl) | (simp [*, errW_none, errW_some] <;> rfl), hset HB.out⟩
       ·rw [if_neg c15] at H
        have c15b0 : (a0_0 == 2) = false := beq_eq_false_iff_ne.mpr c15
        have c15b1 : (a0_0 != 2) = true := bne_iff_ne.mpr c15
        replace H := Option.bind_eq_some_iff.mp H
        obtain ⟨t307, A190, H⟩ := H
        (try dsimp only at H)
        have A19 := Aside0.mk A190
        clear A190
        obtain ⟨hcz22_0, hcz22_1, hcz22_2, hcz22_3⟩ := blk_cells4 BK306.out
        obtain ⟨hfz22_0, hfz22_1, hfz22_2, hfz22_3⟩ := blk_frozens4 BK306.out
        try go_wp2_with (fail)
        go_at_call 30; (with_reducible refine (spec_FloatBits.calls kj9 a0_2 t307 _ A19.out).mono ?_); rintro e w' ⟨rfl, ⟨nd, rfl⟩⟩
        by_cases c20 : t307 = 0
        ·rw [if_pos c20] at H
         have c20b0 : (t307 == 0) = true := beq_iff_eq.mpr c20
         have c20b1 : (t307 != 0) = false := bne_eq_false_iff_eq.mpr c20
         (try simp only [c20b0, c20b1, Bool.not_true, Bool.not_false])
         clear c20
         by_cases c21 : a0_0 = 3
         ·rw [if_pos c21] at H
          have c21b0 : (a0_0 == 3) = true := beq_iff_eq.mpr c21
          have c21b1 : (a0_0 != 3) = false := bne_eq_false_iff_eq.mpr c21
          (try simp only [c21b0, c21b1, Bool.not_true, Bool.not_false])
          clear c21
          obtain rfl := Option.some.inj H
          try go_wp2
          go_ret
          exact ⟨by first | rfl | (simp [errW_none, errW_some] <;> rfl) | (simp [*, errW_none, errW_some] <;> rfl), hset HB.out⟩
         ·rw [if_neg c21] at H
          have c21b0 : (a0_0 == 3) = false := beq_eq_false_iff_ne.mpr c21
          have c21b1 : (a0_0 != 3) = true := bne_iff_ne.mpr c21
          (try simp only [c21b0, c21b1, Bool.not_true, Bool.not_false])
          obtain rfl := Option.some.inj H
          try go_wp2
          go_ret
          exact ⟨by first | rfl | (simp [errW_none, errW_some] <;> rfl) | (simp [*, errW_none, errW_some] <;> rfl), hset HB.out⟩
        ·rw [if_neg c20] at H
         have c20b0 : (t307 == 0) = false := beq_eq_false_iff_ne.mpr c20
         have c20b1 : (t307 != 0) = true := bne_iff_ne.mpr c20
         (try simp only [c20b0, c20b1, Bool.not_true, Bool.not_false])
         obtain rfl := Option.some.inj H
         try go_wp2
         go_ret
         exact ⟨by first | rfl | (simp [errW_none, errW_some] <;> rfl) | (simp [*, errW_none, errW_some] <;> rfl), hset HB.out⟩
theorem spec_ItemOk.j1_inv3 (k : Nat) (x0 : Bool) (x1 : Int) (x2 : Int) (x3 : Nat) (x4 : List Int) : spec_ItemOk.j1 k x0 x1 x2 (cn x3) x4 = spec_ItemOk.j1 k x0 x1 x2 x3 x4 := by
  cases k with
  | zero => rfl
  | succ k => simp only [spec_ItemOk.j1, spec_FloatBits.inv0, cn_zeroI, cn_zero, feq_cn_l, feq_cn_r, fls_cn_l, fls_cn_r, fgt_cn_l, fgt_cn_r, fle_cn_l, fle_cn_r, fge_cn_l, fge_cn_r]
theorem spec_ItemOk.j0_inv3 (k : Nat) (x0 : Bool) (x1 : Int) (x2 : Int) (x3 : Nat) (x4 : List Int) : spec_ItemOk.j0 k x0 x1 x2 (cn x3) x4 = spec_ItemOk.j0 k x0 x1 x2 x3 x4 := by
  cases k with
  | zero => rfl
  | succ k => simp only [spec_ItemOk.j0, spec_FloatBits.inv0, cn_zeroI, cn_zero, feq_cn_l, feq_cn_r, fls_cn_l, fls_cn_r, fgt_cn_l, fgt_cn_r, fle_cn_l, fle_cn_r, fge_cn_l, fge_cn_r, spec_ItemOk.j1_inv3]
theorem spec_ItemOk.inv0 (k : Nat) (a0_0 : Int) (a0_1 : Int) (a0_2 : Nat) (l0_3 : List Int) : spec_ItemOk.f k a0_0 a0_1 (cn a0_2) l0_3 = spec_ItemOk.f k a0_0 a0_1 a0_2 l0_3 := by
  by_cases h_ : nanw a0_2
  · unfold spec_ItemOk.f
    first
      | (simp only [spec_FloatBits.inv0, cn_zeroI, cn_zero, feq_cn_l, feq_cn_r, fls_cn_l, fls_cn_r, fgt_cn_l, fgt_cn_r, fle_cn_l, fle_cn_r, fge_cn_l, fge_cn_r, spec_ItemOk.j1_inv3, spec_ItemOk.j0_inv3]; done)
      | (simp only [spec_FloatBits.inv0, cn_zeroI, cn_zero, feq_cn_l, feq_cn_r, fls_cn_l, fls_cn_r, fgt_cn_l, fgt_cn_r, fle_cn_l, fle_cn_r, fge_cn_l, fge_cn_r, spec_ItemOk.j1_inv3, spec_ItemOk.j0_inv3, feq_nan_l h_, feq_nan_l (cn_nanw h_), Bool.false_eq_true, if_false]; done)
      | (simp [feq_nan_l h_, feq_nan_l (cn_nanw h_)]; done)
  · rw [cn_num h_]
def spec_l3copy.f (a0_0 : Int) (a0_1 : Int) (a0_2 : Nat) (l0_3 : List Int) : Option (Int × Int × Nat × List Int) := (some (([] : List Int) : List Int)).bind fun y310 => (if y310.length + l0_3.length < 140737488355328 then (some (a0_0, a0_1, a0_2, (y310 ++ l0_3))) else (none))
set_option maxHeartbeats 8000000 in
set_option maxRecDepth 100000 in
theorem spec_l3copy.calls (a0_0 : Int) (a0_1 : Int) (a0_2 : Nat) (A0_3 : Option Addr) (c0_3 : Nat) (l0_3 : List Int) (r1 : Int) (r2 : Int) (r3 : Nat) (r4 : List Int) (w : World) (hr0_3 : Kd.C (Kd.int .u8) w A0_3 l0_3.length l0_3) (hc0_3 : l0_3.length ≤ c0_3) (h : spec_l3copy.f a0_0 a0_1 a0_2 l0_3 = some (r1, r2, r3, r4)) :
    Calls Try.prog 60 #[.agg #[.int .i64 a0_0, .int .i64 a0_1, .float .f64 a0_2, .slice A0_3 l0_3.length c0_3]] w fun e w' => ∃ v3_ : Value, e = .returned (.agg #[.int .i64 r1, .int .i64 r2, .float .f64 r3, v3_]) ∧ Kd.R (Kd.int .u8) 5 w' w.heap.size (fun _ => True) v3_ r4 ∧ Below w.heap.size w w' := by
  have hu25 := Try.underlying25
  have HR0_3 := Aside0.mk hr0_3
  have HC0_3 := Aside0.mk hc0_3
  clear hr0_3 hc0_3
  have HB := Aside0.mk (Below.refl w.heap.size w)
  have H := h
  clear h
  unfold spec_l3copy.f at H
  obtain ⟨y310, hy310⟩ : ∃ y_ : List Int, y_ = (([] : List Int)) := ⟨_, rfl⟩
  replace H : (if y310.length + l0_3.length < 140737488355328 then (some (a0_0, a0_1, a0_2, (y310 ++ l0_3))) else (none)) = some (r1, r2, r3, r4) := by first | (rw [hy310]; with_reducible exact H) | (have H2_ := (Option.bind_some _ _).symm.trans H; rw [hy310]; with_reducible exact H2_) | (have H2_ := (Option.bind_some _ _).symm.trans H; with_reducible exact H2_) | with_reducible exact H | (rw [hy310]; exact H) | exact H
  have Ny310 := Aside0.mk hy310
  clear hy310
  by_cases c2 : y310.length + l0_3.length < 140737488355328
  · rw [if_pos c2] at H
    have LMc2 := Aside0.mk c2
    clear c2
    obtain ⟨y313, hy313⟩ : ∃ y_ : List Int, y_ = (y310 ++ l0_3) := ⟨_, rfl⟩
    replace H : (some (a0_0, a0_1, a0_2, y313)) = some (r1, r2, r3, r4) := by first | (rw [hy313]; with_reducible exact H) | (have H2_ := (Option.bind_some _ _).symm.trans H; rw [hy313]; with_reducible exact H2_) | (have H2_ := (Option.bind_some _ _).symm.trans H; with_reducible exact H2_) | with_reducible exact H | (rw [hy313]; exact H) | exact H
    have Ny313 := Aside0.mk hy313
    clear hy313
    simp only [Option.some.injEq, Prod.mk.injEq] at H
    obtain ⟨rfl, rfl, rfl, rfl⟩ := H
    go_enter Try.func60, Try.ntmps60
    go_wp2_with (first | ((with_reducible refine gate_dst (N := 1) rfl ?_); refine box_event ?hg (N := 1) ?hd (cs := #[.int .i64 a0_0, .int .i64 a0_1, .float .f64 a0_2, .slice A0_3 l0_3.length c0_3]) (t := 25) ?hr ?_; (case hd => rfl); (case hg => rfl); (case hr => first | (go_simp; done) | (go_simp; rfl)); intro gb308 hg w3 hbox hb; have n0_ := Aside0.mk (below_step (hup HB.out) hb); have n1_ := Aside0.mk (hbox); have n2_ := Geq.mk ((by rw [hg]; exact (below_size (hup HB.out)) : w.heap.size ≤ gb308)); have n3_ := Geq.mk ((by rw [hg]; exact (below_size (hup HB.out)) : w.heap.size ≤ gb308)); clear HB; have HB := n0_; have BK308 := n1_; have GW308 := n2_; have GE308 := n3_; clear n0_ n1_ n2_ n3_; clear hb hbox hg) | ((with_reducible refine gate_dst (N := 2) rfl ?_); refine box_event ?hg (N := 2) ?hd (cs := #[.int .i64 0, .int .i64 0, .float .f64 0, .slice none 0 0]) (t := 25) ?hr ?_; (case hd => rfl); (case hg => rfl); (case hr => first | (go_simp; done) | (go_simp; rfl)); intro gb309 hg w4 hbox hb; have n0_ := Aside0.mk (blk_below (bup BK308.out) hb); have n1_ := Aside0.mk (below_step (hset HB.out) hb); have n2_ := Aside0.mk (hbox); have n3_ := Geq.mk ((by rw [hg]; exact (below_size (hset HB.out)) : w.heap.size ≤ gb309)); have n4_ := Geq.mk ((by rw [hg]; exact (below_size (hset HB.out)) : w.heap.size ≤ gb309)); have n5_ := Neq.mk ((by rw [hg]; exact Nat.ne_of_lt (blk_lt (g := gb308) (o := .cells #[.int .i64 a0_0, .int .i64 a0_1, .float .f64 a0_2, .slice A0_3 l0_3.length c0_3] 25 (0, 0)) (bup BK308.out)) : gb308 ≠ gb309)); have n6_ := Neq.mk ((by rw [hg]; exact Nat.ne_of_gt (blk_lt (g := gb308) (o := .cells #[.int .i64 a0_0, .int .i64 a0_1, .float .f64 a0_2, .slice A0_3 l0_3.length c0_3] 25 (0, 0)) (bup BK308.out)) : gb309 ≠ gb308)); clear BK308; clear HB; have BK308 := n0_; have HB := n1_; have BK309 := n2_; have GW309 := n3_; have GE309 := n4_; have NB308_309 := n5_; have NB309_308 := n6_; clear n0_ n1_ n2_ n3_ n4_ n5_ n6_; clear hb hbox hg) | ((with_reducible refine gate_dst (N := 3) rfl ?_); refine Kd.R_lit (Kd.int .u8) _ 5 ?hg (N := 3) ?hd (xs := ([] : List Int)) (inner := []) (ok := fun _ => True) (okp := fun _ => True) ?hr ?hp (fun _ hk => hk) trivial (Below.refl _ _) (Nat.le_refl _) (by simp) ?_; (case hd => rfl); (case hg => rfl); (case hr => first | (go_simp; done) | (go_simp; rfl)); (case hp => exact (Reps.none _ _)); intro v311 w5 ho6 hb hg_ hnew_; clear hg_ hnew_; (first | rw [← Ny310.out] at ho6 | (simp only [Int.reduceToNat] at ho6; rw [← Ny310.out] at ho6)); have n0_ := Aside0.mk (Kd.R_lower ho6 (below_size (hset HB.out))); have n1_ := Aside0.mk (blk_below (bup BK308.out) hb); have n2_ := Aside0.mk (blk_below (bup BK309.out) hb); have n3_ := Aside0.mk (below_step (hset HB.out) hb); clear BK308; clear BK309; clear HB; have HO312 := n0_; have BK308 := n1_; have BK309 := n2_; have HB := n3_; clear n0_ n1_ n2_ n3_; clear hb ho6; have hnb7 := NB308_309.out; have hnc7 := NB309_308.out; obtain ⟨hcz8_0, hcz8_1, hcz8_2, hcz8_3⟩ := blk_cells4 BK308.out; obtain ⟨hfz8_0, hfz8_1, hfz8_2, hfz8_3⟩ := blk_frozens4 BK308.out) | ((with_reducible refine gate_builtin (b := .append) (xs := #[.tmp 3, .tmp 5]) rfl ?_); at_builtin; refine Kd.R_append_rows (Kd.int .u8) (w0 := w) w.heap.size rfl (.tmp 3) (.tmp 5) 22 5 (.int .u8 0) 1 rfl Try.underlying22 info5 rfl (by decide) (by omega) v311 y310 l0_3 _ _ _ (fun _ => True) (fun _ => False) rfl rfl ?aO ?aR (fun _ _ h => h) (fun _ h => h.elim) ?aF ?aB ?aS ?aL ?_; (case aR => repeat (first | exact (Kd.C_below HR0_3.out HB.out) | (with_reducible refine Kd.C_alloc ?_ _) | (with_reducible refine Kd.C_drewN ?_ _) | (with_reducible refine Kd.C_drew ?_))); (case aB => exact (hset HB.out)); (case aF => exact (fun _ _ => trivial)); (case aO => exact (Kd.rup HO312.out)); (case aS => exact (below_size (hset HB.out))); (case aL => have := LMc2.out; omega); intro v314 w9 ho hb hg hat; rw [← Ny313.out] at ho; have n0_ := Aside0.mk (blk_grown (g := gb308) (o := .cells #[.int .i64 a0_0, .int .i64 a0_1, .float .f64 a0_2, .slice A0_3 l0_3.length c0_3] 25 (0, 0)) (bup BK308.out) hg (Kd.R_ne HO312.out BK308.out (by decide))); have n1_ := Aside0.mk (blk_grown (g := gb309) (o := .cells #[.int .i64 0, .int .i64 0, .float .f64 0, .slice none 0 0] 25 (0, 0)) (bup BK309.out) hg (Kd.R_ne HO312.out BK309.out (by decide))); have n2_ := Aside0.mk (hb); have n3_ := Aside0.mk (ho); clear BK308; clear BK309; clear HB; clear HO312; have BK308 := n0_; have BK309 := n1_; have HB := n2_; have HO315 := n3_; clear n0_ n1_ n2_ n3_; clear ho hb hg hat; obtain ⟨Ao10, co10, eo10⟩ := Kd.R_slice HO315.out; subst eo10; obtain ⟨hcz11_0, hcz11_1, hcz11_2, hcz11_3⟩ := blk_cells4 BK308.out; obtain ⟨hfz11_0, hfz11_1, hfz11_2, hfz11_3⟩ := blk_frozens4 BK308.out; obtain ⟨hcz12_0, hcz12_1, hcz12_2, hcz12_3⟩ := blk_cells4 BK309.out; obtain ⟨hfz12_0, hfz12_1, hfz12_2, hfz12_3⟩ := blk_frozens4 BK309.out))
    refine bodyPost_ret (results_cell_row rfl _ _ gb309 25 #[.int .i64 a0_0, .int .i64 a0_1, .float .f64 a0_2, .slice Ao10 y313.length co10] (0, 0) _ rfl (bput BK309.out) Try.underlying25 rfl (by kernel_rfl)) rfl ?_
    exact ⟨_, by first | rfl | (simp [errW_none, errW_some] <;> rfl) | (simp [*, errW_none, errW_some] <;> rfl), by exact Kd.rup (Kd.R_mono (Kd.R_far (p := ⟨gb309, 3, none⟩) (Kd.R_far (p := ⟨gb309, 2, none⟩) (Kd.R_far (p := ⟨gb309, 1, none⟩) (Kd.R_far (p := ⟨gb309, 0, none⟩) (Kd.R_far (p := ⟨gb308, 3, none⟩) (Kd.R_types (Kd.R_types HO315.out BK308.out (by decide)) BK309.out (by decide)) (fun _ hk => hk.1.2) (.slice Ao10 y313.length co10)) (fun _ hk => hk.2) (.int .i64 a0_0)) (fun _ hk => hk.2) (.int .i64 a0_1)) (fun _ hk => hk.2) (.float .f64 a0_2)) (fun _ hk => hk.2) (.slice Ao10 y313.length co10)) (fun _ hk => trivial)), hset HB.out⟩
  · rw [if_neg c2] at H
    exact absurd H (by simp)
theorem spec_l3copy.pass (a0_0 : Int) (a0_1 : Int) (a0_2 : Nat) (l0_3 : List Int) (r1 : Int) (r2 : Int) (r3 : Nat) (r4 : List Int) (hp : a0_2 < 2 ^ 64) (h : spec_l3copy.f a0_0 a0_1 (cn a0_2) l0_3 = some (r1, r2, r3, r4)) : ∃ b, spec_l3copy.f a0_0 a0_1 a0_2 l0_3 = some (r1, r2, b, r4) ∧ cn b = r3 ∧ b < 2 ^ 64 := by
  unfold spec_l3copy.f at h ⊢
  simp only [Option.bind_some] at h ⊢
  split at h
  · rename_i hc
    rw [if_pos hc]
    simp only [Option.some.injEq, Prod.mk.injEq] at h
    obtain ⟨rfl, rfl, rfl, rfl⟩ := h
    exact ⟨a0_2, rfl, rfl, hp⟩
  · cases h
def spec_ItemClean.f (k : Nat) (a0_0 : Int) (a0_1 : Int) (a0_2 : Nat) (l0_3 : List Int) : Option (Int × Int × Nat × List Int) := (spec_ItemOk.f k a0_0 a0_1 a0_2 l0_3).bind fun t318 => (if t318 = true then ((spec_l3copy.f a0_0 a0_1 a0_2 l0_3).bind fun bt319 => (if (feq a0_2 0) = true then (some (bt319.1, bt319.2.1, 0, bt319.2.2.2)) else (some (bt319.1, bt319.2.1, bt319.2.2.1, bt319.2.2.2)))) else (some (0, 0, 0, ([] : List Int))))
theorem spec_ItemClean.mono : ∀ a0 a1 a2 a3 k, LeO (spec_ItemClean.f k a0 a1 a2 a3) (spec_ItemClean.f (k + 1) a0 a1 a2 a3) := by
 intro a0 a1 a2 a3 k
 unfold spec_ItemClean.f
 repeat' with_reducible first | exact spec_ItemOk.mono _ _ _ _ _ | exact LeO.refl _ | exact LeO.none _ | refine LeO.ite ?_ ?_ | refine LeO.bind ?_ (fun _ => ?_)
set_option maxHeartbeats 8000000 in
set_option maxRecDepth 100000 in
theorem spec_ItemClean.calls (k : Nat) (a0_0 : Int) (a0_1 : Int) (a0_2 : Nat) (A0_3 : Option Addr) (c0_3 : Nat) (l0_3 : List Int) (r1 : Int) (r2 : Int) (r3 : Nat) (r4 : List Int) (w : World) (hr0_3 : Kd.C (Kd.int .u8) w A0_3 l0_3.length l0_3) (hc0_3 : l0_3.length ≤ c0_3) (h : spec_ItemClean.f k a0_0 a0_1 a0_2 l0_3 = some (r1, r2, r3, r4)) :
  Calls Try.prog 21 #[.agg #[.int .i64 a0_0, .int .i64 a0_1, .float .f64 a0_2, .slice A0_3 l0_3.length c0_3]] w fun e w' => ∃ v3_ : Value, e = .returned (.agg #[.int .i64 r1, .int .i64 r2, .float .f64 r3, v3_]) ∧ Kd.R (Kd.int .u8) 5 w' w.heap.size (fun _ => True) v3_ r4 ∧ Below w.heap.size w w' := by
 have hu25 := Try.underlying25
 have HR0_3 := Aside0.mk hr0_3
 have HC0_3 := Aside0.mk hc0_3
 clear hr0_3 hc0_3
 have HB := Aside0.mk (Below.refl w.heap.size w)
 have H := h
 clear h
 unfold spec_ItemClean.f at H
 replace H := Option.bind_eq_some_iff.mp H
 obtain ⟨t318, A20, H⟩ := H
 (try dsimp only at H)
 have A2 := Aside0.mk A20
 clear A20
 by_cases c3 : t318 = true
 ·subst c3
  rw [if_pos rfl] at H
  (try dsimp only at H)
  replace H := Option.bind_eq_some_iff.mp H
  obtain ⟨⟨t319, t320, t321, t322⟩, A40, H⟩ := H
  (try dsimp only at H)
  have A4 := Aside0.mk A40
  clear A40
  by_cases c5 : (feq a0_2 0) = true
  ·rw [if_pos c5] at H
   have c5b0 : (feq a0_2 0) = true := c5
   clear c5
   simp only [Option.some.injEq, Prod.mk.injEq] at H
   obtain ⟨rfl, rfl, rfl, rfl⟩ := H
   have TOP := Aside0.mk (Nat.le_refl w.heap.size)
   have OW := Aside0.mk (Nat.le_refl w.heap.size)
   go_enter Try.func21, Try.ntmps21
   try go_wp2_with (first | ((with_reducible refine gate_dst (N := 1) rfl ?_); refine box_event ?hg (N := 1) ?hd (cs := #[.int .i64 a0_0, .int .i64 a0_1, .float .f64 a0_2, .slice A0_3 l0_3.length c0_3]) (t := 25) ?hr ?_; (case hd => rfl); (case hg => rfl); (case hr => first | (go_simp; done) | (go_simp; rfl)); intro g3002 hg w3001 hbox hb; have OD3004 := Aside0.mk (show w.heap.size ≤ g3002 from by rw [hg]; exact TOP.out); have n0_ := Aside0.mk (below_step (hup HB.out) hb); have n1_ := Aside0.mk (show g3002 + 1 ≤ w3001.heap.size from blk_lt hbox); (try clear HB TOP); have HB := n0_; have TOP := n1_; clear n0_ n1_; have BK3003 := Aside0.mk (show w3001.heap[g3002]? = some (.cells #[.int .i64 a0_0, .int .i64 a0_1, .float .f64 a0_2, .slice A0_3 l0_3.length c0_3] 25 (0, 0)) from hbox); clear hg hb hbox; have OW_ := Aside0.mk (And.intro OW.out OD3004.out); clear OW OD3004; have OW := OW_; clear OW_; obtain ⟨hz3005, hz3006, hz3007, hz3008⟩ := blk_cells4 BK3003.out; obtain ⟨hy3009, hy3010, hy3011, hy3012⟩ := blk_frozens4 BK3003.out) | ((with_reducible refine gate_dst (N := 2) rfl ?_); refine box_event ?hg (N := 2) ?hd (cs := #[.int .i64 0, .int .i64 0, .float .f64 0, .slice none 0 0]) (t := 25) ?hr ?_; (case hd => rfl); (case hg => rfl); (case hr => first | (go_simp; done) | (go_simp; rfl)); intro g3014 hg w3013 hbox hb; have OD3016 := Aside0.mk (show g3002 + 1 ≤ g3014 from by rw [hg]; exact TOP.out); have n0_ := Aside0.mk (blk_below (bup BK3003.out) hb); have n1_ := Aside0.mk (below_step (hup HB.out) hb); have n2_ := Aside0.mk (show g3014 + 1 ≤ w3013.heap.size from blk_lt hbox); (try clear BK3003 HB TOP); have BK3003 := n0_; have HB := n1_; have TOP := n2_; clear n0_ n1_ n2_; have BK3015 := Aside0.mk (show w3013.heap[g3014]? = some (.cells #[.int .i64 0, .int .i64 0, .float .f64 0, .slice none 0 0] 25 (0, 0)) from hbox); clear hg hb hbox; have OW_ := Aside0.mk (And.intro OW.out OD3016.out); clear OW OD3016; have OW := OW_; clear OW_; (try clear hz3005 hz3006 hz3007 hz3008 hy3009 hy3010 hy3011 hy3012); obtain ⟨hz3017, hz3018, hz3019, hz3020⟩ := blk_cells4 BK3003.out; obtain ⟨hy3021, hy3022, hy3023, hy3024⟩ := blk_frozens4 BK3003.out; obtain ⟨hz3025, hz3026, hz3027, hz3028⟩ := blk_cells4 BK3015.out; obtain ⟨hy3029, hy3030, hy3031, hy3032⟩ := blk_frozens4 BK3015.out) | ((with_reducible refine gate_callee (f := 27) rfl ?_); refine goesL_ (some 5) rfl rfl Try.func27 (by kernel_rfl) rfl #[.agg #[.int .i64 a0_0, .int .i64 a0_1, .float .f64 a0_2, .slice A0_3 l0_3.length c0_3]] rfl (by (try simp only [List.map_toArray, List.map_cons, List.map_nil]); first | done | rfl | (simp only [List.length_drop, List.length_take]; rfl) | (rw [List.length_drop] <;> rfl)) ?_; (with_reducible refine (spec_ItemOk.calls k a0_0 a0_1 a0_2 _ _ l0_3 true _ ?s1 ?s2 A2.out).mono ?_); (case s1 => exact Kd.C_below HR0_3.out (hup HB.out)); (case s2 => exact HC0_3.out); rintro e w3033 ⟨rfl, hb⟩; refine ⟨_, rfl, ?_⟩; have n0_ := Aside0.mk (blk_below (bup BK3003.out) hb); have n1_ := Aside0.mk (blk_below (bup BK3015.out) hb); have n2_ := Aside0.mk (below_step (hup HB.out) hb); have n3_ := Aside0.mk (show g3014 + 1 ≤ w3033.heap.size from Nat.le_trans TOP.out hb.size); (try clear BK3003 BK3015 HB TOP); have BK3003 := n0_; have BK3015 := n1_; have HB := n2_; have TOP := n3_; clear n0_ n1_ n2_ n3_; clear hb; (try clear hz3017 hz3018 hz3019 hz3020 hy3021 hy3022 hy3023 hy3024 hz3025 hz3026 hz3027 hz3028 hy3029 hy3030 hy3031 hy3032); obtain ⟨hz3034, hz3035, hz3036, hz3037⟩ := blk_cells4 BK3003.out; obtain ⟨hy3038, hy3039, hy3040, hy3041⟩ := blk_frozens4 BK3003.out; obtain ⟨hz3042, hz3043, hz3044, hz3045⟩ := blk_cells4 BK3015.out; obtain ⟨hy3046, hy3047, hy3048, hy3049⟩ := blk_frozens4 BK3015.out) | ((with_reducible refine gate_callee (f := 60) rfl ?_); refine goesL_ (some 9) rfl rfl Try.func60 (by kernel_rfl) rfl #[.agg #[.int .i64 a0_0, .int .i64 a0_1, .float .f64 a0_2, .slice A0_3 l0_3.length c0_3]] rfl (by (try simp only [List.map_toArray, List.map_cons, List.map_nil]); first | done | rfl | (simp only [List.length_drop, List.length_take]; rfl) | (rw [List.length_drop] <;> rfl)) ?_; (with_reducible refine (spec_l3copy.calls a0_0 a0_1 a0_2 _ _ l0_3 t319 t320 t321 t322 _ ?s1 ?s2 A4.out).mono ?_); (case s1 => exact Kd.C_below HR0_3.out (hup HB.out)); (case s2 => exact HC0_3.out); rintro e w3050 ⟨v3_, rfl, ho3051, hb⟩; refine ⟨_, rfl, ?_⟩; obtain ⟨lo3052, hi3053, OD3054_, OD3055_, tp_, F3056_⟩ := Kd.R_born (base := w.heap.size) ho3051 (below_size (hup HB.out)) TOP.out hb.size; clear ho3051; have OD3054 := Aside0.mk OD3054_; have OD3055 := Aside0.mk OD3055_; clear OD3054_ OD3055_; have F3056 := Aside0.mk F3056_; clear F3056_; have n0_ := Aside0.mk (blk_below (bup BK3003.out) hb); have n1_ := Aside0.mk (blk_below (bup BK3015.out) hb); have n2_ := Aside0.mk (below_step (hup HB.out) hb); have n3_ := Aside0.mk (show hi3053 ≤ w3050.heap.size from tp_); (try clear BK3003 BK3015 HB TOP); have BK3003 := n0_; have BK3015 := n1_; have HB := n2_; have TOP := n3_; clear n0_ n1_ n2_ n3_; clear hb tp_; have OW_ := Aside0.mk (And.intro OW.out (And.intro OD3054.out OD3055.out)); clear OW OD3054 OD3055; have OW := OW_; clear OW_; obtain ⟨Ao3057, co3058, eo3059⟩ := Kd.R_slice F3056.out; subst eo3059; (try clear hz3034 hz3035 hz3036 hz3037 hy3038 hy3039 hy3040 hy3041 hz3042 hz3043 hz3044 hz3045 hy3046 hy3047 hy3048 hy3049); obtain ⟨hz3060, hz3061, hz3062, hz3063⟩ := blk_cells4 BK3003.out; obtain ⟨hy3064, hy3065, hy3066, hy3067⟩ := blk_frozens4 BK3003.out; obtain ⟨hz3068, hz3069, hz3070, hz3071⟩ := blk_cells4 BK3015.out; obtain ⟨hy3072, hy3073, hy3074, hy3075⟩ := blk_frozens4 BK3015.out) | ((with_reducible refine gate_dst (N := 3) rfl ?_); refine box_event ?hg (N := 3) ?hd (cs := #[.int .i64 0, .int .i64 0, .float .f64 0, .slice none 0 0]) (t := 25) ?hr ?_; (case hd => rfl); (case hg => rfl); (case hr => first | (go_simp; done) | (go_simp; rfl)); intro g3077 hg w3076 hbox hb; have OD3079 := Aside0.mk (show hi3053 ≤ g3077 from by rw [hg]; exact TOP.out); have n0_ := Aside0.mk (blk_below (bup BK3003.out) hb); have n1_ := Aside0.mk (blk_below (bup BK3015.out) hb); have n2_ := Aside0.mk (Kd.R_below (Kd.rup F3056.out) hb); have n3_ := Aside0.mk (below_step (hup HB.out) hb); have n4_ := Aside0.mk (show g3077 + 1 ≤ w3076.heap.size from blk_lt hbox); (try clear BK3003 BK3015 F3056 HB TOP); have BK3003 := n0_; have BK3015 := n1_; have F3056 := n2_; have HB := n3_; have TOP := n4_; clear n0_ n1_ n2_ n3_ n4_; have BK3078 := Aside0.mk (show w3076.heap[g3077]? = some (.cells #[.int .i64 0, .int .i64 0, .float .f64 0, .slice none 0 0] 25 (0, 0)) from hbox); clear hg hb hbox; have OW_ := Aside0.mk (And.intro OW.out OD3079.out); clear OW OD3079; have OW := OW_; clear OW_; (try clear hz3060 hz3061 hz3062 hz3063 hy3064 hy3065 hy3066 hy3067 hz3068 hz3069 hz3070 hz3071 hy3072 hy3073 hy3074 hy3075); obtain ⟨hz3080, hz3081, hz3082, hz3083⟩ := blk_cells4 BK3003.out; obtain ⟨hy3084, hy3085, hy3086, hy3087⟩ := blk_frozens4 BK3003.out; obtain ⟨hz3088, hz3089, hz3090, hz3091⟩ := blk_cells4 BK3015.out; obtain ⟨hy3092, hy3093, hy3094, hy3095⟩ := blk_frozens4 BK3015.out; obtain ⟨hz3096, hz3097, hz3098, hz3099⟩ := blk_cells4 BK3078.out; obtain ⟨hy3100, hy3101, hy3102, hy3103⟩ := blk_frozens4 BK3078.out) | ((with_reducible refine gate_store (t := 25) (p := 3) rfl ?_); refine store_event (t := 25) (p := 3) (v := ?vo3105) (w1 := ((((w3076.setCell ⟨g3077, 0, none⟩ (.int .i64 t319)).setCell ⟨g3077, 1, none⟩ (.int .i64 t320)).setCell ⟨g3077, 2, none⟩ (.float .f64 t321)).setCell ⟨g3077, 3, none⟩ (.slice Ao3057 t322.length co3058))) ?hg ?ho ?hn ?hr ?_; (case ho => rfl); (case hg => rfl); (case hn => rfl); (case hr => first | (go_simp; done) | (go_simp; rfl)); intro w3104 hw; have n0_ := Aside0.mk (show w3104.heap[g3002]? = some (.cells #[.int .i64 a0_0, .int .i64 a0_1, .float .f64 a0_2, .slice A0_3 l0_3.length c0_3] 25 (0, 0)) from by rw [hw]; have ne_ : g3002 ≠ g3077 := (by have q_ := OW.out; omega); exact blk_far (blk_far (blk_far (blk_far (BK3003.out) ne_ _) ne_ _) ne_ _) ne_ _); have n1_ := Aside0.mk (show w3104.heap[g3014]? = some (.cells #[.int .i64 0, .int .i64 0, .float .f64 0, .slice none 0 0] 25 (0, 0)) from by rw [hw]; have ne_ : g3014 ≠ g3077 := (by have q_ := OW.out; omega); exact blk_far (blk_far (blk_far (blk_far (BK3015.out) ne_ _) ne_ _) ne_ _) ne_ _); have n2_ := Aside0.mk (show w3104.heap[g3077]? = some (.cells #[.int .i64 t319, .int .i64 t320, .float .f64 t321, .slice Ao3057 t322.length co3058] 25 (0, 0)) from by rw [hw]; exact blk_put (cs := #[.int .i64 t319, .int .i64 t320, .float .f64 t321, .slice none 0 0]) (blk_put (cs := #[.int .i64 t319, .int .i64 t320, .float .f64 0, .slice none 0 0]) (blk_put (cs := #[.int .i64 t319, .int .i64 0, .float .f64 0, .slice none 0 0]) (blk_put (cs := #[.int .i64 0, .int .i64 0, .float .f64 0, .slice none 0 0]) (BK3078.out) 0 _ rfl) 1 _ rfl) 2 _ rfl) 3 _ rfl); have n3_ := Aside0.mk (show Kd.R (Kd.int .u8) 5 w3104 w.heap.size (iv lo3052 hi3053) (.slice Ao3057 t322.length co3058) t322 from by rw [hw]; have ne_ : g3077 < lo3052 ∨ hi3053 ≤ g3077 := (by have q_ := OW.out; omega); exact Kd.R_ivset (Kd.R_ivset (Kd.R_ivset (Kd.R_ivset (F3056.out) ne_ 0 _) ne_ 1 _) ne_ 2 _) ne_ 3 _); have n4_ := Aside0.mk (show Below w.heap.size w w3104 from by rw [hw]; have ge_ : w.heap.size ≤ g3077 := (by have q_ := OW.out; omega); exact below_set (below_set (below_set (below_set (HB.out) ge_) ge_) ge_) ge_); have n5_ := Aside0.mk (show g3077 + 1 ≤ w3104.heap.size from by rw [hw]; simp only [size_set]; exact TOP.out); (try clear BK3003 BK3015 BK3078 F3056 HB TOP); have BK3003 := n0_; have BK3015 := n1_; have BK3078 := n2_; have F3056 := n3_; have HB := n4_; have TOP := n5_; clear n0_ n1_ n2_ n3_ n4_ n5_; clear hw; (try clear hz3080 hz3081 hz3082 hz3083 hy3084 hy3085 hy3086 hy3087 hz3088 hz3089 hz3090 hz3091 hy3092 hy3093 hy3094 hy3095 hz3096 hz3097 hz3098 hz3099 hy3100 hy3101 hy3102 hy3103); obtain ⟨hz3106, hz3107, hz3108, hz3109⟩ := blk_cells4 BK3003.out; obtain ⟨hy3110, hy3111, hy3112, hy3113⟩ := blk_frozens4 BK3003.out; obtain ⟨hz3114, hz3115, hz3116, hz3117⟩ := blk_cells4 BK3015.out; obtain ⟨hy3118, hy3119, hy3120, hy3121⟩ := blk_frozens4 BK3015.out; obtain ⟨hz3122, hz3123, hz3124, hz3125⟩ := blk_cells4 BK3078.out; obtain ⟨hy3126, hy3127, hy3128, hy3129⟩ := blk_frozens4 BK3078.out) | ((with_reducible refine gate_store (t := 23) (p := 13) rfl ?_); refine store_event (t := 23) (p := 13) (v := ?vo3131) (w1 := (w3104.setCell ⟨g3077, 2, none⟩ (.float .f64 0))) ?hg ?ho ?hn ?hr ?_; (case ho => rfl); (case hg => rfl); (case hn => rfl); (case hr => first | (go_simp; done) | (go_simp; rfl)); intro w3130 hw; have n0_ := Aside0.mk (show w3130.heap[g3002]? = some (.cells #[.int .i64 a0_0, .int .i64 a0_1, .float .f64 a0_2, .slice A0_3 l0_3.length c0_3] 25 (0, 0)) from by rw [hw]; have ne_ : g3002 ≠ g3077 := (by have q_ := OW.out; omega); exact blk_far (BK3003.out) ne_ _); have n1_ := Aside0.mk (show w3130.heap[g3014]? = some (.cells #[.int .i64 0, .int .i64 0, .float .f64 0, .slice none 0 0] 25 (0, 0)) from by rw [hw]; have ne_ : g3014 ≠ g3077 := (by have q_ := OW.out; omega); exact blk_far (BK3015.out) ne_ _); have n2_ := Aside0.mk (show w3130.heap[g3077]? = some (.cells #[.int .i64 t319, .int .i64 t320, .float .f64 0, .slice Ao3057 t322.length co3058] 25 (0, 0)) from by rw [hw]; exact blk_put (cs := #[.int .i64 t319, .int .i64 t320, .float .f64 t321, .slice Ao3057 t322.length co3058]) (BK3078.out) 2 _ rfl); have n3_ := Aside0.mk (show Kd.R (Kd.int .u8) 5 w3130 w.heap.size (iv lo3052 hi3053) (.slice Ao3057 t322.length co3058) t322 from by rw [hw]; have ne_ : g3077 < lo3052 ∨ hi3053 ≤ g3077 := (by have q_ := OW.out; omega); exact Kd.R_ivset (F3056.out) ne_ 2 _); have n4_ := Aside0.mk (show Below w.heap.size w w3130 from by rw [hw]; have ge_ : w.heap.size ≤ g3077 := (by have q_ := OW.out; omega); exact below_set (HB.out) ge_); have n5_ := Aside0.mk (show g3077 + 1 ≤ w3130.heap.size from by rw [hw]; simp only [size_set]; exact TOP.out); (try clear BK3003 BK3015 BK3078 F3056 HB TOP); have BK3003 := n0_; have BK3015 := n1_; have BK3078 := n2_; have F3056 := n3_; have HB := n4_; have TOP := n5_; clear n0_ n1_ n2_ n3_ n4_ n5_; clear hw; (try clear hz3106 hz3107 hz3108 hz3109 hy3110 hy3111 hy3112 hy3113 hz3114 hz3115 hz3116 hz3117 hy3118 hy3119 hy3120 hy3121 hz3122 hz3123 hz3124 hz3125 hy3126 hy3127 hy3128 hy3129); obtain ⟨hz3132, hz3133, hz3134, hz3135⟩ := blk_cells4 BK3015.out; obtain ⟨hy3136, hy3137, hy3138, hy3139⟩ := blk_frozens4 BK3015.out; obtain ⟨hz3140, hz3141, hz3142, hz3143⟩ := blk_cells4 BK3078.out; obtain ⟨hy3144, hy3145, hy3146, hy3147⟩ := blk_frozens4 BK3078.out) | ((with_reducible refine gate_store (t := 25) (p := 2) rfl ?_); refine store_event (t := 25) (p := 2) (v := ?vo3149) (w1 := ((((w3130.setCell ⟨g3014, 0, none⟩ (.int .i64 t319)).setCell ⟨g3014, 1, none⟩ (.int .i64 t320)).setCell ⟨g3014, 2, none⟩ (.float .f64 0)).setCell ⟨g3014, 3, none⟩ (.slice Ao3057 t322.length co3058))) ?hg ?ho ?hn ?hr ?_; (case ho => rfl); (case hg => rfl); (case hn => rfl); (case hr => first | (go_simp; done) | (go_simp; rfl)); intro w3148 hw; have n0_ := Aside0.mk (show w3148.heap[g3002]? = some (.cells #[.int .i64 a0_0, .int .i64 a0_1, .float .f64 a0_2, .slice A0_3 l0_3.length c0_3] 25 (0, 0)) from by rw [hw]; have ne_ : g3002 ≠ g3014 := (by have q_ := OW.out; omega); exact blk_far (blk_far (blk_far (blk_far (BK3003.out) ne_ _) ne_ _) ne_ _) ne_ _); have n1_ := Aside0.mk (show w3148.heap[g3014]? = some (.cells #[.int .i64 t319, .int .i64 t320, .float .f64 0, .slice Ao3057 t322.length co3058] 25 (0, 0)) from by rw [hw]; exact blk_put (cs := #[.int .i64 t319, .int .i64 t320, .float .f64 0, .slice none 0 0]) (blk_put (cs := #[.int .i64 t319, .int .i64 t320, .float .f64 0, .slice none 0 0]) (blk_put (cs := #[.int .i64 t319, .int .i64 0, .float .f64 0, .slice none 0 0]) (blk_put (cs := #[.int .i64 0, .int .i64 0, .float .f64 0, .slice none 0 0]) (BK3015.out) 0 _ rfl) 1 _ rfl) 2 _ rfl) 3 _ rfl); have n2_ := Aside0.mk (show w3148.heap[g3077]? = some (.cells #[.int .i64 t319, .int .i64 t320, .float .f64 0, .slice Ao3057 t322.length co3058] 25 (0, 0)) from by rw [hw]; have ne_ : g3077 ≠ g3014 := (by have q_ := OW.out; omega); exact blk_far (blk_far (blk_far (blk_far (BK3078.out) ne_ _) ne_ _) ne_ _) ne_ _); have n3_ := Aside0.mk (show Kd.R (Kd.int .u8) 5 w3148 w.heap.size (iv lo3052 hi3053) (.slice Ao3057 t322.length co3058) t322 from by rw [hw]; have ne_ : g3014 < lo3052 ∨ hi3053 ≤ g3014 := (by have q_ := OW.out; omega); exact Kd.R_ivset (Kd.R_ivset (Kd.R_ivset (Kd.R_ivset (F3056.out) ne_ 0 _) ne_ 1 _) ne_ 2 _) ne_ 3 _); have n4_ := Aside0.mk (show Below w.heap.size w w3148 from by rw [hw]; have ge_ : w.heap.size ≤ g3014 := (by have q_ := OW.out; omega); exact below_set (below_set (below_set (below_set (HB.out) ge_) ge_) ge_) ge_); have n5_ := Aside0.mk (show g3077 + 1 ≤ w3148.heap.size from by rw [hw]; simp only [size_set]; exact TOP.out); (try clear BK3003 BK3015 BK3078 F3056 HB TOP); have BK3003 := n0_; have BK3015 := n1_; have BK3078 := n2_; have F3056 := n3_; have HB := n4_; have TOP := n5_; clear n0_ n1_ n2_ n3_ n4_ n5_; clear hw; (try clear hz3132 hz3133 hz3134 hz3135 hy3136 hy3137 hy3138 hy3139 hz3140 hz3141 hz3142 hz3143 hy3144 hy3145 hy3146 hy3147)))
   refine bodyPost_ret (results_cell_row rfl _ _ g3014 25 #[.int .i64 t319, .int .i64 t320, .float .f64 0, .slice Ao3057 t322.length co3058] (0, 0) _ rfl (by exact BK3015.out) Try.underlying25 rfl (by kernel_rfl)) rfl ?_
   exact ⟨_, by first | rfl | (simp; done) | (simp [*]; done), Kd.R_mono F3056.out (fun _ hk => trivial), HB.out⟩
  ·rw [if_neg c5] at H
   have c5b0 : (feq a0_2 0) = false := by simpa using c5
   clear c5
   simp only [Option.some.injEq, Prod.mk.injEq] at H
   obtain ⟨rfl, rfl, rfl, rfl⟩ := H
   go_enter Try.func21, Try.ntmps21
   go_wp2_with (first | ((with_reducible refine gate_dst (N := 1) rfl ?_); refine box_event ?hg (N := 1) ?hd (cs := #[.int .i64 a0_0, .int .i64 a0_1, .float .f64 a0_2, .slice A0_3 l0_3.length c0_3]) (t := 25) ?hr ?_; (case hd => rfl); (case hg => rfl); (case hr => first | (go_simp; done) | (go_simp; rfl)); intro gb316 hg w20 hbox hb; have n0_ := Aside0.mk (below_step (hup HB.out) hb); have n1_ := Aside0.mk (hbox); have n2_ := Geq.mk ((by rw [hg]; exact (below_size (hup HB.out)) : w.heap.size ≤ gb316)); have n3_ := Geq.mk ((by rw [hg]; exact (below_size (hup HB.out)) : w.heap.size ≤ gb316)); clear HB; have HB := n0_; have BK316 := n1_; have GW316 := n2_; have GE316 := n3_; clear n0_ n1_ n2_ n3_; clear hb hbox hg) | ((with_reducible refine gate_dst (N := 2) rfl ?_); refine box_event ?hg (N := 2) ?hd (cs := #[.int .i64 0, .int .i64 0, .float .f64 0, .slice none 0 0]) (t := 25) ?hr ?_; (case hd => rfl); (case hg => rfl); (case hr => first | (go_simp; done) | (go_simp; rfl)); intro gb317 hg w21 hbox hb; have n0_ := Aside0.mk (blk_below (bup BK316.out) hb); have n1_ := Aside0.mk (below_step (hset HB.out) hb); have n2_ := Aside0.mk (hbox); have n3_ := Geq.mk ((by rw [hg]; exact (below_size (hset HB.out)) : w.heap.size ≤ gb317)); have n4_ := Geq.mk ((by rw [hg]; exact (below_size (hset HB.out)) : w.heap.size ≤ gb317)); have n5_ := Neq.mk ((by rw [hg]; exact Nat.ne_of_lt (blk_lt (g := gb316) (o := .cells #[.int .i64 a0_0, .int .i64 a0_1, .float .f64 a0_2, .slice A0_3 l0_3.length c0_3] 25 (0, 0)) (bup BK316.out)) : gb316 ≠ gb317)); have n6_ := Neq.mk ((by rw [hg]; exact Nat.ne_of_gt (blk_lt (g := gb316) (o := .cells #[.int .i64 a0_0, .int .i64 a0_1, .float .f64 a0_2, .slice A0_3 l0_3.length c0_3] 25 (0, 0)) (bup BK316.out)) : gb317 ≠ gb316)); clear BK316; clear HB; have BK316 := n0_; have HB := n1_; have BK317 := n2_; have GW317 := n3_; have GE317 := n4_; have NB316_317 := n5_; have NB317_316 := n6_; clear n0_ n1_ n2_ n3_ n4_ n5_ n6_; clear hb hbox hg; have hnb22 := NB316_317.out; have hnc22 := NB317_316.out; obtain ⟨hcz23_0, hcz23_1, hcz23_2, hcz23_3⟩ := blk_cells4 BK316.out; obtain ⟨hfz23_0, hfz23_1, hfz23_2, hfz23_3⟩ := blk_frozens4 BK316.out) | ((with_reducible refine gate_callee (f := 27) rfl ?_); refine goesL_ (some 5) rfl rfl Try.func27 (by kernel_rfl) rfl #[.agg #[.int .i64 a0_0, .int .i64 a0_1, .float .f64 a0_2, .slice A0_3 l0_3.length c0_3]] rfl (by (try simp only [List.map_toArray, List.map_cons, List.map_nil]); first | done | rfl) ?_; (with_reducible refine (spec_ItemOk.calls k a0_0 a0_1 a0_2 _ _ l0_3 true _ ?side1 ?side2 A2.out).mono ?_); (case side1 => repeat (first | exact (Kd.C_below HR0_3.out HB.out) | (with_reducible refine Kd.C_alloc ?_ _) | (with_reducible refine Kd.C_drewN ?_ _) | (with_reducible refine Kd.C_drew ?_))); (case side2 => exact HC0_3.out); rintro e w24 ⟨rfl, hb⟩; refine ⟨_, rfl, ?_⟩; have n0_ := Aside0.mk (blk_below (bup BK316.out) hb); have n1_ := Aside0.mk (blk_below (bup BK317.out) hb); have n2_ := Aside0.mk (below_step (hset HB.out) hb); clear BK316; clear BK317; clear HB; have BK316 := n0_; have BK317 := n1_; have HB := n2_; clear n0_ n1_ n2_; (try clear hb); (try clear hb2); (try clear hk); (try clear hi); obtain ⟨hcz25_0, hcz25_1, hcz25_2, hcz25_3⟩ := blk_cells4 BK316.out; obtain ⟨hfz25_0, hfz25_1, hfz25_2, hfz25_3⟩ := blk_frozens4 BK316.out) | ((with_reducible refine gate_callee (f := 60) rfl ?_); refine goesL_ (some 9) rfl rfl Try.func60 (by kernel_rfl) rfl #[.agg #[.int .i64 a0_0, .int .i64 a0_1, .float .f64 a0_2, .slice A0_3 l0_3.length c0_3]] rfl (by (try simp only [List.map_toArray, List.map_cons, List.map_nil]); first | done | rfl) ?_; (with_reducible refine (spec_l3copy.calls a0_0 a0_1 a0_2 _ _ l0_3 t319 t320 t321 t322 _ ?side1 ?side2 A4.out).mono ?_); (case side1 => repeat (first | exact (Kd.C_below HR0_3.out HB.out) | (with_reducible refine Kd.C_alloc ?_ _) | (with_reducible refine Kd.C_drewN ?_ _) | (with_reducible refine Kd.C_drew ?_))); (case side2 => exact HC0_3.out); rintro e w26 ⟨v323, rfl, ho0, hb⟩; refine ⟨_, rfl, ?_⟩; have n0_ := Aside0.mk (Kd.R_lower ho0 (below_size (hset HB.out))); have n1_ := Aside0.mk (blk_below (bup BK316.out) hb); have n2_ := Aside0.mk (blk_below (bup BK317.out) hb); have n3_ := Aside0.mk (below_step (hset HB.out) hb); clear BK316; clear BK317; clear HB; have HO324 := n0_; have BK316 := n1_; have BK317 := n2_; have HB := n3_; clear n0_ n1_ n2_ n3_; (try clear hb); (try clear hb2); (try clear hk); (try clear hi); (try clear ho0)) | ((with_reducible refine gate_dst (N := 3) rfl ?_); refine box_event ?hg (N := 3) ?hd (cs := #[.int .i64 0, .int .i64 0, .float .f64 0, .slice none 0 0]) (t := 25) ?hr ?_; (case hd => rfl); (case hg => rfl); (case hr => first | (go_simp; done) | (go_simp; rfl)); intro gb325 hg w27 hbox hb; have n0_ := Aside0.mk (Kd.R_below (Kd.rup HO324.out) hb); have n1_ := Aside0.mk (blk_below (bup BK316.out) hb); have n2_ := Aside0.mk (blk_below (bup BK317.out) hb); have n3_ := Aside0.mk (below_step (hset HB.out) hb); have n4_ := Aside0.mk (hbox); have n5_ := Geq.mk ((by rw [hg]; exact (below_size (hset HB.out)) : w.heap.size ≤ gb325)); have n6_ := Geq.mk ((by rw [hg]; exact (below_size (hset HB.out)) : w.heap.size ≤ gb325)); have n7_ := Neq.mk ((by rw [hg]; exact Nat.ne_of_lt (blk_lt (g := gb316) (o := .cells #[.int .i64 a0_0, .int .i64 a0_1, .float .f64 a0_2, .slice A0_3 l0_3.length c0_3] 25 (0, 0)) (bup BK316.out)) : gb316 ≠ gb325)); have n8_ := Neq.mk ((by rw [hg]; exact Nat.ne_of_gt (blk_lt (g := gb316) (o := .cells #[.int .i64 a0_0, .int .i64 a0_1, .float .f64 a0_2, .slice A0_3 l0_3.length c0_3] 25 (0, 0)) (bup BK316.out)) : gb325 ≠ gb316)); have n9_ := Neq.mk ((by rw [hg]; exact Nat.ne_of_lt (blk_lt (g := gb317) (o := .cells #[.int .i64 0, .int .i64 0, .float .f64 0, .slice none 0 0] 25 (0, 0)) (bup BK317.out)) : gb317 ≠ gb325)); have n10_ := Neq.mk ((by rw [hg]; exact Nat.ne_of_gt (blk_lt (g := gb317) (o := .cells #[.int .i64 0, .int .i64 0, .float .f64 0, .slice none 0 0] 25 (0, 0)) (bup BK317.out)) : gb325 ≠ gb317)); clear HO324; clear BK316; clear BK317; clear HB; have HO324 := n0_; have BK316 := n1_; have BK317 := n2_; have HB := n3_; have BK325 := n4_; have GW325 := n5_; have GE325 := n6_; have NB316_325 := n7_; have NB325_316 := n8_; have NB317_325 := n9_; have NB325_317 := n10_; clear n0_ n1_ n2_ n3_ n4_ n5_ n6_ n7_ n8_ n9_ n10_; clear hb hbox hg; have hnb28 := NB325_316.out; have hnc28 := NB316_325.out; have hnb29 := NB325_317.out; have hnc29 := NB317_325.out; obtain ⟨hcz30_0, hcz30_1, hcz30_2, hcz30_3⟩ := blk_cells4 BK325.out; obtain ⟨hfz30_0, hfz30_1, hfz30_2, hfz30_3⟩ := blk_frozens4 BK325.out; obtain ⟨Ao31, co31, eo31⟩ := Kd.R_slice HO324.out; subst eo31; obtain ⟨hcz32_0, hcz32_1, hcz32_2, hcz32_3⟩ := blk_cells4 BK316.out; obtain ⟨hfz32_0, hfz32_1, hfz32_2, hfz32_3⟩ := blk_frozens4 BK316.out; obtain ⟨hcz33_0, hcz33_1, hcz33_2, hcz33_3⟩ := blk_cells4 BK317.out; obtain ⟨hfz33_0, hfz33_1, hfz33_2, hfz33_3⟩ := blk_frozens4 BK317.out))
   refine bodyPost_ret (results_cell_row rfl _ _ gb317 25 #[.int .i64 t319, .int .i64 t320, .float .f64 t321, .slice Ao31 t322.length co31] (0, 0) _ rfl (bput BK317.out) Try.underlying25 rfl (by kernel_rfl)) rfl ?_
   exact ⟨_, by first | rfl | (simp [errW_none, errW_some] <;> rfl) | (simp [*, errW_none, errW_some] <;> rfl), by exact Kd.rup (Kd.R_mono (Kd.R_far (p := ⟨gb317, 3, none⟩) (Kd.R_far (p := ⟨gb317, 2, none⟩) (Kd.R_far (p := ⟨gb317, 1, none⟩) (Kd.R_far (p := ⟨gb317, 0, none⟩) (Kd.R_far (p := ⟨gb325, 3, none⟩) (Kd.R_far (p := ⟨gb325, 2, none⟩) (Kd.R_far (p := ⟨gb325, 1, none⟩) (Kd.R_far (p := ⟨gb325, 0, none⟩) (Kd.R_types (Kd.R_types HO324.out BK325.out (by decide)) BK317.out (by decide)) (fun _ hk => hk.1.2) (.int .i64 t319)) (fun _ hk => hk.1.2) (.int .i64 t320)) (fun _ hk => hk.1.2) (.float .f64 t321)) (fun _ hk => hk.1.2) (.slice Ao31 t322.length co31)) (fun _ hk => hk.2) (.int .i64 t319)) (fun _ hk => hk.2) (.int .i64 t320)) (fun _ hk => hk.2) (.float .f64 t321)) (fun _ hk => hk.2) (.slice Ao31 t322.length co31)) (fun _ hk => trivial)), hset HB.out⟩
 ·replace c3 := Bool.eq_false_iff.mpr c3
  subst c3
  rw [if_neg (show ¬ (false = true) by decide)] at H
  (try dsimp only at H)
  simp only [Option.some.injEq, Prod.mk.injEq] at H
  obtain ⟨rfl, rfl, rfl, rfl⟩ := H
  go_enter Try.func21, Try.ntmps21
  go_wp2_with (first | ((with_reducible refine gate_dst (N := 1) rfl ?_); refine box_event ?hg (N := 1) ?hd (cs := #[.int .i64 a0_0, .int .i64 a0_1, .float .f64 a0_2, .slice A0_3 l0_3.length c0_3]) (t := 25) ?hr ?_; (case hd => rfl); (case hg => rfl); (case hr => first | (go_simp; done) | (go_simp; rfl)); intro gb316 hg w34 hbox hb; have n0_ := Aside0.mk (below_step (hup HB.out) hb); have n1_ := Aside0.mk (hbox); have n2_ := Geq.mk ((by rw [hg]; exact (below_size (hup HB.out)) : w.heap.size ≤ gb316)); have n3_ := Geq.mk ((by rw [hg]; exact (below_size (hup HB.out)) : w.heap.size ≤ gb316)); clear HB; have HB := n0_; have BK316 := n1_; have GW316 := n2_; have GE316 := n3_; clear n0_ n1_ n2_ n3_; clear hb hbox hg) | ((with_reducible refine gate_dst (N := 2) rfl ?_); refine box_event ?hg (N := 2) ?hd (cs := #[.int .i64 0, .int .i64 0, .float .f64 0, .slice none 0 0]) (t := 25) ?hr ?_; (case hd => rfl); (case hg => rfl); (case hr => first | (go_simp; done) | (go_simp; rfl)); intro gb317 hg w35 hbox hb; have n0_ := Aside0.mk (blk_below (bup BK316.out) hb); have n1_ := Aside0.mk (below_step (hset HB.out) hb); have n2_ := Aside0.mk (hbox); have n3_ := Geq.mk ((by rw [hg]; exact (below_size (hset HB.out)) : w.heap.size ≤ gb317)); have n4_ := Geq.mk ((by rw [hg]; exact (below_size (hset HB.out)) : w.heap.size ≤ gb317)); have n5_ := Neq.mk ((by rw [hg]; exact Nat.ne_of_lt (blk_lt (g := gb316) (o := .cells #[.int .i64 a0_0, .int .i64 a0_1, .float .f64 a0_2, .slice A0_3 l0_3.length c0_3] 25 (0, 0)) (bup BK316.out)) : gb316 ≠ gb317)); have n6_ := Neq.mk ((by rw [hg]; exact Nat.ne_of_gt (blk_lt (g := gb316) (o := .cells #[.int .i64 a0_0, .int .i64 a0_1, .float .f64 a0_2, .slice A0_3 l0_3.length c0_3] 25 (0, 0)) (bup BK316.out)) : gb317 ≠ gb316)); clear BK316; clear HB; have BK316 := n0_; have HB := n1_; have BK317 := n2_; have GW317 := n3_; have GE317 := n4_; have NB316_317 := n5_; have NB317_316 := n6_; clear n0_ n1_ n2_ n3_ n4_ n5_ n6_; clear hb hbox hg; have hnb36 := NB316_317.out; have hnc36 := NB317_316.out; obtain ⟨hcz37_0, hcz37_1, hcz37_2, hcz37_3⟩ := blk_cells4 BK316.out; obtain ⟨hfz37_0, hfz37_1, hfz37_2, hfz37_3⟩ := blk_frozens4 BK316.out) | ((with_reducible refine gate_callee (f := 27) rfl ?_); refine goesL_ (some 5) rfl rfl Try.func27 (by kernel_rfl) rfl #[.agg #[.int .i64 a0_0, .int .i64 a0_1, .float .f64 a0_2, .slice A0_3 l0_3.length c0_3]] rfl (by (try simp only [List.map_toArray, List.map_cons, List.map_nil]); first | done | rfl) ?_; (with_reducible refine (spec_ItemOk.calls k a0_0 a0_1 a0_2 _ _ l0_3 false _ ?side1 ?side2 A2.out).mono ?_); (case side1 => repeat (first | exact (Kd.C_below HR0_3.out HB.out) | (with_reducible refine Kd.C_alloc ?_ _) | (with_reducible refine Kd.C_drewN ?_ _) | (with_reducible refine Kd.C_drew ?_))); (case side2 => exact HC0_3.out); rintro e w38 ⟨rfl, hb⟩; refine ⟨_, rfl, ?_⟩; have n0_ := Aside0.mk (blk_below (bup BK316.out) hb); have n1_ := Aside0.mk (blk_below (bup BK317.out) hb); have n2_ := Aside0.mk (below_step (hset HB.out) hb); clear BK316; clear BK317; clear HB; have BK316 := n0_; have BK317 := n1_; have HB := n2_; clear n0_ n1_ n2_; (try clear hb); (try clear hb2); (try clear hk); (try clear hi); obtain ⟨hcz39_0, hcz39_1, hcz39_2, hcz39_3⟩ := blk_cells4 BK317.out; obtain ⟨hfz39_0, hfz39_1, hfz39_2, hfz39_3⟩ := blk_frozens4 BK317.out))
  refine bodyPost_ret (results_cell_row rfl _ _ gb317 25 #[.int .i64 0, .int .i64 0, .float .f64 0, .slice none 0 0] (0, 0) _ rfl (bput BK317.out) Try.underlying25 rfl (by kernel_rfl)) rfl ?_
  exact ⟨_, by first | rfl | (simp [errW_none, errW_some] <;> rfl) | (simp [*, errW_none, errW_some] <;> rfl), by first | exact Kd.R_nil _ _ _ _ _ | exact Kd.N_nil _ _ _ _ _ | exact Kd.V_nil _ _ _ _ _ | exact Kd.Q_nil _ _ _ _ _ | exact Kd.S_nil _ _ _ _ _, hset HB.out⟩
theorem spec_ItemClean.pass (k : Nat) (a0_0 : Int) (a0_1 : Int) (a0_2 : Nat) (l0_3 : List Int) (r1 : Int) (r2 : Int) (r3 : Nat) (r4 : List Int) (hp : a0_2 < 2 ^ 64) (h : spec_ItemClean.f k a0_0 a0_1 (cn a0_2) l0_3 = some (r1, r2, r3, r4)) : ∃ b, spec_ItemClean.f k a0_0 a0_1 a0_2 l0_3 = some (r1, r2, b, r4) ∧ cn b = r3 ∧ b < 2 ^ 64 := by
  have z_ : cn 0 = 0 := cn_num (fun h => absurd h.2 (by decide))
  unfold spec_ItemClean.f at h ⊢
  obtain ⟨t, ht, h⟩ := Option.bind_eq_some_iff.mp h
  rw [spec_ItemOk.inv0] at ht
  rw [ht, Option.bind_some]
  by_cases c : t = true
  · rw [if_pos c] at h ⊢
    obtain ⟨⟨q1, q2, q3, q4⟩, hq, h⟩ := Option.bind_eq_some_iff.mp h
    obtain ⟨b, e1, e2, e3⟩ := spec_l3copy.pass a0_0 a0_1 a0_2 l0_3 q1 q2 q3 q4 hp hq
    rw [e1, Option.bind_some]
    rw [feq_cn_l] at h
    by_cases c2 : feq a0_2 0 = true
    · rw [if_pos c2] at h ⊢
      simp only [Option.some.injEq, Prod.mk.injEq] at h
      obtain ⟨rfl, rfl, rfl, rfl⟩ := h
      exact ⟨0, rfl, z_, by decide⟩
    · rw [if_neg c2] at h ⊢
      simp only [Option.some.injEq, Prod.mk.injEq] at h
      obtain ⟨rfl, rfl, rfl, rfl⟩ := h
      exact ⟨b, rfl, e2, e3⟩
  · rw [if_neg c] at h ⊢
    simp only [Option.some.injEq, Prod.mk.injEq] at h
    obtain ⟨rfl, rfl, rfl, rfl⟩ := h
    exact ⟨0, rfl, z_, by decide⟩
theorem spec_ItemClean.callsC (k : Nat) (a0_0 : Int) (a0_1 : Int) (a0_2 : Nat) (A0_3 : Option Addr) (c0_3 : Nat) (l0_3 : List Int) (r1 : Int) (r2 : Int) (r3 : Nat) (r4 : List Int) (w : World) (hr0_3 : Kd.C (Kd.int .u8) w A0_3 l0_3.length l0_3) (hc0_3 : l0_3.length ≤ c0_3) (hp : a0_2 < 2 ^ 64) (h : spec_ItemClean.f k a0_0 a0_1 (cn a0_2) l0_3 = some (r1, r2, r3, r4)) :
  Calls Try.prog 21 #[.agg #[.int .i64 a0_0, .int .i64 a0_1, .float .f64 a0_2, .slice A0_3 l0_3.length c0_3]] w fun e w' => ∃ b1_ : Nat, ∃ v3_ : Value, e = .returned (.agg #[.int .i64 r1, .int .i64 r2, .float .f64 b1_, v3_]) ∧ Kd.R (Kd.int .u8) 5 w' w.heap.size (fun _ => True) v3_ r4 ∧ Below w.heap.size w w' ∧ Aside0 (cn b1_ = r3 ∧ b1_ < 2 ^ 64) := by
  obtain ⟨b, hb1, hb2, hb3⟩ := spec_ItemClean.pass k a0_0 a0_1 a0_2 l0_3 r1 r2 r3 r4 hp h
  refine (spec_ItemClean.calls k a0_0 a0_1 a0_2 A0_3 c0_3 l0_3 r1 r2 b r4 w hr0_3 hc0_3 hb1).mono ?_
  rintro e w1 ⟨v3_, p0, p1, p2⟩
  exact ⟨b, v3_, p0, p1, p2, ⟨⟨hb2, hb3⟩⟩⟩
def spec_l1Once.f (s0_0 : List Int) (s0_1 : Int) (s0_2 : Int) (a1 : Int) : Option (Bool × Int × Int) := (spec_l1Below.f s0_0 s0_1 s0_2 a1).bind fun bt326 => (some ((bt326.1 == 0), bt326.2.1, bt326.2.2))
set_option maxHeartbeats 8000000 in
set_option maxRecDepth 100000 in
theorem spec_l1Once.calls (g : Nat) (s0_0 : List Int) (s0_1 : Int) (s0_2 : Int) (a1 : Int) (r1 : Bool) (r2 : Int) (r3 : Int) (w0 w : World) (hI : IsS83 w0 w g s0_0 s0_1 s0_2) (hB : Below w0.heap.size w0 w) (h : spec_l1Once.f s0_0 s0_1 s0_2 a1 = some (r1, r2, r3)) :
    Calls Try.prog 67 #[.pointer (some ⟨g, 0, none⟩), .int .i64 a1] w fun e w' => e = .returned (.bool r1) ∧ IsS83 w0 w' g s0_0 r2 r3 ∧ Below w0.heap.size w0 w' ∧ KeepBut w w' g none := by
  have HI0 := Aside0.mk hI
  have HK := Aside0.mk (KeepBut.refl w g none)
  have HL := Aside0.mk hB.size
  clear hI
  have HW0 := Aside0.mk hB.size
  have HB := Aside0.mk hB
  clear hB
  have H := h
  clear h
  unfold spec_l1Once.f at H
  replace H := Option.bind_eq_some_iff.mp H
  obtain ⟨⟨t326, t327, t328⟩, A30, H⟩ := H
  (try dsimp only at H)
  have A3 := Aside0.mk A30
  clear A30
  simp only [Option.some.injEq, Prod.mk.injEq] at H
  obtain ⟨rfl, rfl, rfl⟩ := H
  go_enter Try.func67, Try.ntmps67
  go_wp2_with (first | ((with_reducible refine gate_callee (f := 59) rfl ?_); refine goesL_ (some 7) rfl rfl Try.func59 (by kernel_rfl) rfl #[.pointer (some ⟨g, 0, none⟩), .int .i64 a1] rfl (by (try simp only [List.map_toArray, List.map_cons, List.map_nil]); first | done | rfl) ?_; (with_reducible refine (spec_l1Below.calls g s0_0 s0_1 s0_2 a1 t326 t327 t328 w0 _ ?side1 ?side2 A3.out).mono ?_); (case side1 => repeat (first | (with_reducible first | exact HI0.out | apply IsS83.alloc | apply IsS83.drewN | apply IsS83.drew | apply IsS83.set_1 | apply IsS83.set_2) | exact HI0.out)); (case side2 => repeat (first | (with_reducible first | exact HB.out | apply h1 | apply h2 | apply h3 | refine h4 ?_ (IsS83.ge HI0.out)) | exact HB.out)); rintro e w4 ⟨rfl, hi, hb, hk⟩; refine ⟨_, rfl, ?_⟩; have n0_ := Aside0.mk (KeepBut.trans (by repeat (first | (with_reducible first | exact HK.out | apply KeepBut.set_ | apply keep_drewN | apply keep_drew | apply keep_alloc) | exact HK.out)) hk (.inl rfl)); have n1_ := Aside0.mk (hb); have n2_ := Aside0.mk (hi); clear HK; clear HB; clear HI0; have HK := n0_; have HB := n1_; have HI0 := n2_; clear n0_ n1_ n2_; (try clear hb); (try clear hb2); (try clear hk); (try clear hi)))
  go_ret
  exact ⟨by first | rfl | (simp [errW_none, errW_some] <;> rfl) | (simp [*, errW_none, errW_some] <;> rfl), by repeat (first | (with_reducible first | exact HI0.out | apply IsS83.alloc | apply IsS83.drewN | apply IsS83.drew | apply IsS83.set_1 | apply IsS83.set_2) | exact HI0.out), by repeat (first | (with_reducible first | exact HB.out | apply h1 | apply h2 | apply h3 | refine h4 ?_ (IsS83.ge HI0.out)) | exact HB.out), by repeat (first | (with_reducible first | exact HK.out | apply KeepBut.set_ | apply keep_drewN | apply keep_drew | apply keep_alloc) | exact HK.out)⟩
end Go.Proofs.Ytjjkhlphdbmdfaa.PFnTuples
