import Derived.Test.YtokpniagnbaflaaZFnPlaces29
import Derived.Test.YtokpniagnbaflaaZFnPlacesA
import Derived.Test.YtokpniagnbaflaaZFnPlaces32
import Derived.Test.YtokpniagnbaflaaZFnPlaces34
import Derived.Test.YtokpniagnbaflaaZFnPlaces35
import Derived.Test.YtokpniagnbaflaaZFnPlaces38
namespace Go.Proofs.Ytokpniagnbaflaa.PFnPlaces
open Go.RowKit Go.Proofs.YtokpniagnbaflaaW.PrintWords Go.Proofs.YtokpniagnbaflaaW.PrintLast Go.Proofs.YtokpniagnbaflaaW.PrintMore
attribute [local go_sem] max2_int min2_int max_two min_two max_three min_three max_four min_four   -- for this text's walks alone
attribute [local go_sem high] fl_eql fl_neq fl_lss fl_leq fl_gtr fl_geq fl_add fl_sub fl_mul fl_quo fl_neg fl_ofInt fl_toInt fl_store sub_sign fl_nan_quo fl_nan_add fl_nan_mul fl_nan_sub
open Go.Proofs.YtokpniagnbaflaaW.PrintWords renaming below_alloc → h1, pw_below_drewN → h2, below_drew1 → h3, below_set → h4, blk_drewN → b1, blk_drew → b2, blk_alloc → b3
set_option linter.unusedVariables false
set_option linter.unusedSimpArgs false
mutual
def spec_FloatOf.j0 : Nat → Int → Nat → Int → Option (Nat)
  | 0, _, _, _ => none
  | k + 1, x0, x6, x7 => spec_FloatOf.l0 k x0 x6 x7
def spec_FloatOf.l0 : Nat → Int → Nat → Int → Option (Nat)
  | 0, _, _, _ => none
  | k + 1, x0, x6, x7 => if x7 > 0 then (if (fok .mul x6 4611686018427387904) = true then (spec_FloatOf.l0 k x0 (fval .mul x6 4611686018427387904) (wrap64 (x7 - 1))) else (none)) else (spec_FloatOf.l1 k x0 x6 x7)
def spec_FloatOf.l1 : Nat → Int → Nat → Int → Option (Nat)
  | 0, _, _, _ => none
  | k + 1, x0, x6, x7 => if x7 < 0 then (if (fok .quo x6 4611686018427387904) = true then (spec_FloatOf.l1 k x0 (fval .quo x6 4611686018427387904) (wrap64 (x7 + 1))) else (none)) else (if (x0 / 9223372036854775808) = 1 then (some (fneg x6)) else (some x6))
end
def spec_FloatOf.f (k : Nat) (a0 : Int) : Option (Nat) := if (fok .quo (fofi (Go.bits .and .u64 a0 4503599627370495)) 4841369599423283200) = true then (if (wrap64 (Go.bits .and .u64 (a0 / 4503599627370496) 2047)) = 2047 then (if (Go.bits .and .u64 a0 4503599627370495) = 0 then (if (fok .quo 4607182418800017408 0) = true then (if (a0 / 9223372036854775808) = 1 then (some (fneg (fval .quo 4607182418800017408 0))) else (some (fval .quo 4607182418800017408 0))) else (none)) else (if (fok .quo 0 0) = true then (some (fval .quo 0 0)) else (none))) else (if (wrap64 (Go.bits .and .u64 (a0 / 4503599627370496) 2047)) = 0 then (spec_FloatOf.j0 k a0 (fval .quo (fofi (Go.bits .and .u64 a0 4503599627370495)) 4841369599423283200) (-1022)) else (if (fok .add (fval .quo (fofi (Go.bits .and .u64 a0 4503599627370495)) 4841369599423283200) 4607182418800017408) = true then (spec_FloatOf.j0 k a0 (fval .add (fval .quo (fofi (Go.bits .and .u64 a0 4503599627370495)) 4841369599423283200) 4607182418800017408) (wrap64 ((wrap64 (Go.bits .and .u64 (a0 / 4503599627370496) 2047)) - 1023))) else (none)))) else (none)
theorem spec_FloatOf.mono_l : ∀ k, (∀ y0 y1 y2, LeO (spec_FloatOf.j0 k y0 y1 y2) (spec_FloatOf.j0 (k + 1) y0 y1 y2)) ∧ (∀ y0 y1 y2, LeO (spec_FloatOf.l0 k y0 y1 y2) (spec_FloatOf.l0 (k + 1) y0 y1 y2)) ∧ (∀ y0 y1 y2, LeO (spec_FloatOf.l1 k y0 y1 y2) (spec_FloatOf.l1 (k + 1) y0 y1 y2))
  | 0 => ⟨fun _ _ _ r h => by simp [spec_FloatOf.j0] at h, fun _ _ _ r h => by simp [spec_FloatOf.l0] at h, fun _ _ _ r h => by simp [spec_FloatOf.l1] at h⟩
  | k + 1 => by
    obtain ⟨ih0, ih1, ih2⟩ := spec_FloatOf.mono_l k
    refine ⟨?_, ?_, ?_⟩
    · intro y0 y1 y2
      unfold spec_FloatOf.j0
      repeat' with_reducible first | exact ih0 _ _ _ | exact ih1 _ _ _ | exact ih2 _ _ _ | exact LeO.refl _ | exact LeO.none _ | refine LeO.ite ?_ ?_ | refine LeO.bind ?_ (fun _ => ?_)
    · intro y0 y1 y2
      unfold spec_FloatOf.l0
      repeat' with_reducible first | exact ih0 _ _ _ | exact ih1 _ _ _ | exact ih2 _ _ _ | exact LeO.refl _ | exact LeO.none _ | refine LeO.ite ?_ ?_ | refine LeO.bind ?_ (fun _ => ?_)
    · intro y0 y1 y2
      unfold spec_FloatOf.l1
      repeat' with_reducible first | exact ih0 _ _ _ | exact ih1 _ _ _ | exact ih2 _ _ _ | exact LeO.refl _ | exact LeO.none _ | refine LeO.ite ?_ ?_ | refine LeO.bind ?_ (fun _ => ?_)
theorem spec_FloatOf.mono : ∀ a0 k, LeO (spec_FloatOf.f k a0) (spec_FloatOf.f (k + 1) a0) := by
  intro a0 k
  obtain ⟨ih0, ih1, ih2⟩ := spec_FloatOf.mono_l k
  unfold spec_FloatOf.f
  repeat' with_reducible first | exact ih0 _ _ _ | exact ih1 _ _ _ | exact ih2 _ _ _ | exact LeO.refl _ | exact LeO.none _ | refine LeO.ite ?_ ?_ | refine LeO.bind ?_ (fun _ => ?_)
set_option maxHeartbeats 8000000 in
set_option maxRecDepth 100000 in
theorem spec_FloatOf.calls (k : Nat) (a0 : Int) (r : Nat) (w : World) (h : spec_FloatOf.f k a0 = some r) :
    Calls Try.prog 84 #[.int .u64 a0] w fun e w' => e = .returned (.float .f64 r) ∧ Drawn0 w w' := by
  have H := h
  clear h
  unfold spec_FloatOf.f at H
  by_cases c2 : (fok .quo (fofi (Go.bits .and .u64 a0 4503599627370495)) 4841369599423283200) = true
  · rw [if_pos c2] at H
    have c2b0 : (fok .quo (fofi (Go.bits .and .u64 a0 4503599627370495)) 4841369599423283200) = true := c2
    clear c2
    by_cases c3 : (wrap64 (Go.bits .and .u64 (a0 / 4503599627370496) 2047)) = 2047
    · rw [if_pos c3] at H
      have c3b0 : ((wrap64 (Go.bits .and .u64 (a0 / 4503599627370496) 2047)) == 2047) = true := beq_iff_eq.mpr c3
      have c3b1 : ((wrap64 (Go.bits .and .u64 (a0 / 4503599627370496) 2047)) != 2047) = false := bne_eq_false_iff_eq.mpr c3
      clear c3
      by_cases c4 : (Go.bits .and .u64 a0 4503599627370495) = 0
      · rw [if_pos c4] at H
        have c4b0 : ((Go.bits .and .u64 a0 4503599627370495) == 0) = true := beq_iff_eq.mpr c4
        have c4b1 : ((Go.bits .and .u64 a0 4503599627370495) != 0) = false := bne_eq_false_iff_eq.mpr c4
        clear c4
        by_cases c5 : (fok .quo 4607182418800017408 0) = true
        · rw [if_pos c5] at H
          have c5b0 : (fok .quo 4607182418800017408 0) = true := c5
          clear c5
          by_cases c6 : (a0 / 9223372036854775808) = 1
          · rw [if_pos c6] at H
            have c6b0 : ((a0 / 9223372036854775808) == 1) = true := beq_iff_eq.mpr c6
            have c6b1 : ((a0 / 9223372036854775808) != 1) = false := bne_eq_false_iff_eq.mpr c6
            clear c6
            obtain rfl := Option.some.inj H
            go_enter Try.func84, Try.ntmps84
            go_wp2
            go_ret
            exact ⟨by first | rfl | (simp; done) | (simp [*]; done), Z24⟩
          · rw [if_neg c6] at H
            have c6b0 : ((a0 / 9223372036854775808) == 1) = false := beq_eq_false_iff_ne.mpr c6
            have c6b1 : ((a0 / 9223372036854775808) != 1) = true := bne_iff_ne.mpr c6
            obtain rfl := Option.some.inj H
            go_enter Try.func84, Try.ntmps84
            go_wp2
            go_ret
            exact ⟨by first | rfl | (simp; done) | (simp [*]; done), Z24⟩
        · rw [if_neg c5] at H
          exact absurd H Z44
      · rw [if_neg c4] at H
        have c4b0 : ((Go.bits .and .u64 a0 4503599627370495) == 0) = false := beq_eq_false_iff_ne.mpr c4
        have c4b1 : ((Go.bits .and .u64 a0 4503599627370495) != 0) = true := bne_iff_ne.mpr c4
        by_cases c7 : (fok .quo 0 0) = true
        · rw [if_pos c7] at H
          have c7b0 : (fok .quo 0 0) = true := c7
          clear c7
          obtain rfl := Option.some.inj H
          go_enter Try.func84, Try.ntmps84
          go_wp2
          go_ret
          exact ⟨by first | rfl | (simp; done) | (simp [*]; done), Z24⟩
        · rw [if_neg c7] at H
          exact absurd H Z44
    · rw [if_neg c3] at H
      have c3b0 : ((wrap64 (Go.bits .and .u64 (a0 / 4503599627370496) 2047)) == 2047) = false := beq_eq_false_iff_ne.mpr c3
      have c3b1 : ((wrap64 (Go.bits .and .u64 (a0 / 4503599627370496) 2047)) != 2047) = true := bne_iff_ne.mpr c3
      have HC8 := ZA H
      clear H
      go_enter Try.func84, Try.ntmps84
      go_upto_if 29 with (fail)
      go_cut [6, 7] (fun v6 v7 wc => ∃ (kq : Nat) (x6_7 : Nat) (x7_7 : Int), v6 = .float .f64 x6_7 ∧ v7 = .int .i64 x7_7 ∧ Aside0 (spec_FloatOf.j0 kq a0 x6_7 x7_7 = some r) ∧ Aside0 (kq ≤ k) ∧ Drawn0 w wc)
      case first =>
        have H := HC8.out
        clear HC8
        by_cases c9 : (wrap64 (Go.bits .and .u64 (a0 / 4503599627370496) 2047)) = 0
        · rw [if_pos c9] at H
          have c9b0 : ((wrap64 (Go.bits .and .u64 (a0 / 4503599627370496) 2047)) == 0) = true := beq_iff_eq.mpr c9
          have c9b1 : ((wrap64 (Go.bits .and .u64 (a0 / 4503599627370496) 2047)) != 0) = false := bne_eq_false_iff_eq.mpr c9
          clear c9
          (first | rw [c9b0] | (simp only [i64_w, i32_w]; rw [c9b0]) | skip)
          have H' := ZA H
          clear H
          go_wp2
          go_meet
          case rel => exact ⟨_, (fval .quo (fofi (Go.bits .and .u64 a0 4503599627370495)) 4841369599423283200), ((-1022)), Z7, Z7, H', ⟨by first | omega | exact Nat.le_refl _⟩, Z24⟩
        · rw [if_neg c9] at H
          have c9b0 : ((wrap64 (Go.bits .and .u64 (a0 / 4503599627370496) 2047)) == 0) = false := beq_eq_false_iff_ne.mpr c9
          have c9b1 : ((wrap64 (Go.bits .and .u64 (a0 / 4503599627370496) 2047)) != 0) = true := bne_iff_ne.mpr c9
          (first | rw [c9b0] | (simp only [i64_w, i32_w]; rw [c9b0]) | skip)
          by_cases c10 : (fok .add (fval .quo (fofi (Go.bits .and .u64 a0 4503599627370495)) 4841369599423283200) 4607182418800017408) = true
          · rw [if_pos c10] at H
            have c10b0 : (fok .add (fval .quo (fofi (Go.bits .and .u64 a0 4503599627370495)) 4841369599423283200) 4607182418800017408) = true := c10
            clear c10
            have H' := ZA H
            clear H
            go_wp2
            go_meet
            case rel => exact ⟨_, (fval .add (fval .quo (fofi (Go.bits .and .u64 a0 4503599627370495)) 4841369599423283200) 4607182418800017408), (wrap64 ((wrap64 (Go.bits .and .u64 (a0 / 4503599627370496) 2047)) - 1023)), Z7, Z7, H', ⟨by first | omega | exact Nat.le_refl _⟩, Z24⟩
          · rw [if_neg c10] at H
            exact absurd H Z44
      case rest =>
        clear HC8
        try clear c1
        try clear c2
        try clear c2b0
        try clear p2
        try clear c3
        try clear c3b0
        try clear c3b1
        try clear c4
        try clear c4b0
        try clear c4b1
        try clear c5
        try clear c5b0
        try clear c6
        try clear c6b0
        try clear c6b1
        try clear p6
        try clear c7
        try clear c7b0
        try clear c8
        try clear c9
        try clear c9b0
        try clear c9b1
        try clear c10
        try clear c10b0
        obtain ⟨kq, x6_7, x7_7, rfl, rfl, HA, HJ7, ⟨mc7, rfl⟩⟩ := hcut
        cases kq with
        | zero => exact absurd HA.out (by simp [spec_FloatOf.j0])
        | succ kj7 =>
          have H := HA.out
          clear HA
          simp only [spec_FloatOf.j0] at H
          have H' := ZA H
          clear H
          go_wp2
          go_loopg [6, 7] kj7 (fun kq v6 v7 w' => ∃ (x6_2 : Nat) (x7_2 : Int), v6 = .float .f64 x6_2 ∧ v7 = .int .i64 x7_2 ∧ Aside0 (spec_FloatOf.l0 kq a0 x6_2 x7_2 = some r) ∧ Aside0 (kq ≤ kj7) ∧ Drawn0 w w')
          case atStart => exact ⟨(x6_7), (x7_7), Z7, Z7, H', ⟨Nat.le_refl _⟩, Z24⟩
          case round =>
            clear H'
            try clear c1
            try clear c2
            try clear c2b0
            try clear p2
            try clear c3
            try clear c3b0
            try clear c3b1
            try clear c4
            try clear c4b0
            try clear c4b1
            try clear c5
            try clear c5b0
            try clear c6
            try clear c6b0
            try clear c6b1
            try clear p6
            try clear c7
            try clear c7b0
            try clear c8
            try clear c9
            try clear c9b0
            try clear c9b1
            try clear c10
            try clear c10b0
            try clear p2
            try clear p6
            obtain ⟨x6_2, x7_2, rfl, rfl, HA, HK2, ⟨m2, rfl⟩⟩ := hrel
            cases gk with
            | zero => exact absurd HA.out (by simp [spec_FloatOf.l0])
            | succ k2 =>
              have H := HA.out
              clear HA
              simp only [spec_FloatOf.l0] at H
              by_cases c11 : x7_2 > 0
              · rw [if_pos c11] at H
                have c11b0 : decide (0 < x7_2) = true := decide_eq_true c11
                clear c11
                by_cases c12 : (fok .mul x6_2 4611686018427387904) = true
                · rw [if_pos c12] at H
                  have c12b0 : (fok .mul x6_2 4611686018427387904) = true := c12
                  clear c12
                  have H' := ZA H
                  clear H
                  go_wp2
                  go_roundg k2
                  case measure => have := HJ7.out; have := HK2.out; omega
                  case rel => exact ⟨(fval .mul x6_2 4611686018427387904), (wrap64 (x7_2 - 1)), Z7, Z7, H', ⟨by have := HJ7.out; have := HK2.out; omega⟩, Z24⟩
                · rw [if_neg c12] at H
                  exact absurd H Z44
              · rw [if_neg c11] at H
                have c11b0 : decide (0 < x7_2) = false := decide_eq_false c11
                clear c11
                have H' := ZA H
                clear H
                go_wp2
                go_loopg [6, 7] k2 (fun kq v6 v7 w' => ∃ (x6_3 : Nat) (x7_3 : Int), v6 = .float .f64 x6_3 ∧ v7 = .int .i64 x7_3 ∧ Aside0 (spec_FloatOf.l1 kq a0 x6_3 x7_3 = some r) ∧ Aside0 (kq ≤ k2) ∧ Drawn0 w w')
                case atStart => exact ⟨(x6_2), (x7_2), Z7, Z7, H', ⟨Nat.le_refl _⟩, Z24⟩
                case round =>
                  clear H'
                  try clear c1
                  try clear c2
                  try clear c2b0
                  try clear p2
                  try clear c3
                  try clear c3b0
                  try clear c3b1
                  try clear c4
                  try clear c4b0
                  try clear c4b1
                  try clear c5
                  try clear c5b0
                  try clear c6
                  try clear c6b0
                  try clear c6b1
                  try clear p6
                  try clear c7
                  try clear c7b0
                  try clear c8
                  try clear c9
                  try clear c9b0
                  try clear c9b1
                  try clear c10
                  try clear c10b0
                  try clear c11
                  try clear c11b0
                  try clear c12
                  try clear c12b0
                  try clear p2
                  try clear p6
                  obtain ⟨x6_3, x7_3, rfl, rfl, HA, HK3, ⟨m3, rfl⟩⟩ := hrel
                  cases gk with
                  | zero => exact absurd HA.out (by simp [spec_FloatOf.l1])
                  | succ k3 =>
                    have H := HA.out
                    clear HA
                    simp only [spec_FloatOf.l1] at H
                    by_cases c13 : x7_3 < 0
                    · rw [if_pos c13] at H
                      have c13b0 : decide (x7_3 < 0) = true := decide_eq_true c13
                      clear c13
                      by_cases c14 : (fok .quo x6_3 4611686018427387904) = true
                      · rw [if_pos c14] at H
                        have c14b0 : (fok .quo x6_3 4611686018427387904) = true := c14
                        clear c14
                        have H' := ZA H
                        clear H
                        go_wp2
                        go_roundg k3
                        case measure => have := HJ7.out; have := HK2.out; have := HK3.out; omega
                        case rel => exact ⟨(fval .quo x6_3 4611686018427387904), (wrap64 (x7_3 + 1)), Z7, Z7, H', ⟨by have := HJ7.out; have := HK2.out; have := HK3.out; omega⟩, Z24⟩
                      · rw [if_neg c14] at H
                        exact absurd H Z44
                    · rw [if_neg c13] at H
                      have c13b0 : decide (x7_3 < 0) = false := decide_eq_false c13
                      clear c13
                      by_cases c15 : (a0 / 9223372036854775808) = 1
                      · rw [if_pos c15] at H
                        have c15b0 : ((a0 / 9223372036854775808) == 1) = true := beq_iff_eq.mpr c15
                        have c15b1 : ((a0 / 9223372036854775808) != 1) = false := bne_eq_false_iff_eq.mpr c15
                        clear c15
                        obtain rfl := Option.some.inj H
                        go_wp2
                        go_ret
                        exact ⟨by first | rfl | (simp; done) | (simp [*]; done), Z24⟩
                      · rw [if_neg c15] at H
                        have c15b0 : ((a0 / 9223372036854775808) == 1) = false := beq_eq_false_iff_ne.mpr c15
                        have c15b1 : ((a0 / 9223372036854775808) != 1) = true := bne_iff_ne.mpr c15
                        obtain rfl := Option.some.inj H
                        go_wp2
                        go_ret
                        exact ⟨by first | rfl | (simp; done) | (simp [*]; done), Z24⟩
  · rw [if_neg c2] at H
    exact absurd H Z44
def spec_FloatOf.nanC (a0 : Int) : Prop := (fok .quo (fofi (Go.bits .and .u64 a0 4503599627370495)) 4841369599423283200) = true ∧ (wrap64 (Go.bits .and .u64 (a0 / 4503599627370496) 2047)) = 2047 ∧ ¬ (Go.bits .and .u64 a0 4503599627370495) = 0 ∧ fok .quo 0 0 = false
def spec_FloatOf.Q (k : Nat) (a0 : Int) : Prop := (∃ r, spec_FloatOf.f k a0 = some r) ∨ spec_FloatOf.nanC a0
def spec_FloatOf.R (k : Nat) (a0 : Int) (r : Nat) : Prop := spec_FloatOf.f k a0 = some r ∨ (spec_FloatOf.nanC a0 ∧ nanR r)
set_option maxHeartbeats 8000000 in
set_option maxRecDepth 100000 in
theorem spec_FloatOf.calls0 (a0 : Int) (w : World) (h : spec_FloatOf.nanC a0) :
    Calls Try.prog 84 #[.int .u64 a0] w fun e w' => ∃ r_ : Nat, e = .returned (.float .f64 r_) ∧ nanR r_ ∧ Drawn0 w w' := by
  obtain ⟨c2b0, c3, c4, c7⟩ := h
  have c3b0 : ((wrap64 (Go.bits .and .u64 (a0 / 4503599627370496) 2047)) == 2047) = true := beq_iff_eq.mpr c3
  have c3b1 : ((wrap64 (Go.bits .and .u64 (a0 / 4503599627370496) 2047)) != 2047) = false := bne_eq_false_iff_eq.mpr c3
  clear c3
  have c4b0 : ((Go.bits .and .u64 a0 4503599627370495) == 0) = false := beq_eq_false_iff_ne.mpr c4
  have c4b1 : ((Go.bits .and .u64 a0 4503599627370495) != 0) = true := bne_iff_ne.mpr c4
  clear c4
  go_enter Try.func84, Try.ntmps84
  go_wp2
  go_ret
  exact ⟨_, rfl, nanR_of _ _ _, Z24⟩
instance (a0 : Int) : Decidable (spec_FloatOf.nanC a0) := inferInstanceAs (Decidable (_ ∧ _ ∧ _ ∧ _))
def spec_FloatOf.c (k : Nat) (a0 : Int) : Option (Nat) := if spec_FloatOf.nanC a0 then some 9221120237041090560 else (spec_FloatOf.f k a0).bind fun t => if ¬ nanw t ∧ t < 2 ^ 64 then some t else none
theorem spec_FloatOf.monoC : ∀ a0 k, LeO (spec_FloatOf.c k a0) (spec_FloatOf.c (k + 1) a0) := by
  intro a0 k
  unfold spec_FloatOf.c
  exact LeO.ite (LeO.refl _) (LeO.bind (spec_FloatOf.mono _ _) (fun _ => LeO.refl _))
theorem spec_FloatOf.callsC (k : Nat) (a0 : Int) (r : Nat) (w : World) (h : spec_FloatOf.c k a0 = some r) :
    Calls Try.prog 84 #[.int .u64 a0] w fun e w' => ∃ b1_ : Nat, e = .returned (.float .f64 b1_) ∧ Drawn0 w w' ∧ Aside0 (cn b1_ = r ∧ b1_ < 2 ^ 64) := by
  unfold spec_FloatOf.c at h
  split at h
  · rename_i hn
    cases h
    exact (spec_FloatOf.calls0 a0 w hn).mono (fun e w' ⟨b, e1, n, d⟩ => ⟨b, e1, d, ⟨cn_nan (nanR_nanw b n), (nanR_nanw b n).1⟩⟩)
  · obtain ⟨t, ht, h⟩ := Option.bind_eq_some_iff.mp h
    split at h
    · rename_i hq
      cases h
      exact (spec_FloatOf.calls k a0 r w ht).mono (fun e w' ⟨e1, d⟩ => ⟨r, e1, d, ⟨cn_num hq.1, hq.2⟩⟩)
    · cases h
def spec_l2bits.l0 : Nat → Int → Int → List Int → Int → Int → Option (Int × Int × Int)
 | 0, _, _, _, _, _ => none
 | k + 1, x3, x4, x1000, x1001, x1002 => if x4 < 8 then ((spec_l1Byte.f x1000 x1001 x1002).bind fun bt328 => (spec_l2bits.l0 k (IntKind.u64.wrap ((IntKind.u64.wrap (x3 * 256)) + (IntKind.u64.wrap (bt328.1)))) (wrap64 (x4 + 1)) x1000 bt328.2.1 bt328.2.2)) else ((spec_l1Below.f x1000 x1001 x1002 9).bind fun bt331 => (if bt331.1 = 0 then ((spec_l1Below.f x1000 bt331.2.1 bt331.2.2 2).bind fun bt334 => ((spec_l1Below.f x1000 bt334.2.1 bt334.2.2 3).bind fun bt337 => (some (Go.bits .or .u64 (IntKind.u64.wrap ((IntKind.u64.wrap (bt334.1)) * 9223372036854775808)) (IntKind.u64.wrap (bt337.1)), bt337.2.1, bt337.2.2)))) else (if bt331.1 = 1 then ((spec_l1Below.f x1000 bt331.2.1 bt331.2.2 2).bind fun bt340 => ((spec_l1Below.f x1000 bt340.2.1 bt340.2.2 3).bind fun bt343 => (some (Go.bits .or .u64 (IntKind.u64.wrap ((IntKind.u64.wrap (bt340.1)) * 9223372036854775808)) (IntKind.u64.wrap (9218868437227405311 + (IntKind.u64.wrap (bt343.1)))), bt343.2.1, bt343.2.2)))) else (if bt331.1 = 2 then ((spec_l1Below.f x1000 bt331.2.1 bt331.2.2 2).bind fun bt346 => (some (Go.bits .or .u64 (Go.bits .or .u64 (IntKind.u64.wrap ((IntKind.u64.wrap (bt346.1)) * 9223372036854775808)) 9218868437227405312) (x3 / 4096), bt346.2.1, bt346.2.2))) else (if bt331.1 = 3 then ((spec_l1Below.f x1000 bt331.2.1 bt331.2.2 2).bind fun bt349 => ((spec_l1Below.f x1000 bt349.2.1 bt349.2.2 3).bind fun bt352 => (some (Go.bits .or .u64 (IntKind.u64.wrap ((IntKind.u64.wrap (bt349.1)) * 9223372036854775808)) (IntKind.u64.wrap (4503599627370495 + (IntKind.u64.wrap (bt352.1)))), bt352.2.1, bt352.2.2)))) else (if bt331.1 = 4 then ((spec_l1Below.f x1000 bt331.2.1 bt331.2.2 12).bind fun bt355 => ((spec_l1Below.f x1000 bt355.2.1 bt355.2.2 16).bind fun bt358 => (some (Go.bits .or .u64 (IntKind.u64.wrap ((IntKind.u64.wrap (wrap64 (1023 + bt355.1))) * 4503599627370496)) (IntKind.u64.wrap ((IntKind.u64.wrap (bt358.1)) * 281474976710656)), bt358.2.1, bt358.2.2)))) else (if bt331.1 = 5 then ((spec_l1Below.f x1000 bt331.2.1 bt331.2.2 21).bind fun bt361 => ((spec_FloatBits.f k (fofi (wrap64 (bt361.1 - 10)))).bind fun t364 => (some (t364, bt361.2.1, bt361.2.2)))) else (some (x3, bt331.2.1, bt331.2.2)))))))))
def spec_l2bits.f (k : Nat) (s0_0 : List Int) (s0_1 : Int) (s0_2 : Int) : Option (Int × Int × Int) := spec_l2bits.l0 k 0 0 s0_0 s0_1 s0_2
theorem spec_l2bits.mono_l : ∀ k, (∀ y0 y1 y2 y3 y4, LeO (spec_l2bits.l0 k y0 y1 y2 y3 y4) (spec_l2bits.l0 (k + 1) y0 y1 y2 y3 y4))
 | 0 => fun _ _ _ _ _ r h => by simp [spec_l2bits.l0] at h
 | k + 1 => by
  have ih0 := spec_l2bits.mono_l k
  ·intro y0 y1 y2 y3 y4
   unfold spec_l2bits.l0
   repeat' with_reducible first | exact ih0 _ _ _ _ _ | exact spec_FloatBits.mono _ _ | exact LeO.refl _ | exact LeO.none _ | refine LeO.ite ?_ ?_ | refine LeO.bind ?_ (fun _ => ?_)
theorem spec_l2bits.mono : ∀ a0 a1 a2 k, LeO (spec_l2bits.f k a0 a1 a2) (spec_l2bits.f (k + 1) a0 a1 a2) := by
 intro a0 a1 a2 k
 have ih0 := spec_l2bits.mono_l k
 unfold spec_l2bits.f
 repeat' with_reducible first | exact ih0 _ _ _ _ _ | exact spec_FloatBits.mono _ _ | exact LeO.refl _ | exact LeO.none _ | refine LeO.ite ?_ ?_ | refine LeO.bind ?_ (fun _ => ?_)
set_option maxHeartbeats 8000000 in
set_option maxRecDepth 100000 in
theorem spec_l2bits.calls (k : Nat) (g : Nat) (s0_0 : List Int) (s0_1 : Int) (s0_2 : Int) (r1 : Int) (r2 : Int) (r3 : Int) (w0 w : World) (hI : IsS82 w0 w g s0_0 s0_1 s0_2) (hB : Below w0.heap.size w0 w) (h : spec_l2bits.f k s0_0 s0_1 s0_2 = some (r1, r2, r3)) :
  Calls Try.prog 85 #[.pointer (some ⟨g, 0, none⟩)] w fun e w' => e = .returned (.int .u64 r1) ∧ IsS82 w0 w' g s0_0 r2 r3 ∧ Below w0.heap.size w0 w' ∧ KeepBut w w' g none := by
 have HI0 := ZA hI
 have HK := ZA (KeepBut.refl w g none)
 have HL := ZA hB.size
 clear hI
 have HW0 := ZA hB.size
 have HB := ZA hB
 clear hB
 have H := h
 clear h
 unfold spec_l2bits.f at H
 have H' := ZA H
 clear H
 go_enter Try.func85, Try.ntmps85
 go_wp2
 go_loopg [3, 4] k (fun kq v3 v4 w' => ∃ (x3_1 : Int) (x4_1 : Int) (x1001_1 : Int) (x1002_1 : Int), v3 = .int .u64 x3_1 ∧ v4 = .int .i64 x4_1 ∧ Aside0 (spec_l2bits.l0 kq x3_1 x4_1 s0_0 x1001_1 x1002_1 = some (r1, r2, r3)) ∧ Aside0 (kq ≤ k) ∧ Aside0 (IsS82 w0 w' g s0_0 x1001_1 x1002_1) ∧ Aside0 (KeepBut w w' g none) ∧ Aside0 (Below w0.heap.size w0 w'))
 case atStart => exact ⟨(0), (0), (s0_1), (s0_2), Z7, Z7, H', ⟨Nat.le_refl _⟩, ⟨Z4⟩, ⟨Z13⟩, ⟨Z15⟩⟩
 case round =>
  clear H'
  obtain ⟨x3_1, x4_1, x1001_1, x1002_1, rfl, rfl, HA, HK1, HI0, HK, HB⟩ := hrel
  cases gk with
  | zero => exact absurd HA.out (by simp [spec_l2bits.l0])
  | succ k1 =>
   have H := HA.out
   clear HA
   simp only [spec_l2bits.l0] at H
   by_cases c2 : x4_1 < 8
   ·rw [if_pos c2] at H
    have c2b0 : decide (x4_1 < 8) = true := decide_eq_true c2
    clear c2
    replace H := Option.bind_eq_some_iff.mp H
    obtain ⟨⟨t328, t329, t330⟩, A30, H⟩ := H
    (try dsimp only at H)
    have A3 := ZA A30
    clear A30
    have H' := ZA H
    clear H
    go_wp2_with (first | ((with_reducible refine gate_callee (f := 73) rfl ?_); refine goesL_ (some 12) rfl rfl Try.func73 Z12 rfl #[.pointer (some ⟨g, 0, none⟩)] rfl Z1 ?_; (with_reducible refine (spec_l1Byte.calls g s0_0 x1001_1 x1002_1 t328 t329 t330 w0 _ ?side1 ?side2 A3.out).mono ?_); (case side1 => repeat (first | (with_reducible first | exact HI0.out | apply IsS82.alloc | apply IsS82.drewN | apply IsS82.drew | apply IsS82.set_1 | apply IsS82.set_2) | exact HI0.out)); (case side2 => repeat (first | (with_reducible first | exact HB.out | apply h1 | apply h2 | apply h3 | refine h4 ?_ (IsS82.ge HI0.out)) | exact HB.out)); rintro e w4 ⟨rfl, hi, hb, hk⟩; refine ⟨_, rfl, ?_⟩; have n0_ := ZA (KeepBut.trans Z3 hk (.inl rfl)); have n1_ := ZA (hb); have n2_ := ZA (hi); clear HK HB HI0; have HK := n0_; have HB := n1_; have HI0 := n2_; clear n0_ n1_ n2_; (try clear hb); (try clear hb2); (try clear hk); (try clear hi)))
    go_roundg k1
    case measure => have := HK1.out; omega
    case rel => exact ⟨(IntKind.u64.wrap ((IntKind.u64.wrap (x3_1 * 256)) + (IntKind.u64.wrap (t328)))), (wrap64 (x4_1 + 1)), (t329), (t330), Z7, Z7, H', ⟨by have := HK1.out; omega⟩, ⟨Z4⟩, ⟨Z13⟩, ⟨Z15⟩⟩
   ·rw [if_neg c2] at H
    have c2b0 : decide (x4_1 < 8) = false := decide_eq_false c2
    clear c2
    replace H := Option.bind_eq_some_iff.mp H
    obtain ⟨⟨t331, t332, t333⟩, A50, H⟩ := H
    (try dsimp only at H)
    have A5 := ZA A50
    clear A50
    repeat (first | ((fail_if_success (with_reducible refine gate_callee (f := 63) rfl ?_)); first | go_values | go_skip | go_guarded | go_step | go_upon | go_back | (simp only [Int.not_lt, Int.not_le] at *; go_simp)))
    (with_reducible refine gate_callee (f := 63) rfl ?_); refine goesL_ (some 16) rfl rfl Try.func63 Z12 rfl #[.pointer (some ⟨g, 0, none⟩), .int .i64 9] rfl Z1 ?_; (with_reducible refine (spec_l1Below.calls g s0_0 x1001_1 x1002_1 9 t331 t332 t333 w0 _ ?side1 ?side2 A5.out).mono ?_); (case side1 => repeat (first | (with_reducible first | exact HI0.out | apply IsS82.alloc | apply IsS82.drewN | apply IsS82.drew | apply IsS82.set_1 | apply IsS82.set_2) | exact HI0.out)); (case side2 => repeat (first | (with_reducible first | exact HB.out | apply h1 | apply h2 | apply h3 | refine h4 ?_ (IsS82.ge HI0.out)) | exact HB.out)); rintro e w9 ⟨rfl, hi, hb, hk⟩; refine ⟨_, rfl, ?_⟩; have n0_ := ZA (KeepBut.trans Z3 hk (.inl rfl)); have n1_ := ZA (hb); have n2_ := ZA (hi); clear HK HB HI0; have HK := n0_; have HB := n1_; have HI0 := n2_; clear n0_ n1_ n2_; (try clear hb); (try clear hb2); (try clear hk); (try clear hi)
    by_cases c6 : t331 = 0
    ·rw [if_pos c6] at H
     have c6b0 : (t331 == 0) = true := beq_iff_eq.mpr c6
     have c6b1 : (t331 != 0) = false := bne_eq_false_iff_eq.mpr c6
     (try simp only [c6b0, c6b1, Bool.not_true, Bool.not_false])
     clear c6
     replace H := Option.bind_eq_some_iff.mp H
     obtain ⟨⟨t334, t335, t336⟩, A70, H⟩ := H
     (try dsimp only at H)
     have A7 := ZA A70
     clear A70
     replace H := Option.bind_eq_some_iff.mp H
     obtain ⟨⟨t337, t338, t339⟩, A80, H⟩ := H
     (try dsimp only at H)
     have A8 := ZA A80
     clear A80
     simp only [Option.some.injEq, Prod.mk.injEq] at H
     obtain ⟨rfl, rfl, rfl⟩ := H
     try go_wp2_with (first | ((with_reducible refine gate_callee (f := 63) rfl ?_); refine goesL_ (some 20) rfl rfl Try.func63 Z12 rfl #[.pointer (some ⟨g, 0, none⟩), .int .i64 2] rfl Z1 ?_; (with_reducible refine (spec_l1Below.calls g s0_0 t332 t333 2 t334 t335 t336 w0 _ ?side1 ?side2 A7.out).mono ?_); (case side1 => repeat (first | (with_reducible first | exact HI0.out | apply IsS82.alloc | apply IsS82.drewN | apply IsS82.drew | apply IsS82.set_1 | apply IsS82.set_2) | exact HI0.out)); (case side2 => repeat (first | (with_reducible first | exact HB.out | apply h1 | apply h2 | apply h3 | refine h4 ?_ (IsS82.ge HI0.out)) | exact HB.out)); rintro e w10 ⟨rfl, hi, hb, hk⟩; refine ⟨_, rfl, ?_⟩; have n0_ := ZA (KeepBut.trans Z3 hk (.inl rfl)); have n1_ := ZA (hb); have n2_ := ZA (hi); clear HK HB HI0; have HK := n0_; have HB := n1_; have HI0 := n2_; clear n0_ n1_ n2_; (try clear hb); (try clear hb2); (try clear hk); (try clear hi)) | ((with_reducible refine gate_callee (f := 63) rfl ?_); refine goesL_ (some 24) rfl rfl Try.func63 Z12 rfl #[.pointer (some ⟨g, 0, none⟩), .int .i64 3] rfl Z1 ?_; (with_reducible refine (spec_l1Below.calls g s0_0 t335 t336 3 t337 t338 t339 w0 _ ?side1 ?side2 A8.out).mono ?_); (case side1 => repeat (first | (with_reducible first | exact HI0.out | apply IsS82.alloc | apply IsS82.drewN | apply IsS82.drew | apply IsS82.set_1 | apply IsS82.set_2) | exact HI0.out)); (case side2 => repeat (first | (with_reducible first | exact HB.out | apply h1 | apply h2 | apply h3 | refine h4 ?_ (IsS82.ge HI0.out)) | exact HB.out)); rintro e w11 ⟨rfl, hi, hb, hk⟩; refine ⟨_, rfl, ?_⟩; have n0_ := ZA (KeepBut.trans Z3 hk (.inl rfl)); have n1_ := ZA (hb); have n2_ := ZA (hi); clear HK HB HI0; have HK := n0_; have HB := n1_; have HI0 := n2_; clear n0_ n1_ n2_; (try clear hb); (try clear hb2); (try clear hk); (try clear hi)))
     go_ret
     exact ⟨by first | rfl | (simp [errW_none, errW_some] <;> rfl) | (simp [*, errW_none, errW_some] <;> rfl), Z4, Z15, Z13⟩
    ·rw [if_neg c6] at H
     have c6b0 : (t331 == 0) = false := beq_eq_false_iff_ne.mpr c6
     have c6b1 : (t331 != 0) = true := bne_iff_ne.mpr c6
     (try simp only [c6b0, c6b1, Bool.not_true, Bool.not_false])
     by_cases c12 : t331 = 1
     ·rw [if_pos c12] at H
      have c12b0 : (t331 == 1) = true := beq_iff_eq.mpr c12
      have c12b1 : (t331 != 1) = false := bne_eq_false_iff_eq.mpr c12
      (try simp only [c12b0, c12b1, Bool.not_true, Bool.not_false])
      clear c12
      replace H := Option.bind_eq_some_iff.mp H
      obtain ⟨⟨t340, t341, t342⟩, A130, H⟩ := H
      (try dsimp only at H)
      have A13 := ZA A130
      clear A130
      replace H := Option.bind_eq_some_iff.mp H
      obtain ⟨⟨t343, t344, t345⟩, A140, H⟩ := H
      (try dsimp only at H)
      have A14 := ZA A140
      clear A140
      simp only [Option.some.injEq, Prod.mk.injEq] at H
      obtain ⟨rfl, rfl, rfl⟩ := H
      try go_wp2_with (first | ((with_reducible refine gate_callee (f := 63) rfl ?_); refine goesL_ (some 30) rfl rfl Try.func63 Z12 rfl #[.pointer (some ⟨g, 0, none⟩), .int .i64 2] rfl Z1 ?_; (with_reducible refine (spec_l1Below.calls g s0_0 t332 t333 2 t340 t341 t342 w0 _ ?side1 ?side2 A13.out).mono ?_); (case side1 => repeat (first | (with_reducible first | exact HI0.out | apply IsS82.alloc | apply IsS82.drewN | apply IsS82.drew | apply IsS82.set_1 | apply IsS82.set_2) | exact HI0.out)); (case side2 => repeat (first | (with_reducible first | exact HB.out | apply h1 | apply h2 | apply h3 | refine h4 ?_ (IsS82.ge HI0.out)) | exact HB.out)); rintro e w16 ⟨rfl, hi, hb, hk⟩; refine ⟨_, rfl, ?_⟩; have n0_ := ZA (KeepBut.trans Z3 hk (.inl rfl)); have n1_ := ZA (hb); have n2_ := ZA (hi); clear HK HB HI0; have HK := n0_; have HB := n1_; have HI0 := n2_; clear n0_ n1_ n2_; (try clear hb); (try clear hb2); (try clear hk); (try clear hi)) | ((with_reducible refine gate_callee (f := 63) rfl ?_); refine goesL_ (some 34) rfl rfl Try.func63 Z12 rfl #[.pointer (some ⟨g, 0, none⟩), .int .i64 3] rfl Z1 ?_; (with_reducible refine (spec_l1Below.calls g s0_0 t341 t342 3 t343 t344 t345 w0 _ ?side1 ?side2 A14.out).mono ?_); (case side1 => repeat (first | (with_reducible first | exact HI0.out | apply IsS82.alloc | apply IsS82.drewN | apply IsS82.drew | apply IsS82.set_1 | apply IsS82.set_2) | exact HI0.out)); (case side2 => repeat (first | (with_reducible first | exact HB.out | apply h1 | apply h2 | apply h3 | refine h4 ?_ (IsS82.ge HI0.out)) | exact HB.out)); rintro e w17 ⟨rfl, hi, hb, hk⟩; refine ⟨_, rfl, ?_⟩; have n0_ := ZA (KeepBut.trans Z3 hk (.inl rfl)); have n1_ := ZA (hb); have n2_ := ZA (hi); clear HK HB HI0; have HK := n0_; have HB := n1_; have HI0 := n2_; clear n0_ n1_ n2_; (try clear hb); (try clear hb2); (try clear hk); (try clear hi)))
      go_ret
      exact ⟨by first | rfl | (simp [errW_none, errW_some] <;> rfl) | (simp [*, errW_none, errW_some] <;> rfl), Z4, Z15, Z13⟩
     ·rw [if_neg c12] at H
      have c12b0 : (t331 == 1) = false := beq_eq_false_iff_ne.mpr c12
      have c12b1 : (t331 != 1) = true := bne_iff_ne.mpr c12
      (try simp only [c12b0, c12b1, Bool.not_true, Bool.not_false])
      by_cases c18 : t331 = 2
      ·rw [if_pos c18] at H
       have c18b0 : (t331 == 2) = true := beq_iff_eq.mpr c18
       have c18b1 : (t331 != 2) = false := bne_eq_false_iff_eq.mpr c18
       (try simp only [c18b0, c18b1, Bool.not_true, Bool.not_false])
       clear c18
       replace H := Option.bind_eq_some_iff.mp H
       obtain ⟨⟨t346, t347, t348⟩, A190, H⟩ := H
       (try dsimp only at H)
       have A19 := ZA A190
       clear A190
       simp only [Option.some.injEq, Prod.mk.injEq] at H
       obtain ⟨rfl, rfl, rfl⟩ := H
       try go_wp2_with (first | ((with_reducible refine gate_callee (f := 63) rfl ?_); refine goesL_ (some 41) rfl rfl Try.func63 Z12 rfl #[.pointer (some ⟨g, 0, none⟩), .int .i64 2] rfl Z1 ?_; (with_reducible refine (spec_l1Below.calls g s0_0 t332 t333 2 t346 t347 t348 w0 _ ?side1 ?side2 A19.out).mono ?_); (case side1 => repeat (first | (with_reducible first | exact HI0.out | apply IsS82.alloc | apply IsS82.drewN | apply IsS82.drew | apply IsS82.set_1 | apply IsS82.set_2) | exact HI0.out)); (case side2 => repeat (first | (with_reducible first | exact HB.out | apply h1 | apply h2 | apply h3 | refine h4 ?_ (IsS82.ge HI0.out)) | exact HB.out)); rintro e w21 ⟨rfl, hi, hb, hk⟩; refine ⟨_, rfl, ?_⟩; have n0_ := ZA (KeepBut.trans Z3 hk (.inl rfl)); have n1_ := ZA (hb); have n2_ := ZA (hi); clear HK HB HI0; have HK := n0_; have HB := n1_; have HI0 := n2_; clear n0_ n1_ n2_; (try clear hb); (try clear hb2); (try clear hk); (try clear hi)))
       go_ret
       exact ⟨by first | rfl | (simp [errW_none, errW_some] <;> rfl) | (simp [*, errW_none, errW_some] <;> rfl), Z4, Z15, Z13⟩
      ·rw [if_neg c18] at H
       have c18b0 : (t331 == 2) = false := beq_eq_false_iff_ne.mpr c18
       have c18b1 : (t331 != 2) = true := bne_iff_ne.mpr c18
       (try simp only [c18b0, c18b1, Bool.not_true, Bool.not_false])
       by_cases c22 : t331 = 3
       ·rw [if_pos c22] at H
        have c22b0 : (t331 == 3) = true := beq_iff_eq.mpr c22
        have c22b1 : (t331 != 3) = false := bne_eq_false_iff_eq.mpr c22
        (try simp only [c22b0, c22b1, Bool.not_true, Bool.not_false])
        clear c22
        replace H := Option.bind_eq_some_iff.mp H
        obtain ⟨⟨t349, t350, t351⟩, A230, H⟩ := H
        (try dsimp only at H)
        have A23 := ZA A230
        clear A230
        replace H := Option.bind_eq_some_iff.mp H
        obtain ⟨⟨t352, t353, t354⟩, A240, H⟩ := H
        (try dsimp only at H)
        have A24 := ZA A240
        clear A240
        simp only [Option.some.injEq, Prod.mk.injEq] at H
        obtain ⟨rfl, rfl, rfl⟩ := H
        try go_wp2_with (first | ((with_reducible refine gate_callee (f := 63) rfl ?_); refine goesL_ (some 51) rfl rfl Try.func63 Z12 rfl #[.pointer (some ⟨g, 0, none⟩), .int .i64 2] rfl Z1 ?_; (with_reducible refine (spec_l1Below.calls g s0_0 t332 t333 2 t349 t350 t351 w0 _ ?side1 ?side2 A23.out).mono ?_); (case side1 => repeat (first | (with_reducible first | exact HI0.out | apply IsS82.alloc | apply IsS82.drewN | apply IsS82.drew | apply IsS82.set_1 | apply IsS82.set_2) | exact HI0.out)); (case side2 => repeat (first | (with_reducible first | exact HB.out | apply h1 | apply h2 | apply h3 | refine h4 ?_ (IsS82.ge HI0.out)) | exact HB.out)); rintro e w26 ⟨rfl, hi, hb, hk⟩; refine ⟨_, rfl, ?_⟩; have n0_ := ZA (KeepBut.trans Z3 hk (.inl rfl)); have n1_ := ZA (hb); have n2_ := ZA (hi); clear HK HB HI0; have HK := n0_; have HB := n1_; have HI0 := n2_; clear n0_ n1_ n2_; (try clear hb); (try clear hb2); (try clear hk); (try clear hi)) | ((with_reducible refine gate_callee (f := 63) rfl ?_); refine goesL_ (some 55) rfl rfl Try.func63 Z12 rfl #[.pointer (some ⟨g, 0, none⟩), .int .i64 3] rfl Z1 ?_; (with_reducible refine (spec_l1Below.calls g s0_0 t350 t351 3 t352 t353 t354 w0 _ ?side1 ?side2 A24.out).mono ?_); (case side1 => repeat (first | (with_reducible first | exact HI0.out | apply IsS82.alloc | apply IsS82.drewN | apply IsS82.drew | apply IsS82.set_1 | apply IsS82.set_2) | exact HI0.out)); (case side2 => repeat (first | (with_reducible first | exact HB.out | apply h1 | apply h2 | apply h3 | refine h4 ?_ (IsS82.ge HI0.out)) | exact HB.out)); rintro e w27 ⟨rfl, hi, hb, hk⟩; refine ⟨_, rfl, ?_⟩; have n0_ := ZA (KeepBut.trans Z3 hk (.inl rfl)); have n1_ := ZA (hb); have n2_ := ZA (hi); clear HK HB HI0; have HK := n0_; have HB := n1_; have HI0 := n2_; clear n0_ n1_ n2_; (try clear hb); (try clear hb2); (try clear hk); (try clear hi)))
        go_ret
        exact ⟨by first | rfl | (simp [errW_none, errW_some] <;> rfl) | (simp [*, errW_none, errW_some] <;> rfl), Z4, Z15, Z13⟩
       ·rw [if_neg c22] at H
        have c22b0 : (t331 == 3) = false := beq_eq_false_iff_ne.mpr c22
        have c22b1 : (t331 != 3) = true := bne_iff_ne.mpr c22
        (try simp only [c22b0, c22b1, Bool.not_true, Bool.not_false])
        by_cases c28 : t331 = 4
        ·rw [if_pos c28] at H
         have c28b0 : (t331 == 4) = true := beq_iff_eq.mpr c28
         have c28b1 : (t331 != 4) = false := bne_eq_false_iff_eq.mpr c28
         (try simp only [c28b0, c28b1, Bool.not_true, Bool.not_false])
         clear c28
         replace H := Option.bind_eq_some_iff.mp H
         obtain ⟨⟨t355, t356, t357⟩, A290, H⟩ := H
         (try dsimp only at H)
         have A29 := ZA A290
         clear A290
         replace H := Option.bind_eq_some_iff.mp H
         obtain ⟨⟨t358, t359, t360⟩, A300, H⟩ := H
         (try dsimp only at H)
         have A30 := ZA A300
         clear A300
         simp only [Option.some.injEq, Prod.mk.injEq] at H
         obtain ⟨rfl, rfl, rfl⟩ := H
         try go_wp2_with (first | ((with_reducible refine gate_callee (f := 63) rfl ?_); refine goesL_ (some 62) rfl rfl Try.func63 Z12 rfl #[.pointer (some ⟨g, 0, none⟩), .int .i64 12] rfl Z1 ?_; (with_reducible refine (spec_l1Below.calls g s0_0 t332 t333 12 t355 t356 t357 w0 _ ?side1 ?side2 A29.out).mono ?_); (case side1 => repeat (first | (with_reducible first | exact HI0.out | apply IsS82.alloc | apply IsS82.drewN | apply IsS82.drew | apply IsS82.set_1 | apply IsS82.set_2) | exact HI0.out)); (case side2 => repeat (first | (with_reducible first | exact HB.out | apply h1 | apply h2 | apply h3 | refine h4 ?_ (IsS82.ge HI0.out)) | exact HB.out)); rintro e w32 ⟨rfl, hi, hb, hk⟩; refine ⟨_, rfl, ?_⟩; have n0_ := ZA (KeepBut.trans Z3 hk (.inl rfl)); have n1_ := ZA (hb); have n2_ := ZA (hi); clear HK HB HI0; have HK := n0_; have HB := n1_; have HI0 := n2_; clear n0_ n1_ n2_; (try clear hb); (try clear hb2); (try clear hk); (try clear hi)) | ((with_reducible refine gate_callee (f := 63) rfl ?_); refine goesL_ (some 67) rfl rfl Try.func63 Z12 rfl #[.pointer (some ⟨g, 0, none⟩), .int .i64 16] rfl Z1 ?_; (with_reducible refine (spec_l1Below.calls g s0_0 t356 t357 16 t358 t359 t360 w0 _ ?side1 ?side2 A30.out).mono ?_); (case side1 => repeat (first | (with_reducible first | exact HI0.out | apply IsS82.alloc | apply IsS82.drewN | apply IsS82.drew | apply IsS82.set_1 | apply IsS82.set_2) | exact HI0.out)); (case side2 => repeat (first | (with_reducible first | exact HB.out | apply h1 | apply h2 | apply h3 | refine h4 ?_ (IsS82.ge HI0.out)) | exact HB.out)); rintro e w33 ⟨rfl, hi, hb, hk⟩; refine ⟨_, rfl, ?_⟩; have n0_ := ZA (KeepBut.trans Z3 hk (.inl rfl)); have n1_ := ZA (hb); have n2_ := ZA (hi); clear HK HB HI0; have HK := n0_; have HB := n1_; have HI0 := n2_; clear n0_ n1_ n2_; (try clear hb); (try clear hb2); (try clear hk); (try clear hi)))
         go_ret
         exact ⟨by first | rfl | (simp [errW_none, errW_some] <;> rfl) | (simp [*, errW_none, errW_some] <;> rfl), Z4, Z15, Z13⟩
        ·rw [if_neg c28] at H
         have c28b0 : (t331 == 4) = false := beq_eq_false_iff_ne.mpr c28
         have c28b1 : (t331 != 4) = true := bne_iff_ne.mpr c28
         (try simp only [c28b0, c28b1, Bool.not_true, Bool.not_false])
         by_cases c34 : t331 = 5
         ·rw [if_pos c34] at H
          have c34b0 : (t331 == 5) = true := beq_iff_eq.mpr c34
          have c34b1 : (t331 != 5) = false := bne_eq_false_iff_eq.mpr c34
          (try simp only [c34b0, c34b1, Bool.not_true, Bool.not_false])
          clear c34
          replace H := Option.bind_eq_some_iff.mp H
          obtain ⟨⟨t361, t362, t363⟩, A350, H⟩ := H
          (try dsimp only at H)
          have A35 := ZA A350
          clear A350
          replace H := Option.bind_eq_some_iff.mp H
          obtain ⟨t364, A360, H⟩ := H
          (try dsimp only at H)
          have A36 := ZA A360
          clear A360
          simp only [Option.some.injEq, Prod.mk.injEq] at H
          obtain ⟨rfl, rfl, rfl⟩ := H
          try go_wp2_with (first | ((with_reducible refine gate_callee (f := 63) rfl ?_); refine goesL_ (some 74) rfl rfl Try.func63 Z12 rfl #[.pointer (some ⟨g, 0, none⟩), .int .i64 21] rfl Z1 ?_; (with_reducible refine (spec_l1Below.calls g s0_0 t332 t333 21 t361 t362 t363 w0 _ ?side1 ?side2 A35.out).mono ?_); (case side1 => repeat (first | (with_reducible first | exact HI0.out | apply IsS82.alloc | apply IsS82.drewN | apply IsS82.drew | apply IsS82.set_1 | apply IsS82.set_2) | exact HI0.out)); (case side2 => repeat (first | (with_reducible first | exact HB.out | apply h1 | apply h2 | apply h3 | refine h4 ?_ (IsS82.ge HI0.out)) | exact HB.out)); rintro e w38 ⟨rfl, hi, hb, hk⟩; refine ⟨_, rfl, ?_⟩; have n0_ := ZA (KeepBut.trans Z3 hk (.inl rfl)); have n1_ := ZA (hb); have n2_ := ZA (hi); clear HK HB HI0; have HK := n0_; have HB := n1_; have HI0 := n2_; clear n0_ n1_ n2_; (try clear hb); (try clear hb2); (try clear hk); (try clear hi)) | ((with_reducible refine gate_callee (f := 78) rfl ?_); refine goesL_ (some 77) rfl rfl Try.func78 Z12 rfl #[.float .f64 (fofi (wrap64 (t361 - 10)))] rfl Z1 ?_; (with_reducible refine (spec_FloatBits.calls k1 (fofi (wrap64 (t361 - 10))) t364 _ A36.out).mono ?_); rintro e w' ⟨rfl, ⟨nd, rfl⟩⟩; refine ⟨_, rfl, ?_⟩))
          go_ret
          exact ⟨by first | rfl | (simp [errW_none, errW_some] <;> rfl) | (simp [*, errW_none, errW_some] <;> rfl), Z4, Z15, Z13⟩
         ·rw [if_neg c34] at H
          have c34b0 : (t331 == 5) = false := beq_eq_false_iff_ne.mpr c34
          have c34b1 : (t331 != 5) = true := bne_iff_ne.mpr c34
          (try simp only [c34b0, c34b1, Bool.not_true, Bool.not_false])
          simp only [Option.some.injEq, Prod.mk.injEq] at H
          obtain ⟨rfl, rfl, rfl⟩ := H
          try go_wp2
          go_ret
          exact ⟨by first | rfl | (simp [errW_none, errW_some] <;> rfl) | (simp [*, errW_none, errW_some] <;> rfl), Z4, Z15, Z13⟩
def spec_l2float.f (k : Nat) (s0_0 : List Int) (s0_1 : Int) (s0_2 : Int) : Option (Nat × Int × Int) := (spec_l2bits.f k s0_0 s0_1 s0_2).bind fun bt365 => ((spec_FloatOf.c k bt365.1).bind fun t368 => (some (t368, bt365.2.1, bt365.2.2)))
theorem spec_l2float.mono : ∀ a0 a1 a2 k, LeO (spec_l2float.f k a0 a1 a2) (spec_l2float.f (k + 1) a0 a1 a2) := by
  intro a0 a1 a2 k
  unfold spec_l2float.f
  repeat' with_reducible first | exact spec_FloatOf.monoC _ _ | exact spec_l2bits.mono _ _ _ _ | exact LeO.refl _ | exact LeO.none _ | refine LeO.ite ?_ ?_ | refine LeO.bind ?_ (fun _ => ?_)
set_option maxHeartbeats 8000000 in
set_option maxRecDepth 100000 in
theorem spec_l2float.callsC (k : Nat) (g : Nat) (s0_0 : List Int) (s0_1 : Int) (s0_2 : Int) (r1 : Nat) (r2 : Int) (r3 : Int) (w0 w : World) (hI : IsS82 w0 w g s0_0 s0_1 s0_2) (hB : Below w0.heap.size w0 w) (h : spec_l2float.f k s0_0 s0_1 s0_2 = some (r1, r2, r3)) :
    Calls Try.prog 80 #[.pointer (some ⟨g, 0, none⟩)] w fun e w' => ∃ b1_ : Nat, e = .returned (.float .f64 b1_) ∧ IsS82 w0 w' g s0_0 r2 r3 ∧ Below w0.heap.size w0 w' ∧ KeepBut w w' g none ∧ Aside0 (cn b1_ = r1 ∧ b1_ < 2 ^ 64) := by
  have HI0 := ZA hI
  have HK := ZA (KeepBut.refl w g none)
  have HL := ZA hB.size
  clear hI
  have HW0 := ZA hB.size
  have HB := ZA hB
  clear hB
  have H := h
  clear h
  unfold spec_l2float.f at H
  replace H := Option.bind_eq_some_iff.mp H
  obtain ⟨⟨t365, t366, t367⟩, A20, H⟩ := H
  (try dsimp only at H)
  have A2 := ZA A20
  clear A20
  replace H := Option.bind_eq_some_iff.mp H
  obtain ⟨t368, A30, H⟩ := H
  (try dsimp only at H)
  have A3 := ZA A30
  clear A30
  simp only [Option.some.injEq, Prod.mk.injEq] at H
  obtain ⟨rfl, rfl, rfl⟩ := H
  go_enter Try.func80, Try.ntmps80
  go_wp2_with (first | ((with_reducible refine gate_callee (f := 85) rfl ?_); refine goesL_ (some 4) rfl rfl Try.func85 Z12 rfl #[.pointer (some ⟨g, 0, none⟩)] rfl Z1 ?_; (with_reducible refine (spec_l2bits.calls k g s0_0 s0_1 s0_2 t365 t366 t367 w0 _ ?side1 ?side2 A2.out).mono ?_); (case side1 => repeat (first | (with_reducible first | exact HI0.out | apply IsS82.alloc | apply IsS82.drewN | apply IsS82.drew | apply IsS82.set_1 | apply IsS82.set_2) | exact HI0.out)); (case side2 => repeat (first | (with_reducible first | exact HB.out | apply h1 | apply h2 | apply h3 | refine h4 ?_ (IsS82.ge HI0.out)) | exact HB.out)); rintro e w4 ⟨rfl, hi, hb, hk⟩; refine ⟨_, rfl, ?_⟩; have n0_ := ZA (KeepBut.trans Z3 hk (.inl rfl)); have n1_ := ZA (hb); have n2_ := ZA (hi); clear HK HB HI0; have HK := n0_; have HB := n1_; have HI0 := n2_; clear n0_ n1_ n2_; (try clear hb); (try clear hb2); (try clear hk); (try clear hi)) | ((with_reducible refine gate_callee (f := 84) rfl ?_); refine goesL_ (some 5) rfl rfl Try.func84 Z12 rfl #[.int .u64 t365] rfl Z1 ?_; (with_reducible refine (spec_FloatOf.callsC k t365 t368 _ A3.out).mono ?_); rintro e w' ⟨b368, rfl, ⟨nd, rfl⟩, ⟨⟨hcnb368, hltb368⟩⟩⟩; refine ⟨_, rfl, ?_⟩; have LTb368 := ZA hltb368; clear hltb368; subst hcnb368))
  go_ret
  exact ⟨_, by first | rfl | (simp [errW_none, errW_some] <;> rfl) | (simp [*, errW_none, errW_some] <;> rfl), Z4, Z15, Z13, (by first | exact ⟨⟨rfl, LTb368.out⟩⟩ | exact ⟨⟨by first | rfl | decide, by decide⟩⟩ | exact ⟨⟨rfl, fquo_lt (by assumption)⟩⟩)⟩
def spec_l3key.f (k : Nat) (s0_0 : List Int) (s0_1 : Int) (s0_2 : Int) : Option (Int × Int × Nat × List Int × Int × Int) := (spec_l1Below.f s0_0 s0_1 s0_2 6).bind fun bt370 => (if bt370.1 = 0 then ((spec_l1Below.f s0_0 bt370.2.1 bt370.2.2 3).bind fun bt373 => (some (3, 0, 0, (([(wrap64 (97 + bt373.1)) % 256] : List Int)), bt373.2.1, bt373.2.2))) else (if bt370.1 = 1 then ((spec_l1Below.f s0_0 bt370.2.1 bt370.2.2 5).bind fun bt379 => (if (fok .quo (fofi (wrap64 (bt379.1 - 2))) 4611686018427387904) = true then ((spec_ItemClean.f k 2 0 (cn (fval .quo (fofi (wrap64 (bt379.1 - 2))) 4611686018427387904)) ([] : List Int)).bind fun bt382 => (some (bt382.1, bt382.2.1, bt382.2.2.1, bt382.2.2.2, bt379.2.1, bt379.2.2))) else (none))) else (if bt370.1 = 2 then ((spec_l1Once.f s0_0 bt370.2.1 bt370.2.2 3).bind fun bt388 => (if bt388.1 = true then ((spec_l2float.f k s0_0 bt388.2.1 bt388.2.2).bind fun bt391 => ((spec_ItemClean.f k 2 0 bt391.1 ([] : List Int)).bind fun bt394 => (some (bt394.1, bt394.2.1, bt394.2.2.1, bt394.2.2.2, bt391.2.1, bt391.2.2)))) else ((spec_l1Below.f s0_0 bt388.2.1 bt388.2.2 6).bind fun bt400 => (some (1, wrap64 (bt400.1 - 1), 0, ([] : List Int), bt400.2.1, bt400.2.2))))) else (if bt370.1 = 3 then ((spec_l1Once.f s0_0 bt370.2.1 bt370.2.2 4).bind fun bt403 => (if bt403.1 = true then ((spec_l1some.f k s0_0 bt403.2.1 bt403.2.2 40).bind fun bt406 => (some (3, 0, 0, bt406.1, bt406.2.1, bt406.2.2))) else ((spec_l1Below.f s0_0 bt403.2.1 bt403.2.2 6).bind fun bt411 => (some (1, wrap64 (bt411.1 - 1), 0, ([] : List Int), bt411.2.1, bt411.2.2))))) else ((spec_l1Below.f s0_0 bt370.2.1 bt370.2.2 6).bind fun bt414 => (some (1, wrap64 (bt414.1 - 1), 0, ([] : List Int), bt414.2.1, bt414.2.2)))))))
theorem spec_l3key.mono : ∀ a0 a1 a2 k, LeO (spec_l3key.f k a0 a1 a2) (spec_l3key.f (k + 1) a0 a1 a2) := by
 intro a0 a1 a2 k
 unfold spec_l3key.f
 repeat' with_reducible first | exact spec_ItemClean.mono _ _ _ _ _ | exact spec_l1some.mono _ _ _ _ _ | exact spec_l2float.mono _ _ _ _ | exact LeO.refl _ | exact LeO.none _ | refine LeO.ite ?_ ?_ | refine LeO.bind ?_ (fun _ => ?_)
set_option maxHeartbeats 8000000 in
set_option maxRecDepth 100000 in
theorem spec_l3key.callsC (k : Nat) (g : Nat) (s0_0 : List Int) (s0_1 : Int) (s0_2 : Int) (r1 : Int) (r2 : Int) (r3 : Nat) (r4 : List Int) (r5 : Int) (r6 : Int) (w0 w : World) (hI : IsS82 w0 w g s0_0 s0_1 s0_2) (hB : Below w0.heap.size w0 w) (h : spec_l3key.f k s0_0 s0_1 s0_2 = some (r1, r2, r3, r4, r5, r6)) :
  Calls Try.prog 71 #[.pointer (some ⟨g, 0, none⟩)] w fun e w' => ∃ b1_ : Nat, ∃ v3_ : Value, e = .returned (.agg #[.int .i64 r1, .int .i64 r2, .float .f64 b1_, v3_]) ∧ Kd.R (Kd.int .u8) 5 w' w.heap.size (fun _ => True) v3_ r4 ∧ IsS82 w0 w' g s0_0 r5 r6 ∧ Below w0.heap.size w0 w' ∧ KeepBut w w' g none ∧ Aside0 (cn b1_ = r3 ∧ b1_ < 2 ^ 64) := by
 have hu72 := Try.underlying72
 have HI0 := ZA hI
 have HK := ZA (KeepBut.refl w g none)
 have HL := ZA hB.size
 clear hI
 have HW0 := ZA hB.size
 have HB := ZA hB
 clear hB
 have H := h
 clear h
 unfold spec_l3key.f at H
 replace H := Option.bind_eq_some_iff.mp H
 obtain ⟨⟨t370, t371, t372⟩, A20, H⟩ := H
 (try dsimp only at H)
 have A2 := ZA A20
 clear A20
 by_cases c3 : t370 = 0
 ·rw [if_pos c3] at H
  have c3b0 : (t370 == 0) = true := beq_iff_eq.mpr c3
  have c3b1 : (t370 != 0) = false := bne_eq_false_iff_eq.mpr c3
  clear c3
  replace H := Option.bind_eq_some_iff.mp H
  obtain ⟨⟨t373, t374, t375⟩, A40, H⟩ := H
  (try dsimp only at H)
  have A4 := ZA A40
  clear A40
  obtain ⟨y376, hy376⟩ : ∃ y_ : List Int, y_ = (([(wrap64 (97 + t373)) % 256] : List Int)) := ⟨_, rfl⟩
  replace H : (some (3, 0, 0, y376, t374, t375)) = some (r1, r2, r3, r4, r5, r6) := by first | (rw [hy376]; with_reducible exact H) | (have H2_ := (Option.bind_some _ _).symm.trans H; rw [hy376]; with_reducible exact H2_) | (have H2_ := (Option.bind_some _ _).symm.trans H; with_reducible exact H2_) | with_reducible exact H | (rw [hy376]; exact H) | exact H
  have Ny376 := ZA hy376
  clear hy376
  simp only [Option.some.injEq, Prod.mk.injEq] at H
  obtain ⟨rfl, rfl, rfl, rfl, rfl, rfl⟩ := H
  go_enter Try.func71, Try.ntmps71
  go_wp2_with (first | ((with_reducible refine gate_dst (N := 2) rfl ?_); refine box_event ?hg (N := 2) ?hd (cs := #[.int .i64 0, .int .i64 0, .float .f64 0, .slice none 0 0]) (t := 72) ?hr ?_; (case hd => rfl); (case hg => rfl); (case hr => first | (go_simp; done) | (go_simp; rfl)); intro gb369 hg w5 hbox hb; have n0_ := ZA (IsS82.below (Z4) hb); have n1_ := ZA (KeepBut.trans Z3 (KeepBut.of_below hb g none) (.inl rfl)); have n2_ := ZA (below_step (Z15) hb); have n3_ := ZA (hbox); have n4_ := Geq.mk ((Z61 : w.heap.size ≤ gb369)); have n5_ := ZA ((Nat.le_trans HW0.out (Z61 : w.heap.size ≤ gb369) : w0.heap.size ≤ gb369)); have n6_ := ZA ((Z88 : g ≠ gb369)); have n7_ := ZA ((Z89 : gb369 ≠ g)); clear HI0 HK HB; have HI0 := n0_; have HK := n1_; have HB := n2_; have BK369 := n3_; have GW369 := n4_; have GE369 := n5_; have NB0_369 := n6_; have NB369_0 := n7_; clear n0_ n1_ n2_ n3_ n4_ n5_ n6_ n7_ hb hbox hg) | ((with_reducible refine gate_callee (f := 63) rfl ?_); refine goesL_ (some 4) rfl rfl Try.func63 Z12 rfl #[.pointer (some ⟨g, 0, none⟩), .int .i64 6] rfl Z1 ?_; (with_reducible refine (spec_l1Below.calls g s0_0 s0_1 s0_2 6 t370 t371 t372 w0 _ ?side1 ?side2 A2.out).mono ?_); (case side1 => repeat (first | (with_reducible first | exact HI0.out | apply IsS82.alloc | apply IsS82.drewN | apply IsS82.drew | apply IsS82.set_1 | apply IsS82.set_2 | refine IsS82.far ?_ NB0_369.out _) | exact HI0.out)); (case side2 => repeat (first | (with_reducible first | exact HB.out | apply h1 | apply h2 | apply h3 | refine h4 ?_ (IsS82.ge HI0.out) | refine h4 ?_ GE369.out) | exact HB.out)); rintro e w6 ⟨rfl, hi, hb, hk⟩; refine ⟨_, rfl, ?_⟩; have n0_ := ZA (KeepBut.blk hk (g' := gb369) (o := .cells #[.int .i64 0, .int .i64 0, .float .f64 0, .slice none 0 0] 72 (0, 0)) (bup BK369.out) NB369_0.out Z44); have n1_ := ZA (KeepBut.trans Z18 hk (.inl rfl)); have n2_ := ZA (hb); have n3_ := ZA (hi); clear BK369 HK HB HI0; have BK369 := n0_; have HK := n1_; have HB := n2_; have HI0 := n3_; clear n0_ n1_ n2_ n3_; (try clear hb); (try clear hb2); (try clear hk); (try clear hi)) | ((with_reducible refine gate_callee (f := 63) rfl ?_); refine goesL_ (some 8) rfl rfl Try.func63 Z12 rfl #[.pointer (some ⟨g, 0, none⟩), .int .i64 3] rfl Z1 ?_; (with_reducible refine (spec_l1Below.calls g s0_0 t371 t372 3 t373 t374 t375 w0 _ ?side1 ?side2 A4.out).mono ?_); (case side1 => repeat (first | (with_reducible first | exact HI0.out | apply IsS82.alloc | apply IsS82.drewN | apply IsS82.drew | apply IsS82.set_1 | apply IsS82.set_2 | refine IsS82.far ?_ NB0_369.out _) | exact HI0.out)); (case side2 => repeat (first | (with_reducible first | exact HB.out | apply h1 | apply h2 | apply h3 | refine h4 ?_ (IsS82.ge HI0.out) | refine h4 ?_ GE369.out) | exact HB.out)); rintro e w7 ⟨rfl, hi, hb, hk⟩; refine ⟨_, rfl, ?_⟩; have n0_ := ZA (KeepBut.blk hk (g' := gb369) (o := .cells #[.int .i64 0, .int .i64 0, .float .f64 0, .slice none 0 0] 72 (0, 0)) (bup BK369.out) NB369_0.out Z44); have n1_ := ZA (KeepBut.trans Z18 hk (.inl rfl)); have n2_ := ZA (hb); have n3_ := ZA (hi); clear BK369 HK HB HI0; have BK369 := n0_; have HK := n1_; have HB := n2_; have HI0 := n3_; clear n0_ n1_ n2_ n3_; (try clear hb); (try clear hb2); (try clear hk); (try clear hi)) | ((with_reducible refine gate_dst (N := 11) rfl ?_); refine Kd.R_lit (Kd.int .u8) _ 5 ?hg (N := 11) ?hd (xs := ([(wrap64 (97 + t373)) % 256] : List Int)) (inner := [.int .u8 ((wrap64 (97 + t373)) % 256)]) (ok := fun _ => True) (okp := fun _ => True) ?hr ?hp (fun _ hk => hk) trivial (Below.refl _ _) (Nat.le_refl _) Z44 ?_; (case hd => rfl); (case hg => rfl); (case hr => first | (go_simp; done) | (go_simp; rfl)); (case hp => exact (Reps.one (show Kd.M (Kd.int .u8) _ _ _ ((wrap64 (97 + t373)) % 256) [.int .u8 ((wrap64 (97 + t373)) % 256)] from rfl) (Reps.none _ _))); intro v377 w8 ho9 hb hg_ hnew_; clear hg_ hnew_; (first | rw [← Ny376.out] at ho9 | (simp only [Int.reduceToNat] at ho9; rw [← Ny376.out] at ho9)); have n0_ := ZA (Kd.R_lower ho9 (keep_size (w := w) (g := g) (row := none) Z18)); have n1_ := ZA (IsS82.below (Z36) hb); have n2_ := ZA (blk_below (bup BK369.out) hb); have n3_ := ZA (KeepBut.trans Z18 (KeepBut.of_below hb g none) (.inl rfl)); have n4_ := ZA (below_step (Z49) hb); clear HI0 BK369 HK HB; have HO378 := n0_; have HI0 := n1_; have BK369 := n2_; have HK := n3_; have HB := n4_; clear n0_ n1_ n2_ n3_ n4_ hb ho9; obtain ⟨Ao10, co10, eo10⟩ := Kd.R_slice HO378.out; subst eo10; have hnb11 := NB369_0.out; have hnc11 := NB0_369.out; obtain ⟨hcz12_0, hcz12_1, hcz12_2, hcz12_3⟩ := blk_cells4 BK369.out; obtain ⟨hfz12_0, hfz12_1, hfz12_2, hfz12_3⟩ := blk_frozens4 BK369.out))
  refine bodyPost_ret (results_cell_row rfl _ _ gb369 72 #[.int .i64 3, .int .i64 0, .float .f64 0, .slice Ao10 y376.length co10] (0, 0) _ rfl (bput BK369.out) Try.underlying72 rfl Z12) rfl ?_
  exact ⟨_, _, by first | rfl | (simp [errW_none, errW_some] <;> rfl) | (simp [*, errW_none, errW_some] <;> rfl), by exact Kd.rup (Kd.R_mono (Kd.R_far (p := ⟨gb369, 3, none⟩) (Kd.R_far (p := ⟨gb369, 2, none⟩) (Kd.R_far (p := ⟨gb369, 1, none⟩) (Kd.R_far (p := ⟨gb369, 0, none⟩) (Kd.R_types HO378.out BK369.out Z25) (fun _ hk => hk.2) (.int .i64 3)) (fun _ hk => hk.2) (.int .i64 0)) (fun _ hk => hk.2) (.float .f64 0)) (fun _ hk => hk.2) (.slice Ao10 y376.length co10)) (fun _ hk => trivial)), Z36, Z49, Z43, Z52⟩
 ·rw [if_neg c3] at H
  have c3b0 : (t370 == 0) = false := beq_eq_false_iff_ne.mpr c3
  have c3b1 : (t370 != 0) = true := bne_iff_ne.mpr c3
  go_enter Try.func71, Try.ntmps71
  repeat (first | ((with_reducible refine gate_dst (N := 2) rfl ?_); refine box_event ?hg (N := 2) ?hd (cs := #[.int .i64 0, .int .i64 0, .float .f64 0, .slice none 0 0]) (t := 72) ?hr ?_; (case hd => rfl); (case hg => rfl); (case hr => first | (go_simp; done) | (go_simp; rfl)); intro gb369 hg w17 hbox hb; have n0_ := ZA (IsS82.below (Z4) hb); have n1_ := ZA (KeepBut.trans Z3 (KeepBut.of_below hb g none) (.inl rfl)); have n2_ := ZA (below_step (Z15) hb); have n3_ := ZA (hbox); have n4_ := Geq.mk ((Z61 : w.heap.size ≤ gb369)); have n5_ := ZA ((Nat.le_trans HW0.out (Z61 : w.heap.size ≤ gb369) : w0.heap.size ≤ gb369)); have n6_ := ZA ((Z88 : g ≠ gb369)); have n7_ := ZA ((Z89 : gb369 ≠ g)); clear HI0 HK HB; have HI0 := n0_; have HK := n1_; have HB := n2_; have BK369 := n3_; have GW369 := n4_; have GE369 := n5_; have NB0_369 := n6_; have NB369_0 := n7_; clear n0_ n1_ n2_ n3_ n4_ n5_ n6_ n7_ hb hbox hg) | ((fail_if_success (with_reducible refine gate_callee (f := 63) rfl ?_)); first | go_values | go_skip | go_guarded | go_step | go_upon | go_back | (simp only [Int.not_lt, Int.not_le] at *; go_simp)))
  (with_reducible refine gate_callee (f := 63) rfl ?_); refine goesL_ (some 4) rfl rfl Try.func63 Z12 rfl #[.pointer (some ⟨g, 0, none⟩), .int .i64 6] rfl Z1 ?_; (with_reducible refine (spec_l1Below.calls g s0_0 s0_1 s0_2 6 t370 t371 t372 w0 _ ?side1 ?side2 A2.out).mono ?_); (case side1 => repeat (first | (with_reducible first | exact HI0.out | apply IsS82.alloc | apply IsS82.drewN | apply IsS82.drew | apply IsS82.set_1 | apply IsS82.set_2 | refine IsS82.far ?_ NB0_369.out _) | exact HI0.out)); (case side2 => repeat (first | (with_reducible first | exact HB.out | apply h1 | apply h2 | apply h3 | refine h4 ?_ (IsS82.ge HI0.out) | refine h4 ?_ GE369.out) | exact HB.out)); rintro e w18 ⟨rfl, hi, hb, hk⟩; refine ⟨_, rfl, ?_⟩; have n0_ := ZA (KeepBut.blk hk (g' := gb369) (o := .cells #[.int .i64 0, .int .i64 0, .float .f64 0, .slice none 0 0] 72 (0, 0)) (bup BK369.out) NB369_0.out Z44); have n1_ := ZA (KeepBut.trans Z18 hk (.inl rfl)); have n2_ := ZA (hb); have n3_ := ZA (hi); clear BK369 HK HB HI0; have BK369 := n0_; have HK := n1_; have HB := n2_; have HI0 := n3_; clear n0_ n1_ n2_ n3_; (try clear hb); (try clear hb2); (try clear hk); (try clear hi)
  by_cases c13 : t370 = 1
  ·rw [if_pos c13] at H
   have c13b0 : (t370 == 1) = true := beq_iff_eq.mpr c13
   have c13b1 : (t370 != 1) = false := bne_eq_false_iff_eq.mpr c13
   (try simp only [c13b0, c13b1, Bool.not_true, Bool.not_false])
   clear c13
   replace H := Option.bind_eq_some_iff.mp H
   obtain ⟨⟨t379, t380, t381⟩, A140, H⟩ := H
   (try dsimp only at H)
   have A14 := ZA A140
   clear A140
   by_cases c15 : (fok .quo (fofi (wrap64 (t379 - 2))) 4611686018427387904) = true
   ·rw [if_pos c15] at H
    have c15b0 : (fok .quo (fofi (wrap64 (t379 - 2))) 4611686018427387904) = true := c15
    (try simp only [c15b0, Bool.not_true, Bool.not_false])
    clear c15
    replace H := Option.bind_eq_some_iff.mp H
    obtain ⟨⟨t382, t383, t384, t385⟩, A160, H⟩ := H
    (try dsimp only at H)
    have A16 := ZA A160
    clear A160
    simp only [Option.some.injEq, Prod.mk.injEq] at H
    obtain ⟨rfl, rfl, rfl, rfl, rfl, rfl⟩ := H
    try go_wp2_with (first | ((with_reducible refine gate_callee (f := 63) rfl ?_); refine goesL_ (some 16) rfl rfl Try.func63 Z12 rfl #[.pointer (some ⟨g, 0, none⟩), .int .i64 5] rfl Z1 ?_; (with_reducible refine (spec_l1Below.calls g s0_0 t371 t372 5 t379 t380 t381 w0 _ ?side1 ?side2 A14.out).mono ?_); (case side1 => repeat (first | (with_reducible first | exact HI0.out | apply IsS82.alloc | apply IsS82.drewN | apply IsS82.drew | apply IsS82.set_1 | apply IsS82.set_2 | refine IsS82.far ?_ NB0_369.out _) | exact HI0.out)); (case side2 => repeat (first | (with_reducible first | exact HB.out | apply h1 | apply h2 | apply h3 | refine h4 ?_ (IsS82.ge HI0.out) | refine h4 ?_ GE369.out) | exact HB.out)); rintro e w19 ⟨rfl, hi, hb, hk⟩; refine ⟨_, rfl, ?_⟩; have n0_ := ZA (KeepBut.blk hk (g' := gb369) (o := .cells #[.int .i64 0, .int .i64 0, .float .f64 0, .slice none 0 0] 72 (0, 0)) (bup BK369.out) NB369_0.out Z44); have n1_ := ZA (KeepBut.trans Z18 hk (.inl rfl)); have n2_ := ZA (hb); have n3_ := ZA (hi); clear BK369 HK HB HI0; have BK369 := n0_; have HK := n1_; have HB := n2_; have HI0 := n3_; clear n0_ n1_ n2_ n3_; (try clear hb); (try clear hb2); (try clear hk); (try clear hi)) | ((with_reducible refine gate_callee (f := 79) rfl ?_); refine goesL_ (some 21) rfl rfl Try.func79 Z12 rfl #[.agg #[.int .i64 2, .int .i64 0, .float .f64 (fval .quo (fofi (wrap64 (t379 - 2))) 4611686018427387904), .slice none 0 0]] rfl Z1 ?_; (refine (spec_ItemClean.callsC k 2 0 (fval .quo (fofi (wrap64 (t379 - 2))) 4611686018427387904) _ _ ([] : List Int) t382 t383 t384 t385 _ ?side1 ?side2 (fquo_lt (by assumption)) A16.out).mono ?_); (case side1 => exact Kd.C_nil _ _); (case side2 => exact Nat.le_refl _); rintro e w20 ⟨b384, v386, rfl, ho0, hb, ⟨⟨hcnb384, hltb384⟩⟩⟩; refine ⟨_, rfl, ?_⟩; have LTb384 := ZA hltb384; clear hltb384; subst hcnb384; have n0_ := ZA (Kd.R_lower ho0 (keep_size (w := w) (g := g) (row := none) Z18)); have n1_ := ZA (IsS82.below (Z36) hb); have n2_ := ZA (blk_below (bup BK369.out) hb); have n3_ := ZA (KeepBut.trans Z18 (KeepBut.of_below hb g none) (.inl rfl)); have n4_ := ZA (below_step (Z49) hb); clear HI0 BK369 HK HB; have HO387 := n0_; have HI0 := n1_; have BK369 := n2_; have HK := n3_; have HB := n4_; clear n0_ n1_ n2_ n3_ n4_; (try clear hb); (try clear hb2); (try clear hk); (try clear hi); (try clear ho0); have hnb21 := NB369_0.out; have hnc21 := NB0_369.out; obtain ⟨hcz22_0, hcz22_1, hcz22_2, hcz22_3⟩ := blk_cells4 BK369.out; obtain ⟨hfz22_0, hfz22_1, hfz22_2, hfz22_3⟩ := blk_frozens4 BK369.out; obtain ⟨Ao23, co23, eo23⟩ := Kd.R_slice HO387.out; subst eo23))
    refine bodyPost_ret (results_cell_row rfl _ _ gb369 72 #[.int .i64 t382, .int .i64 t383, .float .f64 b384, .slice Ao23 t385.length co23] (0, 0) _ rfl (bput BK369.out) Try.underlying72 rfl Z12) rfl ?_
    exact ⟨_, _, by first | rfl | (simp [errW_none, errW_some] <;> rfl) | (simp [*, errW_none, errW_some] <;> rfl), by exact Kd.rup (Kd.R_mono (Kd.R_far (p := ⟨gb369, 3, none⟩) (Kd.R_far (p := ⟨gb369, 2, none⟩) (Kd.R_far (p := ⟨gb369, 1, none⟩) (Kd.R_far (p := ⟨gb369, 0, none⟩) (Kd.R_types HO387.out BK369.out Z25) (fun _ hk => hk.2) (.int .i64 t382)) (fun _ hk => hk.2) (.int .i64 t383)) (fun _ hk => hk.2) (.float .f64 b384)) (fun _ hk => hk.2) (.slice Ao23 t385.length co23)) (fun _ hk => trivial)), Z36, Z49, Z43, (by first | exact ⟨⟨rfl, LTb384.out⟩⟩ | exact ⟨⟨by first | rfl | decide, by decide⟩⟩ | exact ⟨⟨rfl, fquo_lt (by assumption)⟩⟩)⟩
   ·rw [if_neg c15] at H
    exact absurd H Z44
  ·rw [if_neg c13] at H
   have c13b0 : (t370 == 1) = false := beq_eq_false_iff_ne.mpr c13
   have c13b1 : (t370 != 1) = true := bne_iff_ne.mpr c13
   (try simp only [c13b0, c13b1, Bool.not_true, Bool.not_false])
   by_cases c24 : t370 = 2
   ·rw [if_pos c24] at H
    have c24b0 : (t370 == 2) = true := beq_iff_eq.mpr c24
    have c24b1 : (t370 != 2) = false := bne_eq_false_iff_eq.mpr c24
    (try simp only [c24b0, c24b1, Bool.not_true, Bool.not_false])
    clear c24
    replace H := Option.bind_eq_some_iff.mp H
    obtain ⟨⟨t388, t389, t390⟩, A250, H⟩ := H
    (try dsimp only at H)
    have A25 := ZA A250
    clear A250
    repeat (first | ((fail_if_success (with_reducible refine gate_callee (f := 59) rfl ?_)); first | go_values | go_skip | go_guarded | go_step | go_upon | go_back | (simp only [Int.not_lt, Int.not_le] at *; go_simp)))
    (with_reducible refine gate_callee (f := 59) rfl ?_); refine goesL_ (some 25) rfl rfl Try.func59 Z12 rfl #[.pointer (some ⟨g, 0, none⟩), .int .i64 3] rfl Z1 ?_; (with_reducible refine (spec_l1Once.calls g s0_0 t371 t372 3 t388 t389 t390 w0 _ ?side1 ?side2 A25.out).mono ?_); (case side1 => repeat (first | (with_reducible first | exact HI0.out | apply IsS82.alloc | apply IsS82.drewN | apply IsS82.drew | apply IsS82.set_1 | apply IsS82.set_2 | refine IsS82.far ?_ NB0_369.out _) | exact HI0.out)); (case side2 => repeat (first | (with_reducible first | exact HB.out | apply h1 | apply h2 | apply h3 | refine h4 ?_ (IsS82.ge HI0.out) | refine h4 ?_ GE369.out) | exact HB.out)); rintro e w31 ⟨rfl, hi, hb, hk⟩; refine ⟨_, rfl, ?_⟩; have n0_ := ZA (KeepBut.blk hk (g' := gb369) (o := .cells #[.int .i64 0, .int .i64 0, .float .f64 0, .slice none 0 0] 72 (0, 0)) (bup BK369.out) NB369_0.out Z44); have n1_ := ZA (KeepBut.trans Z18 hk (.inl rfl)); have n2_ := ZA (hb); have n3_ := ZA (hi); clear BK369 HK HB HI0; have BK369 := n0_; have HK := n1_; have HB := n2_; have HI0 := n3_; clear n0_ n1_ n2_ n3_; (try clear hb); (try clear hb2); (try clear hk); (try clear hi)
    by_cases c26 : t388 = true
    ·subst c26
     rw [if_pos rfl] at H
     (try dsimp only at H)
     replace H := Option.bind_eq_some_iff.mp H
     obtain ⟨⟨t391, t392, t393⟩, A270, H⟩ := H
     (try dsimp only at H)
     have A27 := ZA A270
     clear A270
     replace H := Option.bind_eq_some_iff.mp H
     obtain ⟨⟨t394, t395, t396, t397⟩, A280, H⟩ := H
     (try dsimp only at H)
     have A28 := ZA A280
     clear A280
     simp only [Option.some.injEq, Prod.mk.injEq] at H
     obtain ⟨rfl, rfl, rfl, rfl, rfl, rfl⟩ := H
     try go_wp2_with (first | ((with_reducible refine gate_callee (f := 80) rfl ?_); refine goesL_ (some 27) rfl rfl Try.func80 Z12 rfl #[.pointer (some ⟨g, 0, none⟩)] rfl Z1 ?_; (with_reducible refine (spec_l2float.callsC k g s0_0 t389 t390 t391 t392 t393 w0 _ ?side1 ?side2 A27.out).mono ?_); (case side1 => repeat (first | (with_reducible first | exact HI0.out | apply IsS82.alloc | apply IsS82.drewN | apply IsS82.drew | apply IsS82.set_1 | apply IsS82.set_2 | refine IsS82.far ?_ NB0_369.out _) | exact HI0.out)); (case side2 => repeat (first | (with_reducible first | exact HB.out | apply h1 | apply h2 | apply h3 | refine h4 ?_ (IsS82.ge HI0.out) | refine h4 ?_ GE369.out) | exact HB.out)); rintro e w32 ⟨b391, rfl, hi, hb, hk, ⟨⟨hcnb391, hltb391⟩⟩⟩; refine ⟨_, rfl, ?_⟩; have LTb391 := ZA hltb391; clear hltb391; subst hcnb391; have n0_ := ZA (KeepBut.blk hk (g' := gb369) (o := .cells #[.int .i64 0, .int .i64 0, .float .f64 0, .slice none 0 0] 72 (0, 0)) (bup BK369.out) NB369_0.out Z44); have n1_ := ZA (KeepBut.trans Z18 hk (.inl rfl)); have n2_ := ZA (hb); have n3_ := ZA (hi); clear BK369 HK HB HI0; have BK369 := n0_; have HK := n1_; have HB := n2_; have HI0 := n3_; clear n0_ n1_ n2_ n3_; (try clear hb); (try clear hb2); (try clear hk); (try clear hi)) | ((with_reducible refine gate_callee (f := 79) rfl ?_); refine goesL_ (some 29) rfl rfl Try.func79 Z12 rfl #[.agg #[.int .i64 2, .int .i64 0, .float .f64 b391, .slice none 0 0]] rfl Z1 ?_; (refine (spec_ItemClean.callsC k 2 0 b391 _ _ ([] : List Int) t394 t395 t396 t397 _ ?side1 ?side2 LTb391.out A28.out).mono ?_); (case side1 => exact Kd.C_nil _ _); (case side2 => exact Nat.le_refl _); rintro e w33 ⟨b396, v398, rfl, ho0, hb, ⟨⟨hcnb396, hltb396⟩⟩⟩; refine ⟨_, rfl, ?_⟩; have LTb396 := ZA hltb396; clear hltb396; subst hcnb396; have n0_ := ZA (Kd.R_lower ho0 (keep_size (w := w) (g := g) (row := none) Z18)); have n1_ := ZA (IsS82.below (Z36) hb); have n2_ := ZA (blk_below (bup BK369.out) hb); have n3_ := ZA (KeepBut.trans Z18 (KeepBut.of_below hb g none) (.inl rfl)); have n4_ := ZA (below_step (Z49) hb); clear HI0 BK369 HK HB; have HO399 := n0_; have HI0 := n1_; have BK369 := n2_; have HK := n3_; have HB := n4_; clear n0_ n1_ n2_ n3_ n4_; (try clear hb); (try clear hb2); (try clear hk); (try clear hi); (try clear ho0); have hnb34 := NB369_0.out; have hnc34 := NB0_369.out; obtain ⟨hcz35_0, hcz35_1, hcz35_2, hcz35_3⟩ := blk_cells4 BK369.out; obtain ⟨hfz35_0, hfz35_1, hfz35_2, hfz35_3⟩ := blk_frozens4 BK369.out; obtain ⟨Ao36, co36, eo36⟩ := Kd.R_slice HO399.out; subst eo36))
     refine bodyPost_ret (results_cell_row rfl _ _ gb369 72 #[.int .i64 t394, .int .i64 t395, .float .f64 b396, .slice Ao36 t397.length co36] (0, 0) _ rfl (bput BK369.out) Try.underlying72 rfl Z12) rfl ?_
     exact ⟨_, _, by first | rfl | (simp [errW_none, errW_some] <;> rfl) | (simp [*, errW_none, errW_some] <;> rfl), by exact Kd.rup (Kd.R_mono (Kd.R_far (p := ⟨gb369, 3, none⟩) (Kd.R_far (p := ⟨gb369, 2, none⟩) (Kd.R_far (p := ⟨gb369, 1, none⟩) (Kd.R_far (p := ⟨gb369, 0, none⟩) (Kd.R_types HO399.out BK369.out Z25) (fun _ hk => hk.2) (.int .i64 t394)) (fun _ hk => hk.2) (.int .i64 t395)) (fun _ hk => hk.2) (.float .f64 b396)) (fun _ hk => hk.2) (.slice Ao36 t397.length co36)) (fun _ hk => trivial)), Z36, Z49, Z43, (by first | exact ⟨⟨rfl, LTb391.out⟩⟩ | exact ⟨⟨rfl, LTb396.out⟩⟩ | exact ⟨⟨by first | rfl | decide, by decide⟩⟩ | exact ⟨⟨rfl, fquo_lt (by assumption)⟩⟩)⟩
    ·replace c26 := Bool.eq_false_iff.mpr c26
     subst c26
     rw [if_neg (show ¬ (false = true) by decide)] at H
     (try dsimp only at H)
     replace H := Option.bind_eq_some_iff.mp H
     obtain ⟨⟨t400, t401, t402⟩, A370, H⟩ := H
     (try dsimp only at H)
     have A37 := ZA A370
     clear A370
     simp only [Option.some.injEq, Prod.mk.injEq] at H
     obtain ⟨rfl, rfl, rfl, rfl, rfl, rfl⟩ := H
     try go_wp2_with (first | ((with_reducible refine gate_callee (f := 63) rfl ?_); refine goesL_ (some 38) rfl rfl Try.func63 Z12 rfl #[.pointer (some ⟨g, 0, none⟩), .int .i64 6] rfl Z1 ?_; (with_reducible refine (spec_l1Below.calls g s0_0 t389 t390 6 t400 t401 t402 w0 _ ?side1 ?side2 A37.out).mono ?_); (case side1 => repeat (first | (with_reducible first | exact HI0.out | apply IsS82.alloc | apply IsS82.drewN | apply IsS82.drew | apply IsS82.set_1 | apply IsS82.set_2 | refine IsS82.far ?_ NB0_369.out _) | exact HI0.out)); (case side2 => repeat (first | (with_reducible first | exact HB.out | apply h1 | apply h2 | apply h3 | refine h4 ?_ (IsS82.ge HI0.out) | refine h4 ?_ GE369.out) | exact HB.out)); rintro e w41 ⟨rfl, hi, hb, hk⟩; refine ⟨_, rfl, ?_⟩; have n0_ := ZA (KeepBut.blk hk (g' := gb369) (o := .cells #[.int .i64 0, .int .i64 0, .float .f64 0, .slice none 0 0] 72 (0, 0)) (bup BK369.out) NB369_0.out Z44); have n1_ := ZA (KeepBut.trans Z18 hk (.inl rfl)); have n2_ := ZA (hb); have n3_ := ZA (hi); clear BK369 HK HB HI0; have BK369 := n0_; have HK := n1_; have HB := n2_; have HI0 := n3_; clear n0_ n1_ n2_ n3_; (try clear hb); (try clear hb2); (try clear hk); (try clear hi); have hnb42 := NB369_0.out; have hnc42 := NB0_369.out; obtain ⟨hcz43_0, hcz43_1, hcz43_2, hcz43_3⟩ := blk_cells4 BK369.out; obtain ⟨hfz43_0, hfz43_1, hfz43_2, hfz43_3⟩ := blk_frozens4 BK369.out))
     refine bodyPost_ret (results_cell_row rfl _ _ gb369 72 #[.int .i64 1, .int .i64 (wrap64 (t400 - 1)), .float .f64 0, .slice none 0 0] (0, 0) _ rfl (bput BK369.out) Try.underlying72 rfl Z12) rfl ?_
     exact ⟨_, _, by first | rfl | (simp [errW_none, errW_some] <;> rfl) | (simp [*, errW_none, errW_some] <;> rfl), by first | exact Kd.R_nil _ _ _ _ _ | exact Kd.N_nil _ _ _ _ _ | exact Kd.V_nil _ _ _ _ _ | exact Kd.Q_nil _ _ _ _ _ | exact Kd.S_nil _ _ _ _ _, Z36, Z49, Z43, Z52⟩
   ·rw [if_neg c24] at H
    have c24b0 : (t370 == 2) = false := beq_eq_false_iff_ne.mpr c24
    have c24b1 : (t370 != 2) = true := bne_iff_ne.mpr c24
    (try simp only [c24b0, c24b1, Bool.not_true, Bool.not_false])
    by_cases c44 : t370 = 3
    ·rw [if_pos c44] at H
     have c44b0 : (t370 == 3) = true := beq_iff_eq.mpr c44
     have c44b1 : (t370 != 3) = false := bne_eq_false_iff_eq.mpr c44
     (try simp only [c44b0, c44b1, Bool.not_true, Bool.not_false])
     clear c44
     replace H := Option.bind_eq_some_iff.mp H
     obtain ⟨⟨t403, t404, t405⟩, A450, H⟩ := H
     (try dsimp only at H)
     have A45 := ZA A450
     clear A450
     repeat (first | ((fail_if_success (with_reducible refine gate_callee (f := 59) rfl ?_)); first | go_values | go_skip | go_guarded | go_step | go_upon | go_back | (simp only [Int.not_lt, Int.not_le] at *; go_simp)))
     (with_reducible refine gate_callee (f := 59) rfl ?_); refine goesL_ (some 33) rfl rfl Try.func59 Z12 rfl #[.pointer (some ⟨g, 0, none⟩), .int .i64 4] rfl Z1 ?_; (with_reducible refine (spec_l1Once.calls g s0_0 t371 t372 4 t403 t404 t405 w0 _ ?side1 ?side2 A45.out).mono ?_); (case side1 => repeat (first | (with_reducible first | exact HI0.out | apply IsS82.alloc | apply IsS82.drewN | apply IsS82.drew | apply IsS82.set_1 | apply IsS82.set_2 | refine IsS82.far ?_ NB0_369.out _) | exact HI0.out)); (case side2 => repeat (first | (with_reducible first | exact HB.out | apply h1 | apply h2 | apply h3 | refine h4 ?_ (IsS82.ge HI0.out) | refine h4 ?_ GE369.out) | exact HB.out)); rintro e w50 ⟨rfl, hi, hb, hk⟩; refine ⟨_, rfl, ?_⟩; have n0_ := ZA (KeepBut.blk hk (g' := gb369) (o := .cells #[.int .i64 0, .int .i64 0, .float .f64 0, .slice none 0 0] 72 (0, 0)) (bup BK369.out) NB369_0.out Z44); have n1_ := ZA (KeepBut.trans Z18 hk (.inl rfl)); have n2_ := ZA (hb); have n3_ := ZA (hi); clear BK369 HK HB HI0; have BK369 := n0_; have HK := n1_; have HB := n2_; have HI0 := n3_; clear n0_ n1_ n2_ n3_; (try clear hb); (try clear hb2); (try clear hk); (try clear hi)
     by_cases c46 : t403 = true
     ·subst c46
      rw [if_pos rfl] at H
      (try dsimp only at H)
      replace H := Option.bind_eq_some_iff.mp H
      obtain ⟨⟨t406, t409, t410⟩, A470, H⟩ := H
      (try dsimp only at H)
      have A47 := ZA A470
      clear A470
      simp only [Option.some.injEq, Prod.mk.injEq] at H
      obtain ⟨rfl, rfl, rfl, rfl, rfl, rfl⟩ := H
      try go_wp2_with (first | ((with_reducible refine gate_callee (f := 67) rfl ?_); refine goesL_ (some 35) rfl rfl Try.func67 Z12 rfl #[.pointer (some ⟨g, 0, none⟩), .int .i64 40] rfl Z1 ?_; (with_reducible refine (spec_l1some.calls k g s0_0 t404 t405 40 t406 t409 t410 w0 _ ?side1 ?side2 A47.out).mono ?_); (case side1 => repeat (first | (with_reducible first | exact HI0.out | apply IsS82.alloc | apply IsS82.drewN | apply IsS82.drew | apply IsS82.set_1 | apply IsS82.set_2 | refine IsS82.far ?_ NB0_369.out _) | exact HI0.out)); (case side2 => repeat (first | (with_reducible first | exact HB.out | apply h1 | apply h2 | apply h3 | refine h4 ?_ (IsS82.ge HI0.out) | refine h4 ?_ GE369.out) | exact HB.out)); rintro e w51 ⟨v407, rfl, ho0, hi, hb, hk⟩; refine ⟨_, rfl, ?_⟩; have n0_ := ZA (KeepBut.blk hk (g' := gb369) (o := .cells #[.int .i64 0, .int .i64 0, .float .f64 0, .slice none 0 0] 72 (0, 0)) (bup BK369.out) NB369_0.out Z44); have n1_ := ZA (Kd.R_lower ho0 (keep_size (w := w) (g := g) (row := none) Z18)); have n2_ := ZA (KeepBut.trans Z18 hk (.inl rfl)); have n3_ := ZA (hb); have n4_ := ZA (hi); clear BK369 HK HB HI0; have BK369 := n0_; have HO408 := n1_; have HK := n2_; have HB := n3_; have HI0 := n4_; clear n0_ n1_ n2_ n3_ n4_; (try clear hb); (try clear hb2); (try clear hk); (try clear hi); (try clear ho0); obtain ⟨Ao52, co52, eo52⟩ := Kd.R_slice HO408.out; subst eo52; have hnb53 := NB369_0.out; have hnc53 := NB0_369.out; obtain ⟨hcz54_0, hcz54_1, hcz54_2, hcz54_3⟩ := blk_cells4 BK369.out; obtain ⟨hfz54_0, hfz54_1, hfz54_2, hfz54_3⟩ := blk_frozens4 BK369.out))
      refine bodyPost_ret (results_cell_row rfl _ _ gb369 72 #[.int .i64 3, .int .i64 0, .float .f64 0, .slice Ao52 t406.length co52] (0, 0) _ rfl (bput BK369.out) Try.underlying72 rfl Z12) rfl ?_
      exact ⟨_, _, by first | rfl | (simp [errW_none, errW_some] <;> rfl) | (simp [*, errW_none, errW_some] <;> rfl), by exact Kd.rup (Kd.R_mono (Kd.R_far (p := ⟨gb369, 3, none⟩) (Kd.R_far (p := ⟨gb369, 2, none⟩) (Kd.R_far (p := ⟨gb369, 1, none⟩) (Kd.R_far (p := ⟨gb369, 0, none⟩) (Kd.R_types HO408.out BK369.out Z25) (fun _ hk => hk.2) (.int .i64 3)) (fun _ hk => hk.2) (.int .i64 0)) (fun _ hk => hk.2) (.float .f64 0)) (fun _ hk => hk.2) (.slice Ao52 t406.length co52)) (fun _ hk => trivial)), Z36, Z49, Z43, Z52⟩
     ·replace c46 := Bool.eq_false_iff.mpr c46
      subst c46
      rw [if_neg (show ¬ (false = true) by decide)] at H
      (try dsimp only at H)
      replace H := Option.bind_eq_some_iff.mp H
      obtain ⟨⟨t411, t412, t413⟩, A550, H⟩ := H
      (try dsimp only at H)
      have A55 := ZA A550
      clear A550
      simp only [Option.some.injEq, Prod.mk.injEq] at H
      obtain ⟨rfl, rfl, rfl, rfl, rfl, rfl⟩ := H
      try go_wp2_with (first | ((with_reducible refine gate_callee (f := 63) rfl ?_); refine goesL_ (some 38) rfl rfl Try.func63 Z12 rfl #[.pointer (some ⟨g, 0, none⟩), .int .i64 6] rfl Z1 ?_; (with_reducible refine (spec_l1Below.calls g s0_0 t404 t405 6 t411 t412 t413 w0 _ ?side1 ?side2 A55.out).mono ?_); (case side1 => repeat (first | (with_reducible first | exact HI0.out | apply IsS82.alloc | apply IsS82.drewN | apply IsS82.drew | apply IsS82.set_1 | apply IsS82.set_2 | refine IsS82.far ?_ NB0_369.out _) | exact HI0.out)); (case side2 => repeat (first | (with_reducible first | exact HB.out | apply h1 | apply h2 | apply h3 | refine h4 ?_ (IsS82.ge HI0.out) | refine h4 ?_ GE369.out) | exact HB.out)); rintro e w59 ⟨rfl, hi, hb, hk⟩; refine ⟨_, rfl, ?_⟩; have n0_ := ZA (KeepBut.blk hk (g' := gb369) (o := .cells #[.int .i64 0, .int .i64 0, .float .f64 0, .slice none 0 0] 72 (0, 0)) (bup BK369.out) NB369_0.out Z44); have n1_ := ZA (KeepBut.trans Z18 hk (.inl rfl)); have n2_ := ZA (hb); have n3_ := ZA (hi); clear BK369 HK HB HI0; have BK369 := n0_; have HK := n1_; have HB := n2_; have HI0 := n3_; clear n0_ n1_ n2_ n3_; (try clear hb); (try clear hb2); (try clear hk); (try clear hi); have hnb60 := NB369_0.out; have hnc60 := NB0_369.out; obtain ⟨hcz61_0, hcz61_1, hcz61_2, hcz61_3⟩ := blk_cells4 BK369.out; obtain ⟨hfz61_0, hfz61_1, hfz61_2, hfz61_3⟩ := blk_frozens4 BK369.out))
      refine bodyPost_ret (results_cell_row rfl _ _ gb369 72 #[.int .i64 1, .int .i64 (wrap64 (t411 - 1)), .float .f64 0, .slice none 0 0] (0, 0) _ rfl (bput BK369.out) Try.underlying72 rfl Z12) rfl ?_
      exact ⟨_, _, by first | rfl | (simp [errW_none, errW_some] <;> rfl) | (simp [*, errW_none, errW_some] <;> rfl), by first | exact Kd.R_nil _ _ _ _ _ | exact Kd.N_nil _ _ _ _ _ | exact Kd.V_nil _ _ _ _ _ | exact Kd.Q_nil _ _ _ _ _ | exact Kd.S_nil _ _ _ _ _, Z36, Z49, Z43, Z52⟩
    ·rw [if_neg c44] at H
     have c44b0 : (t370 == 3) = false := beq_eq_false_iff_ne.mpr c44
     have c44b1 : (t370 != 3) = true := bne_iff_ne.mpr c44
     (try simp only [c44b0, c44b1, Bool.not_true, Bool.not_false])
     replace H := Option.bind_eq_some_iff.mp H
     obtain ⟨⟨t414, t415, t416⟩, A620, H⟩ := H
     (try dsimp only at H)
     have A62 := ZA A620
     clear A620
     simp only [Option.some.injEq, Prod.mk.injEq] at H
     obtain ⟨rfl, rfl, rfl, rfl, rfl, rfl⟩ := H
     try go_wp2_with (first | ((with_reducible refine gate_callee (f := 63) rfl ?_); refine goesL_ (some 38) rfl rfl Try.func63 Z12 rfl #[.pointer (some ⟨g, 0, none⟩), .int .i64 6] rfl Z1 ?_; (with_reducible refine (spec_l1Below.calls g s0_0 t371 t372 6 t414 t415 t416 w0 _ ?side1 ?side2 A62.out).mono ?_); (case side1 => repeat (first | (with_reducible first | exact HI0.out | apply IsS82.alloc | apply IsS82.drewN | apply IsS82.drew | apply IsS82.set_1 | apply IsS82.set_2 | refine IsS82.far ?_ NB0_369.out _) | exact HI0.out)); (case side2 => repeat (first | (with_reducible first | exact HB.out | apply h1 | apply h2 | apply h3 | refine h4 ?_ (IsS82.ge HI0.out) | refine h4 ?_ GE369.out) | exact HB.out)); rintro e w65 ⟨rfl, hi, hb, hk⟩; refine ⟨_, rfl, ?_⟩; have n0_ := ZA (KeepBut.blk hk (g' := gb369) (o := .cells #[.int .i64 0, .int .i64 0, .float .f64 0, .slice none 0 0] 72 (0, 0)) (bup BK369.out) NB369_0.out Z44); have n1_ := ZA (KeepBut.trans Z18 hk (.inl rfl)); have n2_ := ZA (hb); have n3_ := ZA (hi); clear BK369 HK HB HI0; have BK369 := n0_; have HK := n1_; have HB := n2_; have HI0 := n3_; clear n0_ n1_ n2_ n3_; (try clear hb); (try clear hb2); (try clear hk); (try clear hi); have hnb66 := NB369_0.out; have hnc66 := NB0_369.out; obtain ⟨hcz67_0, hcz67_1, hcz67_2, hcz67_3⟩ := blk_cells4 BK369.out; obtain ⟨hfz67_0, hfz67_1, hfz67_2, hfz67_3⟩ := blk_frozens4 BK369.out))
     refine bodyPost_ret (results_cell_row rfl _ _ gb369 72 #[.int .i64 1, .int .i64 (wrap64 (t414 - 1)), .float .f64 0, .slice none 0 0] (0, 0) _ rfl (bput BK369.out) Try.underlying72 rfl Z12) rfl ?_
     exact ⟨_, _, by first | rfl | (simp [errW_none, errW_some] <;> rfl) | (simp [*, errW_none, errW_some] <;> rfl), by first | exact Kd.R_nil _ _ _ _ _ | exact Kd.N_nil _ _ _ _ _ | exact Kd.V_nil _ _ _ _ _ | exact Kd.Q_nil _ _ _ _ _ | exact Kd.S_nil _ _ _ _ _, Z36, Z49, Z43, Z52⟩
end Go.Proofs.Ytokpniagnbaflaa.PFnPlaces
