-- By this session's own program (wip/xprint.py), over the kit's print.
import Derived.Test.YtkbclccnnllddaaPFnExactLogScanx0
import Derived.Test.YtkbclccnnllddaaPFnExactLogScanx1
import Derived.Test.YtkbclccnnllddaaPFnExactLogScanx3
import Derived.Test.YtkbclccnnllddaaPFnExactLogScanx6
namespace Go.Proofs.Ytkbclccnnllddaa.PFnExactLogScan
open Go.RowKit Go.Proofs.YtkbclccnnllddaaW.PrintWords Go.Proofs.YtkbclccnnllddaaW.PrintLast Go.Proofs.YtkbclccnnllddaaW.PrintMore
attribute [local go_sem] max2_int min2_int max_two min_two max_three min_three max_four min_four   -- for this text's walks alone
attribute [local go_sem high] fl_eql fl_neq fl_lss fl_leq fl_gtr fl_geq fl_add fl_sub fl_mul fl_quo fl_neg fl_ofInt fl_toInt fl_store
set_option linter.unusedVariables false
set_option linter.unusedSimpArgs false

/-! ### laws_heldByteS: function 18 -/
def laws_heldByteS.l0 : Nat → List Int → Int → Int → Option (Int)
  | 0, _, _, _ => none
  | k + 1, x0, x1, x5 => if x5 < (x0.length : Int) then (if 0 ≤ x5 then (if (rd x0 x5) = ((x1) % 256) then (laws_heldByteS.l0 k x0 (wrap64 (x1 + 1)) (wrap64 (x5 + 1))) else (some (-1))) else (none)) else (some x1)
def laws_heldByteS.f (k : Nat) (l0 : List Int) (a1 : Int) : Option (Int) := laws_heldByteS.l0 k l0 a1 0
theorem laws_heldByteS.mono_l : ∀ k, (∀ y0 y1 y2, LeO (laws_heldByteS.l0 k y0 y1 y2) (laws_heldByteS.l0 (k + 1) y0 y1 y2))
  | 0 => fun _ _ _ r h => by simp [laws_heldByteS.l0] at h
  | k + 1 => by
    have ih0 := laws_heldByteS.mono_l k
    · intro y0 y1 y2
      unfold laws_heldByteS.l0
      repeat' first
      | (with_reducible exact ih0 _ _ _)
      | (with_reducible exact LeO.refl _)
      | (with_reducible exact LeO.none _)
      | (with_reducible refine LeO.ite ?_ ?_)
      | (with_reducible refine LeO.bind ?_ (fun _ => ?_))
      | exact ih0 _ _ _
      | exact LeO.none _
      | refine LeO.ite ?_ ?_
      | refine LeO.bind ?_ (fun _ => ?_)
theorem laws_heldByteS.mono : ∀ a0 a1 k, LeO (laws_heldByteS.f k a0 a1) (laws_heldByteS.f (k + 1) a0 a1) := by
  intro a0 a1 k
  have ih0 := laws_heldByteS.mono_l k
  unfold laws_heldByteS.f
  repeat' first
      | (with_reducible exact ih0 _ _ _)
      | (with_reducible exact LeO.refl _)
      | (with_reducible exact LeO.none _)
      | (with_reducible refine LeO.ite ?_ ?_)
      | (with_reducible refine LeO.bind ?_ (fun _ => ?_))
      | exact ih0 _ _ _
      | exact LeO.none _
      | refine LeO.ite ?_ ?_
      | refine LeO.bind ?_ (fun _ => ?_)
set_option maxHeartbeats 8000000 in
set_option maxRecDepth 100000 in
theorem laws_heldByteS.calls (k : Nat) (A0 : Option Addr) (c0 : Nat) (l0 : List Int) (a1 : Int) (r : Int) (w : World) (hr0 : Kd.C (Kd.int .u8) w A0 l0.length l0) (hc0 : l0.length ≤ c0) (h : laws_heldByteS.f k l0 a1 = some r) :
    Calls Try.prog 18 #[.slice A0 l0.length c0, .int .i64 a1] w fun e w' => e = .returned (.int .i64 r) ∧ Drawn0 w w' := by
  have HR0 := Aside0.mk hr0
  have HC0 := Aside0.mk hc0
  clear hr0 hc0
  have H : (laws_heldByteS.l0 k l0 a1 0) = some r := h
  clear h
  have H' := Aside0.mk H
  clear H
  go_enter Try.func18, Try.ntmps18
  go_wp2
  go_loopg [1, 5] k (fun kq v1 v5 w' => ∃ (x1_1 : Int) (x5_1 : Int), v1 = .int .i64 x1_1 ∧ v5 = .int .i64 x5_1 ∧ Aside0 (laws_heldByteS.l0 kq l0 x1_1 x5_1 = some r) ∧ Aside0 (kq ≤ k) ∧ Drawn0 w w')
  case atStart => exact ⟨(a1), (0), (by first | rfl | (simp; done) | (simp [*]; done)), (by first | rfl | (simp; done) | (simp [*]; done)), H', ⟨Nat.le_refl _⟩, by repeat (first | exact Drawn0.refl _ | apply Drawn0.step)⟩
  case round =>
    clear H'
    try clear c1
    try clear p2
    obtain ⟨x1_1, x5_1, rfl, rfl, HA, HK1, ⟨m1, rfl⟩⟩ := hrel
    cases gk with
    | zero => exact absurd HA.out (by simp [laws_heldByteS.l0])
    | succ k1 =>
      have H := HA.out
      clear HA
      simp only [laws_heldByteS.l0] at H
      by_cases c3 : x5_1 < (l0.length : Int)
      · rw [if_pos c3] at H
        have c3b0 : decide (x5_1 < (l0.length : Int)) = true := decide_eq_true c3
        clear c3
        by_cases c4 : 0 ≤ x5_1
        · rw [if_pos c4] at H
          have c4b0 : decide (0 ≤ x5_1) = true := decide_eq_true c4
          clear c4
          by_cases c5 : (rd l0 x5_1) = ((x1_1) % 256)
          · rw [if_pos c5] at H
            have c5b0 : ((rd l0 x5_1) == ((x1_1) % 256)) = true := beq_iff_eq.mpr c5
            have c5b1 : ((rd l0 x5_1) != ((x1_1) % 256)) = false := bne_eq_false_iff_eq.mpr c5
            clear c5
            have H' := Aside0.mk H
            clear H
            have p253 : 0 ≤ (x5_1 : Int) := of_decide_eq_true (by first | (with_reducible assumption) | assumption)
            have q253 : x5_1 < (l0.length : Int) := of_decide_eq_true (by first | (with_reducible assumption) | assumption)
            obtain ⟨ad253, e253, hx253_0⟩ := Kd.at_int HR0.out x5_1 p253 q253
            cases e253
            replace p253 := eq_true p253
            replace q253 := eq_true q253
            go_wp2
            go_roundg k1
            case measure => have := HK1.out; omega
            case rel => exact ⟨(wrap64 (x1_1 + 1)), (wrap64 (x5_1 + 1)), (by first | rfl | (simp; done) | (simp [*]; done)), (by first | rfl | (simp; done) | (simp [*]; done)), H', ⟨by have := HK1.out; omega⟩, by repeat (first | exact Drawn0.refl _ | apply Drawn0.step)⟩
          · rw [if_neg c5] at H
            have c5b0 : ((rd l0 x5_1) == ((x1_1) % 256)) = false := beq_eq_false_iff_ne.mpr c5
            have c5b1 : ((rd l0 x5_1) != ((x1_1) % 256)) = true := bne_iff_ne.mpr c5
            obtain rfl := Option.some.inj H
            have p253 : 0 ≤ (x5_1 : Int) := of_decide_eq_true (by first | (with_reducible assumption) | assumption)
            have q253 : x5_1 < (l0.length : Int) := of_decide_eq_true (by first | (with_reducible assumption) | assumption)
            obtain ⟨ad253, e253, hx253_0⟩ := Kd.at_int HR0.out x5_1 p253 q253
            cases e253
            replace p253 := eq_true p253
            replace q253 := eq_true q253
            go_wp2
            go_ret
            exact ⟨by first | rfl | (simp; done) | (simp [*]; done), by repeat (first | exact Drawn0.refl _ | apply Drawn0.step)⟩
        · rw [if_neg c4] at H
          exact absurd H (by simp)
      · rw [if_neg c3] at H
        have c3b0 : decide (x5_1 < (l0.length : Int)) = false := decide_eq_false c3
        clear c3
        obtain rfl := Option.some.inj H
        go_wp2
        go_ret
        exact ⟨by first | rfl | (simp; done) | (simp [*]; done), by repeat (first | exact Drawn0.refl _ | apply Drawn0.step)⟩

/-! ### laws_heldRecordS: function 36 -/
def laws_heldRecordS.l0 : Nat → List (S37) → Int → Int → Option (Int)
  | 0, _, _, _ => none
  | k + 1, x0, x1, x5 => if x5 < (x0.length : Int) then (if 0 ≤ x5 then (if ((rd_T37 x0 x5).f0) = x1 then (if ((rd_T37 x0 x5).f1) = (wrap64 (x1 + 1)) then (if ((rd_T37 x0 x5).f2) = (wrap64 ((wrap64 (x1 + 1)) + 1)) then (if ((rd_T37 x0 x5).f3) = (wrap64 ((wrap64 ((wrap64 (x1 + 1)) + 1)) + 1)) then (if ((rd_T37 x0 x5).f4) = (wrap64 ((wrap64 ((wrap64 ((wrap64 (x1 + 1)) + 1)) + 1)) + 1)) then ((laws_heldByteS.f k ((rd_T37 x0 x5).f5) (wrap64 ((wrap64 ((wrap64 ((wrap64 ((wrap64 (x1 + 1)) + 1)) + 1)) + 1)) + 1))).bind fun t260 => (if t260 < 0 then (some (-1)) else (laws_heldRecordS.l0 k x0 t260 (wrap64 (x5 + 1))))) else (some (-1))) else (some (-1))) else (some (-1))) else (some (-1))) else (some (-1))) else (none)) else (some x1)
def laws_heldRecordS.f (k : Nat) (l0 : List (S37)) (a1 : Int) : Option (Int) := laws_heldRecordS.l0 k l0 a1 0
theorem laws_heldRecordS.mono_l : ∀ k, (∀ y0 y1 y2, LeO (laws_heldRecordS.l0 k y0 y1 y2) (laws_heldRecordS.l0 (k + 1) y0 y1 y2))
  | 0 => fun _ _ _ r h => by simp [laws_heldRecordS.l0] at h
  | k + 1 => by
    have ih0 := laws_heldRecordS.mono_l k
    · intro y0 y1 y2
      unfold laws_heldRecordS.l0
      repeat' first
      | (with_reducible exact ih0 _ _ _)
      | (with_reducible exact laws_heldByteS.mono _ _ _)
      | (with_reducible exact LeO.refl _)
      | (with_reducible exact LeO.none _)
      | (with_reducible refine LeO.ite ?_ ?_)
      | (with_reducible refine LeO.bind ?_ (fun _ => ?_))
      | exact ih0 _ _ _
      | exact laws_heldByteS.mono _ _ _
      | exact LeO.none _
      | refine LeO.ite ?_ ?_
      | refine LeO.bind ?_ (fun _ => ?_)
theorem laws_heldRecordS.mono : ∀ a0 a1 k, LeO (laws_heldRecordS.f k a0 a1) (laws_heldRecordS.f (k + 1) a0 a1) := by
  intro a0 a1 k
  have ih0 := laws_heldRecordS.mono_l k
  unfold laws_heldRecordS.f
  repeat' first
      | (with_reducible exact ih0 _ _ _)
      | (with_reducible exact laws_heldByteS.mono _ _ _)
      | (with_reducible exact LeO.refl _)
      | (with_reducible exact LeO.none _)
      | (with_reducible refine LeO.ite ?_ ?_)
      | (with_reducible refine LeO.bind ?_ (fun _ => ?_))
      | exact ih0 _ _ _
      | exact laws_heldByteS.mono _ _ _
      | exact LeO.none _
      | refine LeO.ite ?_ ?_
      | refine LeO.bind ?_ (fun _ => ?_)
set_option maxHeartbeats 8000000 in
set_option maxRecDepth 100000 in
theorem laws_heldRecordS.calls (k : Nat) (A0 : Option Addr) (c0 : Nat) (l0 : List (S37)) (a1 : Int) (r : Int) (w : World) (hr0 : Kd.C k37 w A0 l0.length l0) (hc0 : l0.length ≤ c0) (h : laws_heldRecordS.f k l0 a1 = some r) :
    Calls Try.prog 36 #[.slice A0 l0.length c0, .int .i64 a1] w fun e w' => e = .returned (.int .i64 r) ∧ Drawn0 w w' := by
  have HR0 := Aside0.mk hr0
  have HC0 := Aside0.mk hc0
  clear hr0 hc0
  have H : (laws_heldRecordS.l0 k l0 a1 0) = some r := h
  clear h
  have H' := Aside0.mk H
  clear H
  go_enter Try.func36, Try.ntmps36
  go_wp2
  go_loopg [1, 5] k (fun kq v1 v5 w' => ∃ (x1_1 : Int) (x5_1 : Int), v1 = .int .i64 x1_1 ∧ v5 = .int .i64 x5_1 ∧ Aside0 (laws_heldRecordS.l0 kq l0 x1_1 x5_1 = some r) ∧ Aside0 (kq ≤ k) ∧ Drawn0 w w')
  case atStart => exact ⟨(a1), (0), (by first | rfl | (simp; done) | (simp [*]; done)), (by first | rfl | (simp; done) | (simp [*]; done)), H', ⟨Nat.le_refl _⟩, by repeat (first | exact Drawn0.refl _ | apply Drawn0.step)⟩
  case round =>
    clear H'
    try clear p2
    obtain ⟨x1_1, x5_1, rfl, rfl, HA, HK1, ⟨m1, rfl⟩⟩ := hrel
    cases gk with
    | zero => exact absurd HA.out (by simp [laws_heldRecordS.l0])
    | succ k1 =>
      have H := HA.out
      clear HA
      simp only [laws_heldRecordS.l0] at H
      by_cases c3 : x5_1 < (l0.length : Int)
      · rw [if_pos c3] at H
        have c3b0 : decide (x5_1 < (l0.length : Int)) = true := decide_eq_true c3
        clear c3
        by_cases c4 : 0 ≤ x5_1
        · rw [if_pos c4] at H
          have c4b0 : decide (0 ≤ x5_1) = true := decide_eq_true c4
          clear c4
          by_cases c5 : ((rd_T37 l0 x5_1).f0) = x1_1
          · rw [if_pos c5] at H
            have c5b0 : (((rd_T37 l0 x5_1).f0) == x1_1) = true := beq_iff_eq.mpr c5
            have c5b1 : (((rd_T37 l0 x5_1).f0) != x1_1) = false := bne_eq_false_iff_eq.mpr c5
            clear c5
            by_cases c6 : ((rd_T37 l0 x5_1).f1) = (wrap64 (x1_1 + 1))
            · rw [if_pos c6] at H
              have c6b0 : (((rd_T37 l0 x5_1).f1) == (wrap64 (x1_1 + 1))) = true := beq_iff_eq.mpr c6
              have c6b1 : (((rd_T37 l0 x5_1).f1) != (wrap64 (x1_1 + 1))) = false := bne_eq_false_iff_eq.mpr c6
              clear c6
              by_cases c7 : ((rd_T37 l0 x5_1).f2) = (wrap64 ((wrap64 (x1_1 + 1)) + 1))
              · rw [if_pos c7] at H
                have c7b0 : (((rd_T37 l0 x5_1).f2) == (wrap64 ((wrap64 (x1_1 + 1)) + 1))) = true := beq_iff_eq.mpr c7
                have c7b1 : (((rd_T37 l0 x5_1).f2) != (wrap64 ((wrap64 (x1_1 + 1)) + 1))) = false := bne_eq_false_iff_eq.mpr c7
                clear c7
                by_cases c8 : ((rd_T37 l0 x5_1).f3) = (wrap64 ((wrap64 ((wrap64 (x1_1 + 1)) + 1)) + 1))
                · rw [if_pos c8] at H
                  have c8b0 : (((rd_T37 l0 x5_1).f3) == (wrap64 ((wrap64 ((wrap64 (x1_1 + 1)) + 1)) + 1))) = true := beq_iff_eq.mpr c8
                  have c8b1 : (((rd_T37 l0 x5_1).f3) != (wrap64 ((wrap64 ((wrap64 (x1_1 + 1)) + 1)) + 1))) = false := bne_eq_false_iff_eq.mpr c8
                  clear c8
                  by_cases c9 : ((rd_T37 l0 x5_1).f4) = (wrap64 ((wrap64 ((wrap64 ((wrap64 (x1_1 + 1)) + 1)) + 1)) + 1))
                  · rw [if_pos c9] at H
                    have c9b0 : (((rd_T37 l0 x5_1).f4) == (wrap64 ((wrap64 ((wrap64 ((wrap64 (x1_1 + 1)) + 1)) + 1)) + 1))) = true := beq_iff_eq.mpr c9
                    have c9b1 : (((rd_T37 l0 x5_1).f4) != (wrap64 ((wrap64 ((wrap64 ((wrap64 (x1_1 + 1)) + 1)) + 1)) + 1))) = false := bne_eq_false_iff_eq.mpr c9
                    clear c9
                    replace H := Option.bind_eq_some_iff.mp H
                    obtain ⟨t260, A100, H⟩ := H
                    replace H : (if t260 < 0 then (some (-1)) else (laws_heldRecordS.l0 k1 l0 t260 (wrap64 (x5_1 + 1)))) = some r := H
                    have A10 := Aside0.mk A100
                    clear A100
                    by_cases c11 : t260 < 0
                    · rw [if_pos c11] at H
                      have c11b0 : decide (t260 < 0) = true := decide_eq_true c11
                      clear c11
                      obtain rfl := Option.some.inj H
                      have p254 : 0 ≤ (x5_1 : Int) := of_decide_eq_true (by first | (with_reducible assumption) | assumption)
                      have q254 : x5_1 < (l0.length : Int) := of_decide_eq_true (by first | (with_reducible assumption) | assumption)
                      obtain ⟨ad254, A254_5, c254_5, e254, hx254_0, hx254_1, hx254_2, hx254_3, hx254_4, hx254_5, hl254_5, hi254_5⟩ := at_T37 HR0.out x5_1 p254 q254
                      cases e254
                      have HR254_5 := Aside0.mk hi254_5
                      have HC254_5 := Aside0.mk hl254_5
                      clear hi254_5 hl254_5
                      replace p254 := eq_true p254
                      replace q254 := eq_true q254
                      have p255 : 0 ≤ (x5_1 : Int) := of_decide_eq_true (by first | (with_reducible assumption) | assumption)
                      have q255 : x5_1 < (l0.length : Int) := of_decide_eq_true (by first | (with_reducible assumption) | assumption)
                      obtain ⟨ad255, A255_5, c255_5, e255, hx255_0, hx255_1, hx255_2, hx255_3, hx255_4, hx255_5, hl255_5, hi255_5⟩ := at_T37 HR0.out x5_1 p255 q255
                      obtain rfl : ad254 = ad255 := (by injection e255)
                      have HR255_5 := Aside0.mk hi255_5
                      have HC255_5 := Aside0.mk hl255_5
                      clear hi255_5 hl255_5
                      replace p255 := eq_true p255
                      replace q255 := eq_true q255
                      have ea_ := Option.some.inj (hx254_5.symm.trans hx255_5)
                      injection ea_ with ea_ en_ ec_
                      subst ea_
                      subst ec_
                      clear en_
                      have p256 : 0 ≤ (x5_1 : Int) := of_decide_eq_true (by first | (with_reducible assumption) | assumption)
                      have q256 : x5_1 < (l0.length : Int) := of_decide_eq_true (by first | (with_reducible assumption) | assumption)
                      obtain ⟨ad256, A256_5, c256_5, e256, hx256_0, hx256_1, hx256_2, hx256_3, hx256_4, hx256_5, hl256_5, hi256_5⟩ := at_T37 HR0.out x5_1 p256 q256
                      obtain rfl : ad254 = ad256 := (by injection e256)
                      have HR256_5 := Aside0.mk hi256_5
                      have HC256_5 := Aside0.mk hl256_5
                      clear hi256_5 hl256_5
                      replace p256 := eq_true p256
                      replace q256 := eq_true q256
                      have ea_ := Option.some.inj (hx254_5.symm.trans hx256_5)
                      injection ea_ with ea_ en_ ec_
                      subst ea_
                      subst ec_
                      clear en_
                      have p257 : 0 ≤ (x5_1 : Int) := of_decide_eq_true (by first | (with_reducible assumption) | assumption)
                      have q257 : x5_1 < (l0.length : Int) := of_decide_eq_true (by first | (with_reducible assumption) | assumption)
                      obtain ⟨ad257, A257_5, c257_5, e257, hx257_0, hx257_1, hx257_2, hx257_3, hx257_4, hx257_5, hl257_5, hi257_5⟩ := at_T37 HR0.out x5_1 p257 q257
                      obtain rfl : ad254 = ad257 := (by injection e257)
                      have HR257_5 := Aside0.mk hi257_5
                      have HC257_5 := Aside0.mk hl257_5
                      clear hi257_5 hl257_5
                      replace p257 := eq_true p257
                      replace q257 := eq_true q257
                      have ea_ := Option.some.inj (hx254_5.symm.trans hx257_5)
                      injection ea_ with ea_ en_ ec_
                      subst ea_
                      subst ec_
                      clear en_
                      have p258 : 0 ≤ (x5_1 : Int) := of_decide_eq_true (by first | (with_reducible assumption) | assumption)
                      have q258 : x5_1 < (l0.length : Int) := of_decide_eq_true (by first | (with_reducible assumption) | assumption)
                      obtain ⟨ad258, A258_5, c258_5, e258, hx258_0, hx258_1, hx258_2, hx258_3, hx258_4, hx258_5, hl258_5, hi258_5⟩ := at_T37 HR0.out x5_1 p258 q258
                      obtain rfl : ad254 = ad258 := (by injection e258)
                      have HR258_5 := Aside0.mk hi258_5
                      have HC258_5 := Aside0.mk hl258_5
                      clear hi258_5 hl258_5
                      replace p258 := eq_true p258
                      replace q258 := eq_true q258
                      have ea_ := Option.some.inj (hx254_5.symm.trans hx258_5)
                      injection ea_ with ea_ en_ ec_
                      subst ea_
                      subst ec_
                      clear en_
                      have p259 : 0 ≤ (x5_1 : Int) := of_decide_eq_true (by first | (with_reducible assumption) | assumption)
                      have q259 : x5_1 < (l0.length : Int) := of_decide_eq_true (by first | (with_reducible assumption) | assumption)
                      obtain ⟨ad259, A259_5, c259_5, e259, hx259_0, hx259_1, hx259_2, hx259_3, hx259_4, hx259_5, hl259_5, hi259_5⟩ := at_T37 HR0.out x5_1 p259 q259
                      obtain rfl : ad254 = ad259 := (by injection e259)
                      have HR259_5 := Aside0.mk hi259_5
                      have HC259_5 := Aside0.mk hl259_5
                      clear hi259_5 hl259_5
                      replace p259 := eq_true p259
                      replace q259 := eq_true q259
                      have ea_ := Option.some.inj (hx254_5.symm.trans hx259_5)
                      injection ea_ with ea_ en_ ec_
                      subst ea_
                      subst ec_
                      clear en_
                      go_wp2_with (first | ((with_reducible refine gate_callee (f := 18) rfl ?_); refine goesL_ (some 63) rfl rfl Try.func18 (by kernel_rfl) rfl #[.slice A254_5 ((rd_T37 l0 x5_1).f5).length c254_5, .int .i64 (wrap64 ((wrap64 ((wrap64 ((wrap64 ((wrap64 (x1_1 + 1)) + 1)) + 1)) + 1)) + 1))] rfl (by (try simp only [List.map_toArray, List.map_cons, List.map_nil]); first | done | rfl | (simp only [List.length_drop, List.length_take]; rfl)) ?_; (with_reducible refine (laws_heldByteS.calls k1 _ _ ((rd_T37 l0 x5_1).f5) (wrap64 ((wrap64 ((wrap64 ((wrap64 ((wrap64 (x1_1 + 1)) + 1)) + 1)) + 1)) + 1)) t260 _ ?side1 ?side2 A10.out).mono ?_); (case side1 => repeat (first | exact HR259_5.out | (with_reducible refine Kd.C_alloc ?_ _) | (with_reducible refine Kd.C_drewN ?_ _) | (with_reducible refine Kd.C_drew ?_))); (case side2 => exact HC259_5.out); rintro e w' ⟨rfl, ⟨nd, rfl⟩⟩; refine ⟨_, rfl, ?_⟩))
                      go_ret
                      exact ⟨by first | rfl | (simp; done) | (simp [*]; done), by repeat (first | exact Drawn0.refl _ | apply Drawn0.step)⟩
                    · rw [if_neg c11] at H
                      have c11b0 : decide (t260 < 0) = false := decide_eq_false c11
                      clear c11
                      have H' := Aside0.mk H
                      clear H
                      have p254 : 0 ≤ (x5_1 : Int) := of_decide_eq_true (by first | (with_reducible assumption) | assumption)
                      have q254 : x5_1 < (l0.length : Int) := of_decide_eq_true (by first | (with_reducible assumption) | assumption)
                      obtain ⟨ad254, A254_5, c254_5, e254, hx254_0, hx254_1, hx254_2, hx254_3, hx254_4, hx254_5, hl254_5, hi254_5⟩ := at_T37 HR0.out x5_1 p254 q254
                      cases e254
                      have HR254_5 := Aside0.mk hi254_5
                      have HC254_5 := Aside0.mk hl254_5
                      clear hi254_5 hl254_5
                      replace p254 := eq_true p254
                      replace q254 := eq_true q254
                      have p255 : 0 ≤ (x5_1 : Int) := of_decide_eq_true (by first | (with_reducible assumption) | assumption)
                      have q255 : x5_1 < (l0.length : Int) := of_decide_eq_true (by first | (with_reducible assumption) | assumption)
                      obtain ⟨ad255, A255_5, c255_5, e255, hx255_0, hx255_1, hx255_2, hx255_3, hx255_4, hx255_5, hl255_5, hi255_5⟩ := at_T37 HR0.out x5_1 p255 q255
                      obtain rfl : ad254 = ad255 := (by injection e255)
                      have HR255_5 := Aside0.mk hi255_5
                      have HC255_5 := Aside0.mk hl255_5
                      clear hi255_5 hl255_5
                      replace p255 := eq_true p255
                      replace q255 := eq_true q255
                      have ea_ := Option.some.inj (hx254_5.symm.trans hx255_5)
                      injection ea_ with ea_ en_ ec_
                      subst ea_
                      subst ec_
                      clear en_
                      have p256 : 0 ≤ (x5_1 : Int) := of_decide_eq_true (by first | (with_reducible assumption) | assumption)
                      have q256 : x5_1 < (l0.length : Int) := of_decide_eq_true (by first | (with_reducible assumption) | assumption)
                      obtain ⟨ad256, A256_5, c256_5, e256, hx256_0, hx256_1, hx256_2, hx256_3, hx256_4, hx256_5, hl256_5, hi256_5⟩ := at_T37 HR0.out x5_1 p256 q256
                      obtain rfl : ad254 = ad256 := (by injection e256)
                      have HR256_5 := Aside0.mk hi256_5
                      have HC256_5 := Aside0.mk hl256_5
                      clear hi256_5 hl256_5
                      replace p256 := eq_true p256
                      replace q256 := eq_true q256
                      have ea_ := Option.some.inj (hx254_5.symm.trans hx256_5)
                      injection ea_ with ea_ en_ ec_
                      subst ea_
                      subst ec_
                      clear en_
                      have p257 : 0 ≤ (x5_1 : Int) := of_decide_eq_true (by first | (with_reducible assumption) | assumption)
                      have q257 : x5_1 < (l0.length : Int) := of_decide_eq_true (by first | (with_reducible assumption) | assumption)
                      obtain ⟨ad257, A257_5, c257_5, e257, hx257_0, hx257_1, hx257_2, hx257_3, hx257_4, hx257_5, hl257_5, hi257_5⟩ := at_T37 HR0.out x5_1 p257 q257
                      obtain rfl : ad254 = ad257 := (by injection e257)
                      have HR257_5 := Aside0.mk hi257_5
                      have HC257_5 := Aside0.mk hl257_5
                      clear hi257_5 hl257_5
                      replace p257 := eq_true p257
                      replace q257 := eq_true q257
                      have ea_ := Option.some.inj (hx254_5.symm.trans hx257_5)
                      injection ea_ with ea_ en_ ec_
                      subst ea_
                      subst ec_
                      clear en_
                      have p258 : 0 ≤ (x5_1 : Int) := of_decide_eq_true (by first | (with_reducible assumption) | assumption)
                      have q258 : x5_1 < (l0.length : Int) := of_decide_eq_true (by first | (with_reducible assumption) | assumption)
                      obtain ⟨ad258, A258_5, c258_5, e258, hx258_0, hx258_1, hx258_2, hx258_3, hx258_4, hx258_5, hl258_5, hi258_5⟩ := at_T37 HR0.out x5_1 p258 q258
                      obtain rfl : ad254 = ad258 := (by injection e258)
                      have HR258_5 := Aside0.mk hi258_5
                      have HC258_5 := Aside0.mk hl258_5
                      clear hi258_5 hl258_5
                      replace p258 := eq_true p258
                      replace q258 := eq_true q258
                      have ea_ := Option.some.inj (hx254_5.symm.trans hx258_5)
                      injection ea_ with ea_ en_ ec_
                      subst ea_
                      subst ec_
                      clear en_
                      have p259 : 0 ≤ (x5_1 : Int) := of_decide_eq_true (by first | (with_reducible assumption) | assumption)
                      have q259 : x5_1 < (l0.length : Int) := of_decide_eq_true (by first | (with_reducible assumption) | assumption)
                      obtain ⟨ad259, A259_5, c259_5, e259, hx259_0, hx259_1, hx259_2, hx259_3, hx259_4, hx259_5, hl259_5, hi259_5⟩ := at_T37 HR0.out x5_1 p259 q259
                      obtain rfl : ad254 = ad259 := (by injection e259)
                      have HR259_5 := Aside0.mk hi259_5
                      have HC259_5 := Aside0.mk hl259_5
                      clear hi259_5 hl259_5
                      replace p259 := eq_true p259
                      replace q259 := eq_true q259
                      have ea_ := Option.some.inj (hx254_5.symm.trans hx259_5)
                      injection ea_ with ea_ en_ ec_
                      subst ea_
                      subst ec_
                      clear en_
                      go_wp2_with (first | ((with_reducible refine gate_callee (f := 18) rfl ?_); refine goesL_ (some 63) rfl rfl Try.func18 (by kernel_rfl) rfl #[.slice A254_5 ((rd_T37 l0 x5_1).f5).length c254_5, .int .i64 (wrap64 ((wrap64 ((wrap64 ((wrap64 ((wrap64 (x1_1 + 1)) + 1)) + 1)) + 1)) + 1))] rfl (by (try simp only [List.map_toArray, List.map_cons, List.map_nil]); first | done | rfl | (simp only [List.length_drop, List.length_take]; rfl)) ?_; (with_reducible refine (laws_heldByteS.calls k1 _ _ ((rd_T37 l0 x5_1).f5) (wrap64 ((wrap64 ((wrap64 ((wrap64 ((wrap64 (x1_1 + 1)) + 1)) + 1)) + 1)) + 1)) t260 _ ?side1 ?side2 A10.out).mono ?_); (case side1 => repeat (first | exact HR259_5.out | (with_reducible refine Kd.C_alloc ?_ _) | (with_reducible refine Kd.C_drewN ?_ _) | (with_reducible refine Kd.C_drew ?_))); (case side2 => exact HC259_5.out); rintro e w' ⟨rfl, ⟨nd, rfl⟩⟩; refine ⟨_, rfl, ?_⟩))
                      go_roundg k1
                      case measure => have := HK1.out; omega
                      case rel => exact ⟨(t260), (wrap64 (x5_1 + 1)), (by first | rfl | (simp; done) | (simp [*]; done)), (by first | rfl | (simp; done) | (simp [*]; done)), H', ⟨by have := HK1.out; omega⟩, by repeat (first | exact Drawn0.refl _ | apply Drawn0.step)⟩
                  · rw [if_neg c9] at H
                    have c9b0 : (((rd_T37 l0 x5_1).f4) == (wrap64 ((wrap64 ((wrap64 ((wrap64 (x1_1 + 1)) + 1)) + 1)) + 1))) = false := beq_eq_false_iff_ne.mpr c9
                    have c9b1 : (((rd_T37 l0 x5_1).f4) != (wrap64 ((wrap64 ((wrap64 ((wrap64 (x1_1 + 1)) + 1)) + 1)) + 1))) = true := bne_iff_ne.mpr c9
                    obtain rfl := Option.some.inj H
                    have p254 : 0 ≤ (x5_1 : Int) := of_decide_eq_true (by first | (with_reducible assumption) | assumption)
                    have q254 : x5_1 < (l0.length : Int) := of_decide_eq_true (by first | (with_reducible assumption) | assumption)
                    obtain ⟨ad254, A254_5, c254_5, e254, hx254_0, hx254_1, hx254_2, hx254_3, hx254_4, hx254_5, hl254_5, hi254_5⟩ := at_T37 HR0.out x5_1 p254 q254
                    cases e254
                    have HR254_5 := Aside0.mk hi254_5
                    have HC254_5 := Aside0.mk hl254_5
                    clear hi254_5 hl254_5
                    replace p254 := eq_true p254
                    replace q254 := eq_true q254
                    have p255 : 0 ≤ (x5_1 : Int) := of_decide_eq_true (by first | (with_reducible assumption) | assumption)
                    have q255 : x5_1 < (l0.length : Int) := of_decide_eq_true (by first | (with_reducible assumption) | assumption)
                    obtain ⟨ad255, A255_5, c255_5, e255, hx255_0, hx255_1, hx255_2, hx255_3, hx255_4, hx255_5, hl255_5, hi255_5⟩ := at_T37 HR0.out x5_1 p255 q255
                    obtain rfl : ad254 = ad255 := (by injection e255)
                    have HR255_5 := Aside0.mk hi255_5
                    have HC255_5 := Aside0.mk hl255_5
                    clear hi255_5 hl255_5
                    replace p255 := eq_true p255
                    replace q255 := eq_true q255
                    have ea_ := Option.some.inj (hx254_5.symm.trans hx255_5)
                    injection ea_ with ea_ en_ ec_
                    subst ea_
                    subst ec_
                    clear en_
                    have p256 : 0 ≤ (x5_1 : Int) := of_decide_eq_true (by first | (with_reducible assumption) | assumption)
                    have q256 : x5_1 < (l0.length : Int) := of_decide_eq_true (by first | (with_reducible assumption) | assumption)
                    obtain ⟨ad256, A256_5, c256_5, e256, hx256_0, hx256_1, hx256_2, hx256_3, hx256_4, hx256_5, hl256_5, hi256_5⟩ := at_T37 HR0.out x5_1 p256 q256
                    obtain rfl : ad254 = ad256 := (by injection e256)
                    have HR256_5 := Aside0.mk hi256_5
                    have HC256_5 := Aside0.mk hl256_5
                    clear hi256_5 hl256_5
                    replace p256 := eq_true p256
                    replace q256 := eq_true q256
                    have ea_ := Option.some.inj (hx254_5.symm.trans hx256_5)
                    injection ea_ with ea_ en_ ec_
                    subst ea_
                    subst ec_
                    clear en_
                    have p257 : 0 ≤ (x5_1 : Int) := of_decide_eq_true (by first | (with_reducible assumption) | assumption)
                    have q257 : x5_1 < (l0.length : Int) := of_decide_eq_true (by first | (with_reducible assumption) | assumption)
                    obtain ⟨ad257, A257_5, c257_5, e257, hx257_0, hx257_1, hx257_2, hx257_3, hx257_4, hx257_5, hl257_5, hi257_5⟩ := at_T37 HR0.out x5_1 p257 q257
                    obtain rfl : ad254 = ad257 := (by injection e257)
                    have HR257_5 := Aside0.mk hi257_5
                    have HC257_5 := Aside0.mk hl257_5
                    clear hi257_5 hl257_5
                    replace p257 := eq_true p257
                    replace q257 := eq_true q257
                    have ea_ := Option.some.inj (hx254_5.symm.trans hx257_5)
                    injection ea_ with ea_ en_ ec_
                    subst ea_
                    subst ec_
                    clear en_
                    have p258 : 0 ≤ (x5_1 : Int) := of_decide_eq_true (by first | (with_reducible assumption) | assumption)
                    have q258 : x5_1 < (l0.length : Int) := of_decide_eq_true (by first | (with_reducible assumption) | assumption)
                    obtain ⟨ad258, A258_5, c258_5, e258, hx258_0, hx258_1, hx258_2, hx258_3, hx258_4, hx258_5, hl258_5, hi258_5⟩ := at_T37 HR0.out x5_1 p258 q258
                    obtain rfl : ad254 = ad258 := (by injection e258)
                    have HR258_5 := Aside0.mk hi258_5
                    have HC258_5 := Aside0.mk hl258_5
                    clear hi258_5 hl258_5
                    replace p258 := eq_true p258
                    replace q258 := eq_true q258
                    have ea_ := Option.some.inj (hx254_5.symm.trans hx258_5)
                    injection ea_ with ea_ en_ ec_
                    subst ea_
                    subst ec_
                    clear en_
                    go_wp2
                    go_ret
                    exact ⟨by first | rfl | (simp; done) | (simp [*]; done), by repeat (first | exact Drawn0.refl _ | apply Drawn0.step)⟩
                · rw [if_neg c8] at H
                  have c8b0 : (((rd_T37 l0 x5_1).f3) == (wrap64 ((wrap64 ((wrap64 (x1_1 + 1)) + 1)) + 1))) = false := beq_eq_false_iff_ne.mpr c8
                  have c8b1 : (((rd_T37 l0 x5_1).f3) != (wrap64 ((wrap64 ((wrap64 (x1_1 + 1)) + 1)) + 1))) = true := bne_iff_ne.mpr c8
                  obtain rfl := Option.some.inj H
                  have p254 : 0 ≤ (x5_1 : Int) := of_decide_eq_true (by first | (with_reducible assumption) | assumption)
                  have q254 : x5_1 < (l0.length : Int) := of_decide_eq_true (by first | (with_reducible assumption) | assumption)
                  obtain ⟨ad254, A254_5, c254_5, e254, hx254_0, hx254_1, hx254_2, hx254_3, hx254_4, hx254_5, hl254_5, hi254_5⟩ := at_T37 HR0.out x5_1 p254 q254
                  cases e254
                  have HR254_5 := Aside0.mk hi254_5
                  have HC254_5 := Aside0.mk hl254_5
                  clear hi254_5 hl254_5
                  replace p254 := eq_true p254
                  replace q254 := eq_true q254
                  have p255 : 0 ≤ (x5_1 : Int) := of_decide_eq_true (by first | (with_reducible assumption) | assumption)
                  have q255 : x5_1 < (l0.length : Int) := of_decide_eq_true (by first | (with_reducible assumption) | assumption)
                  obtain ⟨ad255, A255_5, c255_5, e255, hx255_0, hx255_1, hx255_2, hx255_3, hx255_4, hx255_5, hl255_5, hi255_5⟩ := at_T37 HR0.out x5_1 p255 q255
                  obtain rfl : ad254 = ad255 := (by injection e255)
                  have HR255_5 := Aside0.mk hi255_5
                  have HC255_5 := Aside0.mk hl255_5
                  clear hi255_5 hl255_5
                  replace p255 := eq_true p255
                  replace q255 := eq_true q255
                  have ea_ := Option.some.inj (hx254_5.symm.trans hx255_5)
                  injection ea_ with ea_ en_ ec_
                  subst ea_
                  subst ec_
                  clear en_
                  have p256 : 0 ≤ (x5_1 : Int) := of_decide_eq_true (by first | (with_reducible assumption) | assumption)
                  have q256 : x5_1 < (l0.length : Int) := of_decide_eq_true (by first | (with_reducible assumption) | assumption)
                  obtain ⟨ad256, A256_5, c256_5, e256, hx256_0, hx256_1, hx256_2, hx256_3, hx256_4, hx256_5, hl256_5, hi256_5⟩ := at_T37 HR0.out x5_1 p256 q256
                  obtain rfl : ad254 = ad256 := (by injection e256)
                  have HR256_5 := Aside0.mk hi256_5
                  have HC256_5 := Aside0.mk hl256_5
                  clear hi256_5 hl256_5
                  replace p256 := eq_true p256
                  replace q256 := eq_true q256
                  have ea_ := Option.some.inj (hx254_5.symm.trans hx256_5)
                  injection ea_ with ea_ en_ ec_
                  subst ea_
                  subst ec_
                  clear en_
                  have p257 : 0 ≤ (x5_1 : Int) := of_decide_eq_true (by first | (with_reducible assumption) | assumption)
                  have q257 : x5_1 < (l0.length : Int) := of_decide_eq_true (by first | (with_reducible assumption) | assumption)
                  obtain ⟨ad257, A257_5, c257_5, e257, hx257_0, hx257_1, hx257_2, hx257_3, hx257_4, hx257_5, hl257_5, hi257_5⟩ := at_T37 HR0.out x5_1 p257 q257
                  obtain rfl : ad254 = ad257 := (by injection e257)
                  have HR257_5 := Aside0.mk hi257_5
                  have HC257_5 := Aside0.mk hl257_5
                  clear hi257_5 hl257_5
                  replace p257 := eq_true p257
                  replace q257 := eq_true q257
                  have ea_ := Option.some.inj (hx254_5.symm.trans hx257_5)
                  injection ea_ with ea_ en_ ec_
                  subst ea_
                  subst ec_
                  clear en_
                  go_wp2
                  go_ret
                  exact ⟨by first | rfl | (simp; done) | (simp [*]; done), by repeat (first | exact Drawn0.refl _ | apply Drawn0.step)⟩
              · rw [if_neg c7] at H
                have c7b0 : (((rd_T37 l0 x5_1).f2) == (wrap64 ((wrap64 (x1_1 + 1)) + 1))) = false := beq_eq_false_iff_ne.mpr c7
                have c7b1 : (((rd_T37 l0 x5_1).f2) != (wrap64 ((wrap64 (x1_1 + 1)) + 1))) = true := bne_iff_ne.mpr c7
                obtain rfl := Option.some.inj H
                have p254 : 0 ≤ (x5_1 : Int) := of_decide_eq_true (by first | (with_reducible assumption) | assumption)
                have q254 : x5_1 < (l0.length : Int) := of_decide_eq_true (by first | (with_reducible assumption) | assumption)
                obtain ⟨ad254, A254_5, c254_5, e254, hx254_0, hx254_1, hx254_2, hx254_3, hx254_4, hx254_5, hl254_5, hi254_5⟩ := at_T37 HR0.out x5_1 p254 q254
                cases e254
                have HR254_5 := Aside0.mk hi254_5
                have HC254_5 := Aside0.mk hl254_5
                clear hi254_5 hl254_5
                replace p254 := eq_true p254
                replace q254 := eq_true q254
                have p255 : 0 ≤ (x5_1 : Int) := of_decide_eq_true (by first | (with_reducible assumption) | assumption)
                have q255 : x5_1 < (l0.length : Int) := of_decide_eq_true (by first | (with_reducible assumption) | assumption)
                obtain ⟨ad255, A255_5, c255_5, e255, hx255_0, hx255_1, hx255_2, hx255_3, hx255_4, hx255_5, hl255_5, hi255_5⟩ := at_T37 HR0.out x5_1 p255 q255
                obtain rfl : ad254 = ad255 := (by injection e255)
                have HR255_5 := Aside0.mk hi255_5
                have HC255_5 := Aside0.mk hl255_5
                clear hi255_5 hl255_5
                replace p255 := eq_true p255
                replace q255 := eq_true q255
                have ea_ := Option.some.inj (hx254_5.symm.trans hx255_5)
                injection ea_ with ea_ en_ ec_
                subst ea_
                subst ec_
                clear en_
                have p256 : 0 ≤ (x5_1 : Int) := of_decide_eq_true (by first | (with_reducible assumption) | assumption)
                have q256 : x5_1 < (l0.length : Int) := of_decide_eq_true (by first | (with_reducible assumption) | assumption)
                obtain ⟨ad256, A256_5, c256_5, e256, hx256_0, hx256_1, hx256_2, hx256_3, hx256_4, hx256_5, hl256_5, hi256_5⟩ := at_T37 HR0.out x5_1 p256 q256
                obtain rfl : ad254 = ad256 := (by injection e256)
                have HR256_5 := Aside0.mk hi256_5
                have HC256_5 := Aside0.mk hl256_5
                clear hi256_5 hl256_5
                replace p256 := eq_true p256
                replace q256 := eq_true q256
                have ea_ := Option.some.inj (hx254_5.symm.trans hx256_5)
                injection ea_ with ea_ en_ ec_
                subst ea_
                subst ec_
                clear en_
                go_wp2
                go_ret
                exact ⟨by first | rfl | (simp; done) | (simp [*]; done), by repeat (first | exact Drawn0.refl _ | apply Drawn0.step)⟩
            · rw [if_neg c6] at H
              have c6b0 : (((rd_T37 l0 x5_1).f1) == (wrap64 (x1_1 + 1))) = false := beq_eq_false_iff_ne.mpr c6
              have c6b1 : (((rd_T37 l0 x5_1).f1) != (wrap64 (x1_1 + 1))) = true := bne_iff_ne.mpr c6
              obtain rfl := Option.some.inj H
              have p254 : 0 ≤ (x5_1 : Int) := of_decide_eq_true (by first | (with_reducible assumption) | assumption)
              have q254 : x5_1 < (l0.length : Int) := of_decide_eq_true (by first | (with_reducible assumption) | assumption)
              obtain ⟨ad254, A254_5, c254_5, e254, hx254_0, hx254_1, hx254_2, hx254_3, hx254_4, hx254_5, hl254_5, hi254_5⟩ := at_T37 HR0.out x5_1 p254 q254
              cases e254
              have HR254_5 := Aside0.mk hi254_5
              have HC254_5 := Aside0.mk hl254_5
              clear hi254_5 hl254_5
              replace p254 := eq_true p254
              replace q254 := eq_true q254
              have p255 : 0 ≤ (x5_1 : Int) := of_decide_eq_true (by first | (with_reducible assumption) | assumption)
              have q255 : x5_1 < (l0.length : Int) := of_decide_eq_true (by first | (with_reducible assumption) | assumption)
              obtain ⟨ad255, A255_5, c255_5, e255, hx255_0, hx255_1, hx255_2, hx255_3, hx255_4, hx255_5, hl255_5, hi255_5⟩ := at_T37 HR0.out x5_1 p255 q255
              obtain rfl : ad254 = ad255 := (by injection e255)
              have HR255_5 := Aside0.mk hi255_5
              have HC255_5 := Aside0.mk hl255_5
              clear hi255_5 hl255_5
              replace p255 := eq_true p255
              replace q255 := eq_true q255
              have ea_ := Option.some.inj (hx254_5.symm.trans hx255_5)
              injection ea_ with ea_ en_ ec_
              subst ea_
              subst ec_
              clear en_
              go_wp2
              go_ret
              exact ⟨by first | rfl | (simp; done) | (simp [*]; done), by repeat (first | exact Drawn0.refl _ | apply Drawn0.step)⟩
          · rw [if_neg c5] at H
            have c5b0 : (((rd_T37 l0 x5_1).f0) == x1_1) = false := beq_eq_false_iff_ne.mpr c5
            have c5b1 : (((rd_T37 l0 x5_1).f0) != x1_1) = true := bne_iff_ne.mpr c5
            obtain rfl := Option.some.inj H
            have p254 : 0 ≤ (x5_1 : Int) := of_decide_eq_true (by first | (with_reducible assumption) | assumption)
            have q254 : x5_1 < (l0.length : Int) := of_decide_eq_true (by first | (with_reducible assumption) | assumption)
            obtain ⟨ad254, A254_5, c254_5, e254, hx254_0, hx254_1, hx254_2, hx254_3, hx254_4, hx254_5, hl254_5, hi254_5⟩ := at_T37 HR0.out x5_1 p254 q254
            cases e254
            have HR254_5 := Aside0.mk hi254_5
            have HC254_5 := Aside0.mk hl254_5
            clear hi254_5 hl254_5
            replace p254 := eq_true p254
            replace q254 := eq_true q254
            go_wp2
            go_ret
            exact ⟨by first | rfl | (simp; done) | (simp [*]; done), by repeat (first | exact Drawn0.refl _ | apply Drawn0.step)⟩
        · rw [if_neg c4] at H
          exact absurd H (by simp)
      · rw [if_neg c3] at H
        have c3b0 : decide (x5_1 < (l0.length : Int)) = false := decide_eq_false c3
        clear c3
        obtain rfl := Option.some.inj H
        go_wp2
        go_ret
        exact ⟨by first | rfl | (simp; done) | (simp [*]; done), by repeat (first | exact Drawn0.refl _ | apply Drawn0.step)⟩

/-! ### laws_FnExactLogScan: function 9 -/
def laws_FnExactLogScan.H (l0 : List (Int)) (a1 : Int) : Prop := (1048576 < (l0.length : Int) ∨ (¬ 1048576 < (l0.length : Int)) ∧ ∃ (k3 : Nat) (t5 : List Int), laws_toByteS.f k3 l0 = some t5 ∧ ∃ (k16 : Nat) (t18 : List (S37)) (t19 : Int), spec_LogScan.f k16 t5 a1 = some (t18, t19) ∧ ∃ (k30 : Nat) (t32 : List Int), laws_toByteS.f k30 l0 = some t32 ∧ ∃ (k43 : Nat), impl_LogScan.f k43 t32 a1 = some (t18, t19) ∧ ∃ (k55 : Nat), laws_eqRecordS.f k55 t18 t18 = some true ∧ ∃ (k58 : Nat) (t60 : List Int), laws_toByteS.f k58 l0 = some t60 ∧ ∃ (k71 : Nat), laws_eqByteS.f k71 t32 t60 = some true ∧ ∃ (k74 : Nat) (t76 : Int) (t77 : List Int), laws_markByteS.f k74 t32 1 = some (t76, t77) ∧ 0 ≤ t76 ∧ ∃ (k82 : Nat), laws_eqRecordS.f k82 t18 t18 = some true ∧ ∃ (k85 : Nat) (t87 : Int) (t88 : List (S37)), laws_markRecordS.f k85 t18 1 = some (t87, t88) ∧ 0 ≤ t87 ∧ ∃ (k93 : Nat), laws_heldRecordS.f k93 t88 1 = some t87 ∧ ∃ (k96 : Nat) (t98 : List Int), laws_toByteS.f k96 l0 = some t98 ∧ ∃ (k109 : Nat), impl_LogScan.f k109 t98 a1 = some (t18, t19) ∧ ∃ (k121 : Nat), laws_eqRecordS.f k121 t18 t18 = some true ∧ ∃ (k124 : Nat), laws_heldRecordS.f k124 t88 1 = some t87 ∧ True)
set_option maxHeartbeats 16000000 in
set_option maxRecDepth 100000 in
theorem laws_FnExactLogScan.calls (A0 : Option Addr) (c0 : Nat) (l0 : List (Int)) (a1 : Int) (w : World) (hr0 : Kd.C (Kd.int .u8) w A0 l0.length l0) (hc0 : l0.length ≤ c0) (h : laws_FnExactLogScan.H l0 a1) :
    Calls Try.prog 9 #[.slice A0 l0.length c0, .int .i64 a1] w fun e w' => e = .returned (.bool true) ∧ Below w.heap.size w w' := by
  have HR0 := Aside0.mk hr0
  have HC0 := Aside0.mk hc0
  clear hr0 hc0
  have HB := Aside0.mk (Below.refl w.heap.size w)
  have TOP := Aside0.mk (Nat.le_refl w.heap.size)
  have OW := Aside0.mk (Nat.le_refl w.heap.size)
  have H : (1048576 < (l0.length : Int) ∨ (¬ 1048576 < (l0.length : Int)) ∧ ∃ (k3 : Nat) (t5 : List Int), laws_toByteS.f k3 l0 = some t5 ∧ ∃ (k16 : Nat) (t18 : List (S37)) (t19 : Int), spec_LogScan.f k16 t5 a1 = some (t18, t19) ∧ ∃ (k30 : Nat) (t32 : List Int), laws_toByteS.f k30 l0 = some t32 ∧ ∃ (k43 : Nat), impl_LogScan.f k43 t32 a1 = some (t18, t19) ∧ ∃ (k55 : Nat), laws_eqRecordS.f k55 t18 t18 = some true ∧ ∃ (k58 : Nat) (t60 : List Int), laws_toByteS.f k58 l0 = some t60 ∧ ∃ (k71 : Nat), laws_eqByteS.f k71 t32 t60 = some true ∧ ∃ (k74 : Nat) (t76 : Int) (t77 : List Int), laws_markByteS.f k74 t32 1 = some (t76, t77) ∧ 0 ≤ t76 ∧ ∃ (k82 : Nat), laws_eqRecordS.f k82 t18 t18 = some true ∧ ∃ (k85 : Nat) (t87 : Int) (t88 : List (S37)), laws_markRecordS.f k85 t18 1 = some (t87, t88) ∧ 0 ≤ t87 ∧ ∃ (k93 : Nat), laws_heldRecordS.f k93 t88 1 = some t87 ∧ ∃ (k96 : Nat) (t98 : List Int), laws_toByteS.f k96 l0 = some t98 ∧ ∃ (k109 : Nat), impl_LogScan.f k109 t98 a1 = some (t18, t19) ∧ ∃ (k121 : Nat), laws_eqRecordS.f k121 t18 t18 = some true ∧ ∃ (k124 : Nat), laws_heldRecordS.f k124 t88 1 = some t87 ∧ True) := h
  clear h
  rcases H with H | ⟨c1, H⟩
  · have c1 : 1048576 < (l0.length : Int) := H
    have c1b0 : decide (1048576 < (l0.length : Int)) = true := decide_eq_true (by omega)
    have c1b1 : decide (1048576 < l0.length) = true := decide_eq_true (by omega)
    clear c1
    go_enter Try.func9, Try.ntmps9
    try go_wp2
    go_ret
    exact ⟨rfl, HB.out⟩
  have c1b0 : decide (1048576 < (l0.length : Int)) = false := decide_eq_false (by omega)
  have c1b1 : decide (1048576 < l0.length) = false := decide_eq_false (by omega)
  clear c1
  obtain ⟨k3, t5, A4_, H⟩ := H
  have A4 := Aside0.mk A4_
  clear A4_
  obtain ⟨k16, t18, t19, A17_, H⟩ := H
  have A17 := Aside0.mk A17_
  clear A17_
  obtain ⟨k30, t32, A31_, H⟩ := H
  have A31 := Aside0.mk A31_
  clear A31_
  obtain ⟨k43, A44_, H⟩ := H
  have A44 := Aside0.mk A44_
  clear A44_
  obtain ⟨k55, A56_, H⟩ := H
  have A56 := Aside0.mk A56_
  clear A56_
  obtain ⟨k58, t60, A59_, H⟩ := H
  have A59 := Aside0.mk A59_
  clear A59_
  obtain ⟨k71, A72_, H⟩ := H
  have A72 := Aside0.mk A72_
  clear A72_
  obtain ⟨k74, t76, t77, A75_, H⟩ := H
  have A75 := Aside0.mk A75_
  clear A75_
  obtain ⟨c80, H⟩ := H
  have c80b0 : decide (t76 < 0) = false := decide_eq_false (by omega)
  clear c80
  obtain ⟨k82, A83_, H⟩ := H
  have A83 := Aside0.mk A83_
  clear A83_
  obtain ⟨k85, t87, t88, A86_, H⟩ := H
  have A86 := Aside0.mk A86_
  clear A86_
  obtain ⟨c91, H⟩ := H
  have c91b0 : decide (t87 < 0) = false := decide_eq_false (by omega)
  clear c91
  obtain ⟨k93, A94_, H⟩ := H
  have A94 := Aside0.mk A94_
  clear A94_
  obtain ⟨k96, t98, A97_, H⟩ := H
  have A97 := Aside0.mk A97_
  clear A97_
  obtain ⟨k109, A110_, H⟩ := H
  have A110 := Aside0.mk A110_
  clear A110_
  obtain ⟨k121, A122_, H⟩ := H
  have A122 := Aside0.mk A122_
  clear A122_
  obtain ⟨k124, A125_, H⟩ := H
  have A125 := Aside0.mk A125_
  clear A125_
  clear H
  go_enter Try.func9, Try.ntmps9
  try go_wp2_with (first | ((with_reducible refine gate_callee (f := 12) rfl ?_); refine goesL_ (some 20) rfl rfl Try.func12 (by kernel_rfl) rfl #[.slice A0 l0.length c0] rfl (by (try simp only [List.map_toArray, List.map_cons, List.map_nil]); first | done | rfl | (simp only [List.length_drop, List.length_take]; rfl)) ?_; (with_reducible refine (laws_toByteS.calls k3 _ _ l0 t5 _ ?s1 ?s2 A4.out).mono ?_); (case s1 => exact Kd.C_below HR0.out (by repeat (first | exact HB.out | apply pw_below_drewN | apply below_drew1))); (case s2 => exact HC0.out); rintro e w2 ⟨v0_, rfl, ho6, hb⟩; refine ⟨_, rfl, ?_⟩; obtain ⟨lo7, hi8, OD9_, OD10_, tp_, F11_⟩ := Kd.R_born (base := w.heap.size) ho6 (below_size (by repeat (first | exact HB.out | apply pw_below_drewN | apply below_drew1))) TOP.out hb.size; clear ho6; have OD9 := Aside0.mk OD9_; have OD10 := Aside0.mk OD10_; clear OD9_ OD10_; have F11 := Aside0.mk F11_; clear F11_; have n0_ := Aside0.mk (show Below w.heap.size w w2 from below_step (by repeat (first | exact HB.out | apply pw_below_drewN | apply below_drew1)) hb); have n1_ := Aside0.mk (show hi8 ≤ w2.heap.size from tp_); (try clear HB); (try clear TOP); have HB := n0_; have TOP := n1_; clear n0_ n1_; clear hb tp_; obtain ⟨Ao12, co13, eo14⟩ := Kd.R_slice F11.out; subst eo14) | ((with_reducible refine gate_callee (f := 32) rfl ?_); refine goesL_ (some 22) rfl rfl Try.func32 (by kernel_rfl) rfl #[.slice Ao12 t5.length co13, .int .i64 a1] rfl (by (try simp only [List.map_toArray, List.map_cons, List.map_nil]); first | done | rfl | (simp only [List.length_drop, List.length_take]; rfl)) ?_; (with_reducible refine (spec_LogScan.calls k16 _ _ t5 a1 t18 t19 _ ?s1 ?s2 A17.out).mono ?_); (case s1 => exact (Kd.R_reads' (by (with_reducible repeat (first | exact F11.out | apply Kd.R_drewN | apply Kd.R_drew)))).2.2); (case s2 => exact (Kd.R_reads' (by (with_reducible repeat (first | exact F11.out | apply Kd.R_drewN | apply Kd.R_drew)))).2.1); rintro e w15 ⟨v0_, rfl, ho20, hb⟩; refine ⟨_, rfl, ?_⟩; obtain ⟨lo21, hi22, OD23_, OD24_, tp_, F25_⟩ := Kd.S_born (base := w.heap.size) ho20 (below_size (by repeat (first | exact HB.out | apply pw_below_drewN | apply below_drew1))) TOP.out hb.size; clear ho20; have OD23 := Aside0.mk OD23_; have OD24 := Aside0.mk OD24_; clear OD23_ OD24_; have F25 := Aside0.mk F25_; clear F25_; have n0_ := Aside0.mk (show Kd.R (Kd.int .u8) 5 w15 w.heap.size (iv lo7 hi8) (.slice Ao12 t5.length co13) t5 from Kd.R_below (by (with_reducible repeat (first | exact F11.out | apply Kd.R_drewN | apply Kd.R_drew))) hb); have n1_ := Aside0.mk (show Below w.heap.size w w15 from below_step (by repeat (first | exact HB.out | apply pw_below_drewN | apply below_drew1)) hb); have n2_ := Aside0.mk (show hi22 ≤ w15.heap.size from tp_); (try clear F11); (try clear HB); (try clear TOP); have F11 := n0_; have HB := n1_; have TOP := n2_; clear n0_ n1_ n2_; clear hb tp_; obtain ⟨Ao26, co27, eo28⟩ := Kd.S_slice F25.out; subst eo28) | ((with_reducible refine gate_callee (f := 12) rfl ?_); refine goesL_ (some 26) rfl rfl Try.func12 (by kernel_rfl) rfl #[.slice A0 l0.length c0] rfl (by (try simp only [List.map_toArray, List.map_cons, List.map_nil]); first | done | rfl | (simp only [List.length_drop, List.length_take]; rfl)) ?_; (with_reducible refine (laws_toByteS.calls k30 _ _ l0 t32 _ ?s1 ?s2 A31.out).mono ?_); (case s1 => exact Kd.C_below HR0.out (by repeat (first | exact HB.out | apply pw_below_drewN | apply below_drew1))); (case s2 => exact HC0.out); rintro e w29 ⟨v0_, rfl, ho33, hb⟩; refine ⟨_, rfl, ?_⟩; obtain ⟨lo34, hi35, OD36_, OD37_, tp_, F38_⟩ := Kd.R_born (base := w.heap.size) ho33 (below_size (by repeat (first | exact HB.out | apply pw_below_drewN | apply below_drew1))) TOP.out hb.size; clear ho33; have OD36 := Aside0.mk OD36_; have OD37 := Aside0.mk OD37_; clear OD36_ OD37_; have F38 := Aside0.mk F38_; clear F38_; have n0_ := Aside0.mk (show Kd.R (Kd.int .u8) 5 w29 w.heap.size (iv lo7 hi8) (.slice Ao12 t5.length co13) t5 from Kd.R_below (by (with_reducible repeat (first | exact F11.out | apply Kd.R_drewN | apply Kd.R_drew))) hb); have n1_ := Aside0.mk (show Kd.S k37 37 w29 w.heap.size (iv lo21 hi22) (.slice Ao26 t18.length co27) t18 from Kd.S_below (by (with_reducible repeat (first | exact F25.out | apply Kd.S_drewN | apply Kd.S_drew))) hb); have n2_ := Aside0.mk (show Below w.heap.size w w29 from below_step (by repeat (first | exact HB.out | apply pw_below_drewN | apply below_drew1)) hb); have n3_ := Aside0.mk (show hi35 ≤ w29.heap.size from tp_); (try clear F11); (try clear F25); (try clear HB); (try clear TOP); have F11 := n0_; have F25 := n1_; have HB := n2_; have TOP := n3_; clear n0_ n1_ n2_ n3_; clear hb tp_; obtain ⟨Ao39, co40, eo41⟩ := Kd.R_slice F38.out; subst eo41) | ((with_reducible refine gate_callee (f := 33) rfl ?_); refine goesL_ (some 30) rfl rfl Try.func33 (by kernel_rfl) rfl #[.slice Ao39 t32.length co40, .int .i64 a1] rfl (by (try simp only [List.map_toArray, List.map_cons, List.map_nil]); first | done | rfl | (simp only [List.length_drop, List.length_take]; rfl)) ?_; (with_reducible refine (impl_LogScan.calls k43 _ _ t32 a1 t18 t19 _ ?s1 ?s2 A44.out).mono ?_); (case s1 => exact (Kd.R_reads' (by (with_reducible repeat (first | exact F38.out | apply Kd.R_drewN | apply Kd.R_drew)))).2.2); (case s2 => exact (Kd.R_reads' (by (with_reducible repeat (first | exact F38.out | apply Kd.R_drewN | apply Kd.R_drew)))).2.1); rintro e w42 ⟨v0_, rfl, ho45, hb⟩; refine ⟨_, rfl, ?_⟩; obtain ⟨lo46, hi47, OD48_, OD49_, tp_, F50_⟩ := Kd.S_born (base := w.heap.size) ho45 (below_size (by repeat (first | exact HB.out | apply pw_below_drewN | apply below_drew1))) TOP.out hb.size; clear ho45; have OD48 := Aside0.mk OD48_; have OD49 := Aside0.mk OD49_; clear OD48_ OD49_; have F50 := Aside0.mk F50_; clear F50_; have n0_ := Aside0.mk (show Kd.R (Kd.int .u8) 5 w42 w.heap.size (iv lo7 hi8) (.slice Ao12 t5.length co13) t5 from Kd.R_below (by (with_reducible repeat (first | exact F11.out | apply Kd.R_drewN | apply Kd.R_drew))) hb); have n1_ := Aside0.mk (show Kd.S k37 37 w42 w.heap.size (iv lo21 hi22) (.slice Ao26 t18.length co27) t18 from Kd.S_below (by (with_reducible repeat (first | exact F25.out | apply Kd.S_drewN | apply Kd.S_drew))) hb); have n2_ := Aside0.mk (show Kd.R (Kd.int .u8) 5 w42 w.heap.size (iv lo34 hi35) (.slice Ao39 t32.length co40) t32 from Kd.R_below (by (with_reducible repeat (first | exact F38.out | apply Kd.R_drewN | apply Kd.R_drew))) hb); have n3_ := Aside0.mk (show Below w.heap.size w w42 from below_step (by repeat (first | exact HB.out | apply pw_below_drewN | apply below_drew1)) hb); have n4_ := Aside0.mk (show hi47 ≤ w42.heap.size from tp_); (try clear F11); (try clear F25); (try clear F38); (try clear HB); (try clear TOP); have F11 := n0_; have F25 := n1_; have F38 := n2_; have HB := n3_; have TOP := n4_; clear n0_ n1_ n2_ n3_ n4_; clear hb tp_; obtain ⟨Ao51, co52, eo53⟩ := Kd.S_slice F50.out; subst eo53) | ((with_reducible refine gate_callee (f := 34) rfl ?_); refine goesL_ (some 35) rfl rfl Try.func34 (by kernel_rfl) rfl #[.slice Ao51 t18.length co52, .slice Ao26 t18.length co27] rfl (by (try simp only [List.map_toArray, List.map_cons, List.map_nil]); first | done | rfl | (simp only [List.length_drop, List.length_take]; rfl)) ?_; (with_reducible refine (laws_eqRecordS.calls k55 _ _ t18 _ _ t18 true _ ?s1 ?s2 ?s3 ?s4 A56.out).mono ?_); (case s1 => exact (Kd.S_reads' (by (with_reducible repeat (first | exact F50.out | apply Kd.S_drewN | apply Kd.S_drew)))).2.2); (case s2 => exact (Kd.S_reads' (by (with_reducible repeat (first | exact F50.out | apply Kd.S_drewN | apply Kd.S_drew)))).2.1); (case s3 => exact (Kd.S_reads' (by (with_reducible repeat (first | exact F25.out | apply Kd.S_drewN | apply Kd.S_drew)))).2.2); (case s4 => exact (Kd.S_reads' (by (with_reducible repeat (first | exact F25.out | apply Kd.S_drewN | apply Kd.S_drew)))).2.1); rintro e w54 ⟨rfl, hb⟩; refine ⟨_, rfl, ?_⟩; have n0_ := Aside0.mk (show Kd.R (Kd.int .u8) 5 w54 w.heap.size (iv lo7 hi8) (.slice Ao12 t5.length co13) t5 from Kd.R_below (by (with_reducible repeat (first | exact F11.out | apply Kd.R_drewN | apply Kd.R_drew))) hb); have n1_ := Aside0.mk (show Kd.S k37 37 w54 w.heap.size (iv lo21 hi22) (.slice Ao26 t18.length co27) t18 from Kd.S_below (by (with_reducible repeat (first | exact F25.out | apply Kd.S_drewN | apply Kd.S_drew))) hb); have n2_ := Aside0.mk (show Kd.R (Kd.int .u8) 5 w54 w.heap.size (iv lo34 hi35) (.slice Ao39 t32.length co40) t32 from Kd.R_below (by (with_reducible repeat (first | exact F38.out | apply Kd.R_drewN | apply Kd.R_drew))) hb); have n3_ := Aside0.mk (show Kd.S k37 37 w54 w.heap.size (iv lo46 hi47) (.slice Ao51 t18.length co52) t18 from Kd.S_below (by (with_reducible repeat (first | exact F50.out | apply Kd.S_drewN | apply Kd.S_drew))) hb); have n4_ := Aside0.mk (show Below w.heap.size w w54 from below_step (by repeat (first | exact HB.out | apply pw_below_drewN | apply below_drew1)) hb); have n5_ := Aside0.mk (show hi47 ≤ w54.heap.size from Nat.le_trans TOP.out hb.size); (try clear F11); (try clear F25); (try clear F38); (try clear F50); (try clear HB); (try clear TOP); have F11 := n0_; have F25 := n1_; have F38 := n2_; have F50 := n3_; have HB := n4_; have TOP := n5_; clear n0_ n1_ n2_ n3_ n4_ n5_; clear hb) | ((with_reducible refine gate_callee (f := 12) rfl ?_); refine goesL_ (some 44) rfl rfl Try.func12 (by kernel_rfl) rfl #[.slice A0 l0.length c0] rfl (by (try simp only [List.map_toArray, List.map_cons, List.map_nil]); first | done | rfl | (simp only [List.length_drop, List.length_take]; rfl)) ?_; (with_reducible refine (laws_toByteS.calls k58 _ _ l0 t60 _ ?s1 ?s2 A59.out).mono ?_); (case s1 => exact Kd.C_below HR0.out (by repeat (first | exact HB.out | apply pw_below_drewN | apply below_drew1))); (case s2 => exact HC0.out); rintro e w57 ⟨v0_, rfl, ho61, hb⟩; refine ⟨_, rfl, ?_⟩; obtain ⟨lo62, hi63, OD64_, OD65_, tp_, F66_⟩ := Kd.R_born (base := w.heap.size) ho61 (below_size (by repeat (first | exact HB.out | apply pw_below_drewN | apply below_drew1))) TOP.out hb.size; clear ho61; have OD64 := Aside0.mk OD64_; have OD65 := Aside0.mk OD65_; clear OD64_ OD65_; have F66 := Aside0.mk F66_; clear F66_; have n0_ := Aside0.mk (show Kd.R (Kd.int .u8) 5 w57 w.heap.size (iv lo7 hi8) (.slice Ao12 t5.length co13) t5 from Kd.R_below (by (with_reducible repeat (first | exact F11.out | apply Kd.R_drewN | apply Kd.R_drew))) hb); have n1_ := Aside0.mk (show Kd.S k37 37 w57 w.heap.size (iv lo21 hi22) (.slice Ao26 t18.length co27) t18 from Kd.S_below (by (with_reducible repeat (first | exact F25.out | apply Kd.S_drewN | apply Kd.S_drew))) hb); have n2_ := Aside0.mk (show Kd.R (Kd.int .u8) 5 w57 w.heap.size (iv lo34 hi35) (.slice Ao39 t32.length co40) t32 from Kd.R_below (by (with_reducible repeat (first | exact F38.out | apply Kd.R_drewN | apply Kd.R_drew))) hb); have n3_ := Aside0.mk (show Kd.S k37 37 w57 w.heap.size (iv lo46 hi47) (.slice Ao51 t18.length co52) t18 from Kd.S_below (by (with_reducible repeat (first | exact F50.out | apply Kd.S_drewN | apply Kd.S_drew))) hb); have n4_ := Aside0.mk (show Below w.heap.size w w57 from below_step (by repeat (first | exact HB.out | apply pw_below_drewN | apply below_drew1)) hb); have n5_ := Aside0.mk (show hi63 ≤ w57.heap.size from tp_); (try clear F11); (try clear F25); (try clear F38); (try clear F50); (try clear HB); (try clear TOP); have F11 := n0_; have F25 := n1_; have F38 := n2_; have F50 := n3_; have HB := n4_; have TOP := n5_; clear n0_ n1_ n2_ n3_ n4_ n5_; clear hb tp_; obtain ⟨Ao67, co68, eo69⟩ := Kd.R_slice F66.out; subst eo69) | ((with_reducible refine gate_callee (f := 14) rfl ?_); refine goesL_ (some 45) rfl rfl Try.func14 (by kernel_rfl) rfl #[.slice Ao39 t32.length co40, .slice Ao67 t60.length co68] rfl (by (try simp only [List.map_toArray, List.map_cons, List.map_nil]); first | done | rfl | (simp only [List.length_drop, List.length_take]; rfl)) ?_; (with_reducible refine (laws_eqByteS.calls k71 _ _ t32 _ _ t60 true _ ?s1 ?s2 ?s3 ?s4 A72.out).mono ?_); (case s1 => exact (Kd.R_reads' (by (with_reducible repeat (first | exact F38.out | apply Kd.R_drewN | apply Kd.R_drew)))).2.2); (case s2 => exact (Kd.R_reads' (by (with_reducible repeat (first | exact F38.out | apply Kd.R_drewN | apply Kd.R_drew)))).2.1); (case s3 => exact (Kd.R_reads' (by (with_reducible repeat (first | exact F66.out | apply Kd.R_drewN | apply Kd.R_drew)))).2.2); (case s4 => exact (Kd.R_reads' (by (with_reducible repeat (first | exact F66.out | apply Kd.R_drewN | apply Kd.R_drew)))).2.1); rintro e w70 ⟨rfl, hd⟩; refine ⟨_, rfl, ?_⟩; have hb := drawn0_below hd; clear hd; have n0_ := Aside0.mk (show Kd.R (Kd.int .u8) 5 w70 w.heap.size (iv lo7 hi8) (.slice Ao12 t5.length co13) t5 from Kd.R_below (by (with_reducible repeat (first | exact F11.out | apply Kd.R_drewN | apply Kd.R_drew))) hb); have n1_ := Aside0.mk (show Kd.S k37 37 w70 w.heap.size (iv lo21 hi22) (.slice Ao26 t18.length co27) t18 from Kd.S_below (by (with_reducible repeat (first | exact F25.out | apply Kd.S_drewN | apply Kd.S_drew))) hb); have n2_ := Aside0.mk (show Kd.R (Kd.int .u8) 5 w70 w.heap.size (iv lo34 hi35) (.slice Ao39 t32.length co40) t32 from Kd.R_below (by (with_reducible repeat (first | exact F38.out | apply Kd.R_drewN | apply Kd.R_drew))) hb); have n3_ := Aside0.mk (show Kd.S k37 37 w70 w.heap.size (iv lo46 hi47) (.slice Ao51 t18.length co52) t18 from Kd.S_below (by (with_reducible repeat (first | exact F50.out | apply Kd.S_drewN | apply Kd.S_drew))) hb); have n4_ := Aside0.mk (show Kd.R (Kd.int .u8) 5 w70 w.heap.size (iv lo62 hi63) (.slice Ao67 t60.length co68) t60 from Kd.R_below (by (with_reducible repeat (first | exact F66.out | apply Kd.R_drewN | apply Kd.R_drew))) hb); have n5_ := Aside0.mk (show Below w.heap.size w w70 from below_step (by repeat (first | exact HB.out | apply pw_below_drewN | apply below_drew1)) hb); have n6_ := Aside0.mk (show hi63 ≤ w70.heap.size from Nat.le_trans TOP.out hb.size); (try clear F11); (try clear F25); (try clear F38); (try clear F50); (try clear F66); (try clear HB); (try clear TOP); have F11 := n0_; have F25 := n1_; have F38 := n2_; have F50 := n3_; have F66 := n4_; have HB := n5_; have TOP := n6_; clear n0_ n1_ n2_ n3_ n4_ n5_ n6_; clear hb) | ((with_reducible refine gate_callee (f := 17) rfl ?_); refine goesL_ (some 49) rfl rfl Try.func17 (by kernel_rfl) rfl #[.slice Ao39 t32.length co40, .int .i64 1] rfl (by (try simp only [List.map_toArray, List.map_cons, List.map_nil]); first | done | rfl | (simp only [List.length_drop, List.length_take]; rfl)) ?_; (with_reducible refine (laws_markByteS.calls k74 (iv lo34 hi35) (.slice Ao39 t32.length co40) t32 1 t76 t77 w _ ?s1 ?s2 A75.out).mono ?_); (case s1 => exact (by repeat (first | exact HB.out | apply pw_below_drewN | apply below_drew1))); (case s2 => exact (by (with_reducible repeat (first | exact F38.out | apply Kd.R_drewN | apply Kd.R_drew)))); rintro e w73 ⟨rfl, ho78, hB2, hk⟩; refine ⟨_, rfl, ?_⟩; have LN79 := Aside0.mk (show t32.length = t77.length from (Kd.R_reads' ho78).1); have n0_ := Aside0.mk (show Kd.R (Kd.int .u8) 5 w73 w.heap.size (iv lo7 hi8) (.slice Ao12 t5.length co13) t5 from Kd.R_kept (by (with_reducible repeat (first | exact F11.out | apply Kd.R_drewN | apply Kd.R_drew))) hk (Kd.iv_apart (by have q0 := OW.out; have q1 := OD9.out; have q2 := OD10.out; have q3 := OD23.out; have q4 := OD24.out; have q5 := OD36.out; have q6 := OD37.out; have q7 := OD48.out; have q8 := OD49.out; have q9 := OD64.out; have q10 := OD65.out; omega))); have n1_ := Aside0.mk (show Kd.S k37 37 w73 w.heap.size (iv lo21 hi22) (.slice Ao26 t18.length co27) t18 from Kd.S_kept (by (with_reducible repeat (first | exact F25.out | apply Kd.S_drewN | apply Kd.S_drew))) hk (Kd.iv_apart (by have q0 := OW.out; have q1 := OD9.out; have q2 := OD10.out; have q3 := OD23.out; have q4 := OD24.out; have q5 := OD36.out; have q6 := OD37.out; have q7 := OD48.out; have q8 := OD49.out; have q9 := OD64.out; have q10 := OD65.out; omega))); have n2_ := Aside0.mk (show Kd.R (Kd.int .u8) 5 w73 w.heap.size (iv lo34 hi35) (.slice Ao39 t32.length co40) t77 from Kd.R_back (by (with_reducible repeat (first | exact F38.out | apply Kd.R_drewN | apply Kd.R_drew))) ho78 rfl); have n3_ := Aside0.mk (show Kd.S k37 37 w73 w.heap.size (iv lo46 hi47) (.slice Ao51 t18.length co52) t18 from Kd.S_kept (by (with_reducible repeat (first | exact F50.out | apply Kd.S_drewN | apply Kd.S_drew))) hk (Kd.iv_apart (by have q0 := OW.out; have q1 := OD9.out; have q2 := OD10.out; have q3 := OD23.out; have q4 := OD24.out; have q5 := OD36.out; have q6 := OD37.out; have q7 := OD48.out; have q8 := OD49.out; have q9 := OD64.out; have q10 := OD65.out; omega))); have n4_ := Aside0.mk (show Kd.R (Kd.int .u8) 5 w73 w.heap.size (iv lo62 hi63) (.slice Ao67 t60.length co68) t60 from Kd.R_kept (by (with_reducible repeat (first | exact F66.out | apply Kd.R_drewN | apply Kd.R_drew))) hk (Kd.iv_apart (by have q0 := OW.out; have q1 := OD9.out; have q2 := OD10.out; have q3 := OD23.out; have q4 := OD24.out; have q5 := OD36.out; have q6 := OD37.out; have q7 := OD48.out; have q8 := OD49.out; have q9 := OD64.out; have q10 := OD65.out; omega))); have n5_ := Aside0.mk (show Below w.heap.size w w73 from hB2); have n6_ := Aside0.mk (show hi63 ≤ w73.heap.size from Nat.le_trans TOP.out hk.1); (try clear F11); (try clear F25); (try clear F38); (try clear F50); (try clear F66); (try clear HB); (try clear TOP); have F11 := n0_; have F25 := n1_; have F38 := n2_; have F50 := n3_; have F66 := n4_; have HB := n5_; have TOP := n6_; clear n0_ n1_ n2_ n3_ n4_ n5_ n6_; clear ho78 hB2 hk) | (go_at_call 34; (with_reducible refine (laws_eqRecordS.calls k82 _ _ t18 _ _ t18 true _ ?s1 ?s2 ?s3 ?s4 A83.out).mono ?_); (case s1 => exact (Kd.S_reads' (by (with_reducible repeat (first | exact F50.out | apply Kd.S_drewN | apply Kd.S_drew)))).2.2); (case s2 => exact (Kd.S_reads' (by (with_reducible repeat (first | exact F50.out | apply Kd.S_drewN | apply Kd.S_drew)))).2.1); (case s3 => exact (Kd.S_reads' (by (with_reducible repeat (first | exact F25.out | apply Kd.S_drewN | apply Kd.S_drew)))).2.2); (case s4 => exact (Kd.S_reads' (by (with_reducible repeat (first | exact F25.out | apply Kd.S_drewN | apply Kd.S_drew)))).2.1); rintro e w81 ⟨rfl, hb⟩; have n0_ := Aside0.mk (show Kd.R (Kd.int .u8) 5 w81 w.heap.size (iv lo7 hi8) (.slice Ao12 t5.length co13) t5 from Kd.R_below (by (with_reducible repeat (first | exact F11.out | apply Kd.R_drewN | apply Kd.R_drew))) hb); have n1_ := Aside0.mk (show Kd.S k37 37 w81 w.heap.size (iv lo21 hi22) (.slice Ao26 t18.length co27) t18 from Kd.S_below (by (with_reducible repeat (first | exact F25.out | apply Kd.S_drewN | apply Kd.S_drew))) hb); have n2_ := Aside0.mk (show Kd.R (Kd.int .u8) 5 w81 w.heap.size (iv lo34 hi35) (.slice Ao39 t32.length co40) t77 from Kd.R_below (by (with_reducible repeat (first | exact F38.out | apply Kd.R_drewN | apply Kd.R_drew))) hb); have n3_ := Aside0.mk (show Kd.S k37 37 w81 w.heap.size (iv lo46 hi47) (.slice Ao51 t18.length co52) t18 from Kd.S_below (by (with_reducible repeat (first | exact F50.out | apply Kd.S_drewN | apply Kd.S_drew))) hb); have n4_ := Aside0.mk (show Kd.R (Kd.int .u8) 5 w81 w.heap.size (iv lo62 hi63) (.slice Ao67 t60.length co68) t60 from Kd.R_below (by (with_reducible repeat (first | exact F66.out | apply Kd.R_drewN | apply Kd.R_drew))) hb); have n5_ := Aside0.mk (show Below w.heap.size w w81 from below_step (by repeat (first | exact HB.out | apply pw_below_drewN | apply below_drew1)) hb); have n6_ := Aside0.mk (show hi63 ≤ w81.heap.size from Nat.le_trans TOP.out hb.size); (try clear F11); (try clear F25); (try clear F38); (try clear F50); (try clear F66); (try clear HB); (try clear TOP); have F11 := n0_; have F25 := n1_; have F38 := n2_; have F50 := n3_; have F66 := n4_; have HB := n5_; have TOP := n6_; clear n0_ n1_ n2_ n3_ n4_ n5_ n6_; clear hb) | ((with_reducible refine gate_callee (f := 35) rfl ?_); refine goesL_ (some 65) rfl rfl Try.func35 (by kernel_rfl) rfl #[.slice Ao51 t18.length co52, .int .i64 1] rfl (by (try simp only [List.map_toArray, List.map_cons, List.map_nil]); first | done | rfl | (simp only [List.length_drop, List.length_take]; rfl)) ?_; (with_reducible refine (laws_markRecordS.calls k85 (iv lo46 hi47) _ _ t18 1 t87 t88 w _ ?s1 ?s2 A86.out).mono ?_); (case s1 => exact (by repeat (first | exact HB.out | apply pw_below_drewN | apply below_drew1))); (case s2 => exact (by (with_reducible repeat (first | exact F50.out | apply Kd.S_drewN | apply Kd.S_drew)))); rintro e w84 ⟨rfl, ho89, hB2, hk⟩; refine ⟨_, rfl, ?_⟩; have LN90 := Aside0.mk (show t18.length = t88.length from (Kd.S_reads' ho89).1); have n0_ := Aside0.mk (show Kd.R (Kd.int .u8) 5 w84 w.heap.size (iv lo7 hi8) (.slice Ao12 t5.length co13) t5 from Kd.R_kept (by (with_reducible repeat (first | exact F11.out | apply Kd.R_drewN | apply Kd.R_drew))) hk (Kd.iv_apart (by have q0 := OW.out; have q1 := OD9.out; have q2 := OD10.out; have q3 := OD23.out; have q4 := OD24.out; have q5 := OD36.out; have q6 := OD37.out; have q7 := OD48.out; have q8 := OD49.out; have q9 := OD64.out; have q10 := OD65.out; omega))); have n1_ := Aside0.mk (show Kd.S k37 37 w84 w.heap.size (iv lo21 hi22) (.slice Ao26 t18.length co27) t18 from Kd.S_kept (by (with_reducible repeat (first | exact F25.out | apply Kd.S_drewN | apply Kd.S_drew))) hk (Kd.iv_apart (by have q0 := OW.out; have q1 := OD9.out; have q2 := OD10.out; have q3 := OD23.out; have q4 := OD24.out; have q5 := OD36.out; have q6 := OD37.out; have q7 := OD48.out; have q8 := OD49.out; have q9 := OD64.out; have q10 := OD65.out; omega))); have n2_ := Aside0.mk (show Kd.R (Kd.int .u8) 5 w84 w.heap.size (iv lo34 hi35) (.slice Ao39 t32.length co40) t77 from Kd.R_kept (by (with_reducible repeat (first | exact F38.out | apply Kd.R_drewN | apply Kd.R_drew))) hk (Kd.iv_apart (by have q0 := OW.out; have q1 := OD9.out; have q2 := OD10.out; have q3 := OD23.out; have q4 := OD24.out; have q5 := OD36.out; have q6 := OD37.out; have q7 := OD48.out; have q8 := OD49.out; have q9 := OD64.out; have q10 := OD65.out; omega))); have n3_ := Aside0.mk (show Kd.S k37 37 w84 w.heap.size (iv lo46 hi47) (.slice Ao51 t18.length co52) t88 from ho89); have n4_ := Aside0.mk (show Kd.R (Kd.int .u8) 5 w84 w.heap.size (iv lo62 hi63) (.slice Ao67 t60.length co68) t60 from Kd.R_kept (by (with_reducible repeat (first | exact F66.out | apply Kd.R_drewN | apply Kd.R_drew))) hk (Kd.iv_apart (by have q0 := OW.out; have q1 := OD9.out; have q2 := OD10.out; have q3 := OD23.out; have q4 := OD24.out; have q5 := OD36.out; have q6 := OD37.out; have q7 := OD48.out; have q8 := OD49.out; have q9 := OD64.out; have q10 := OD65.out; omega))); have n5_ := Aside0.mk (show Below w.heap.size w w84 from hB2); have n6_ := Aside0.mk (show hi63 ≤ w84.heap.size from Nat.le_trans TOP.out hk.1); (try clear F11); (try clear F25); (try clear F38); (try clear F50); (try clear F66); (try clear HB); (try clear TOP); have F11 := n0_; have F25 := n1_; have F38 := n2_; have F50 := n3_; have F66 := n4_; have HB := n5_; have TOP := n6_; clear n0_ n1_ n2_ n3_ n4_ n5_ n6_; clear ho89 hB2 hk) | ((with_reducible refine gate_callee (f := 36) rfl ?_); refine goesL_ (some 68) rfl rfl Try.func36 (by kernel_rfl) rfl #[.slice Ao51 t18.length co52, .int .i64 1] rfl (by (try simp only [List.map_toArray, List.map_cons, List.map_nil]); first | done | rfl | (simp only [List.length_drop, List.length_take]; rfl)) ?_; (with_reducible refine (calls_args (a' := #[.slice Ao51 t88.length co52, .int .i64 1]) (by rw [LN90.out]) (laws_heldRecordS.calls k93 _ _ t88 1 t87 _ ?s1 ?s2 A94.out)).mono ?_); (case s1 => exact (Kd.S_reads' (by (with_reducible repeat (first | exact F50.out | apply Kd.S_drewN | apply Kd.S_drew)))).2.2); (case s2 => have q_ := (Kd.S_reads' (by (with_reducible repeat (first | exact F50.out | apply Kd.S_drewN | apply Kd.S_drew)))).2.1; rw [LN90.out] at q_; exact q_); rintro e w92 ⟨rfl, hd⟩; refine ⟨_, rfl, ?_⟩; have hb := drawn0_below hd; clear hd; have n0_ := Aside0.mk (show Kd.R (Kd.int .u8) 5 w92 w.heap.size (iv lo7 hi8) (.slice Ao12 t5.length co13) t5 from Kd.R_below (by (with_reducible repeat (first | exact F11.out | apply Kd.R_drewN | apply Kd.R_drew))) hb); have n1_ := Aside0.mk (show Kd.S k37 37 w92 w.heap.size (iv lo21 hi22) (.slice Ao26 t18.length co27) t18 from Kd.S_below (by (with_reducible repeat (first | exact F25.out | apply Kd.S_drewN | apply Kd.S_drew))) hb); have n2_ := Aside0.mk (show Kd.R (Kd.int .u8) 5 w92 w.heap.size (iv lo34 hi35) (.slice Ao39 t32.length co40) t77 from Kd.R_below (by (with_reducible repeat (first | exact F38.out | apply Kd.R_drewN | apply Kd.R_drew))) hb); have n3_ := Aside0.mk (show Kd.S k37 37 w92 w.heap.size (iv lo46 hi47) (.slice Ao51 t18.length co52) t88 from Kd.S_below (by (with_reducible repeat (first | exact F50.out | apply Kd.S_drewN | apply Kd.S_drew))) hb); have n4_ := Aside0.mk (show Kd.R (Kd.int .u8) 5 w92 w.heap.size (iv lo62 hi63) (.slice Ao67 t60.length co68) t60 from Kd.R_below (by (with_reducible repeat (first | exact F66.out | apply Kd.R_drewN | apply Kd.R_drew))) hb); have n5_ := Aside0.mk (show Below w.heap.size w w92 from below_step (by repeat (first | exact HB.out | apply pw_below_drewN | apply below_drew1)) hb); have n6_ := Aside0.mk (show hi63 ≤ w92.heap.size from Nat.le_trans TOP.out hb.size); (try clear F11); (try clear F25); (try clear F38); (try clear F50); (try clear F66); (try clear HB); (try clear TOP); have F11 := n0_; have F25 := n1_; have F38 := n2_; have F50 := n3_; have F66 := n4_; have HB := n5_; have TOP := n6_; clear n0_ n1_ n2_ n3_ n4_ n5_ n6_; clear hb) | ((with_reducible refine gate_callee (f := 12) rfl ?_); refine goesL_ (some 76) rfl rfl Try.func12 (by kernel_rfl) rfl #[.slice A0 l0.length c0] rfl (by (try simp only [List.map_toArray, List.map_cons, List.map_nil]); first | done | rfl | (simp only [List.length_drop, List.length_take]; rfl)) ?_; (with_reducible refine (laws_toByteS.calls k96 _ _ l0 t98 _ ?s1 ?s2 A97.out).mono ?_); (case s1 => exact Kd.C_below HR0.out (by repeat (first | exact HB.out | apply pw_below_drewN | apply below_drew1))); (case s2 => exact HC0.out); rintro e w95 ⟨v0_, rfl, ho99, hb⟩; refine ⟨_, rfl, ?_⟩; obtain ⟨lo100, hi101, OD102_, OD103_, tp_, F104_⟩ := Kd.R_born (base := w.heap.size) ho99 (below_size (by repeat (first | exact HB.out | apply pw_below_drewN | apply below_drew1))) TOP.out hb.size; clear ho99; have OD102 := Aside0.mk OD102_; have OD103 := Aside0.mk OD103_; clear OD102_ OD103_; have F104 := Aside0.mk F104_; clear F104_; have n0_ := Aside0.mk (show Kd.R (Kd.int .u8) 5 w95 w.heap.size (iv lo7 hi8) (.slice Ao12 t5.length co13) t5 from Kd.R_below (by (with_reducible repeat (first | exact F11.out | apply Kd.R_drewN | apply Kd.R_drew))) hb); have n1_ := Aside0.mk (show Kd.S k37 37 w95 w.heap.size (iv lo21 hi22) (.slice Ao26 t18.length co27) t18 from Kd.S_below (by (with_reducible repeat (first | exact F25.out | apply Kd.S_drewN | apply Kd.S_drew))) hb); have n2_ := Aside0.mk (show Kd.R (Kd.int .u8) 5 w95 w.heap.size (iv lo34 hi35) (.slice Ao39 t32.length co40) t77 from Kd.R_below (by (with_reducible repeat (first | exact F38.out | apply Kd.R_drewN | apply Kd.R_drew))) hb); have n3_ := Aside0.mk (show Kd.S k37 37 w95 w.heap.size (iv lo46 hi47) (.slice Ao51 t18.length co52) t88 from Kd.S_below (by (with_reducible repeat (first | exact F50.out | apply Kd.S_drewN | apply Kd.S_drew))) hb); have n4_ := Aside0.mk (show Kd.R (Kd.int .u8) 5 w95 w.heap.size (iv lo62 hi63) (.slice Ao67 t60.length co68) t60 from Kd.R_below (by (with_reducible repeat (first | exact F66.out | apply Kd.R_drewN | apply Kd.R_drew))) hb); have n5_ := Aside0.mk (show Below w.heap.size w w95 from below_step (by repeat (first | exact HB.out | apply pw_below_drewN | apply below_drew1)) hb); have n6_ := Aside0.mk (show hi101 ≤ w95.heap.size from tp_); (try clear F11); (try clear F25); (try clear F38); (try clear F50); (try clear F66); (try clear HB); (try clear TOP); have F11 := n0_; have F25 := n1_; have F38 := n2_; have F50 := n3_; have F66 := n4_; have HB := n5_; have TOP := n6_; clear n0_ n1_ n2_ n3_ n4_ n5_ n6_; clear hb tp_; obtain ⟨Ao105, co106, eo107⟩ := Kd.R_slice F104.out; subst eo107) | ((with_reducible refine gate_callee (f := 33) rfl ?_); refine goesL_ (some 78) rfl rfl Try.func33 (by kernel_rfl) rfl #[.slice Ao105 t98.length co106, .int .i64 a1] rfl (by (try simp only [List.map_toArray, List.map_cons, List.map_nil]); first | done | rfl | (simp only [List.length_drop, List.length_take]; rfl)) ?_; (with_reducible refine (impl_LogScan.calls k109 _ _ t98 a1 t18 t19 _ ?s1 ?s2 A110.out).mono ?_); (case s1 => exact (Kd.R_reads' (by (with_reducible repeat (first | exact F104.out | apply Kd.R_drewN | apply Kd.R_drew)))).2.2); (case s2 => exact (Kd.R_reads' (by (with_reducible repeat (first | exact F104.out | apply Kd.R_drewN | apply Kd.R_drew)))).2.1); rintro e w108 ⟨v0_, rfl, ho111, hb⟩; refine ⟨_, rfl, ?_⟩; obtain ⟨lo112, hi113, OD114_, OD115_, tp_, F116_⟩ := Kd.S_born (base := w.heap.size) ho111 (below_size (by repeat (first | exact HB.out | apply pw_below_drewN | apply below_drew1))) TOP.out hb.size; clear ho111; have OD114 := Aside0.mk OD114_; have OD115 := Aside0.mk OD115_; clear OD114_ OD115_; have F116 := Aside0.mk F116_; clear F116_; have n0_ := Aside0.mk (show Kd.R (Kd.int .u8) 5 w108 w.heap.size (iv lo7 hi8) (.slice Ao12 t5.length co13) t5 from Kd.R_below (by (with_reducible repeat (first | exact F11.out | apply Kd.R_drewN | apply Kd.R_drew))) hb); have n1_ := Aside0.mk (show Kd.S k37 37 w108 w.heap.size (iv lo21 hi22) (.slice Ao26 t18.length co27) t18 from Kd.S_below (by (with_reducible repeat (first | exact F25.out | apply Kd.S_drewN | apply Kd.S_drew))) hb); have n2_ := Aside0.mk (show Kd.R (Kd.int .u8) 5 w108 w.heap.size (iv lo34 hi35) (.slice Ao39 t32.length co40) t77 from Kd.R_below (by (with_reducible repeat (first | exact F38.out | apply Kd.R_drewN | apply Kd.R_drew))) hb); have n3_ := Aside0.mk (show Kd.S k37 37 w108 w.heap.size (iv lo46 hi47) (.slice Ao51 t18.length co52) t88 from Kd.S_below (by (with_reducible repeat (first | exact F50.out | apply Kd.S_drewN | apply Kd.S_drew))) hb); have n4_ := Aside0.mk (show Kd.R (Kd.int .u8) 5 w108 w.heap.size (iv lo62 hi63) (.slice Ao67 t60.length co68) t60 from Kd.R_below (by (with_reducible repeat (first | exact F66.out | apply Kd.R_drewN | apply Kd.R_drew))) hb); have n5_ := Aside0.mk (show Kd.R (Kd.int .u8) 5 w108 w.heap.size (iv lo100 hi101) (.slice Ao105 t98.length co106) t98 from Kd.R_below (by (with_reducible repeat (first | exact F104.out | apply Kd.R_drewN | apply Kd.R_drew))) hb); have n6_ := Aside0.mk (show Below w.heap.size w w108 from below_step (by repeat (first | exact HB.out | apply pw_below_drewN | apply below_drew1)) hb); have n7_ := Aside0.mk (show hi113 ≤ w108.heap.size from tp_); (try clear F11); (try clear F25); (try clear F38); (try clear F50); (try clear F66); (try clear F104); (try clear HB); (try clear TOP); have F11 := n0_; have F25 := n1_; have F38 := n2_; have F50 := n3_; have F66 := n4_; have F104 := n5_; have HB := n6_; have TOP := n7_; clear n0_ n1_ n2_ n3_ n4_ n5_ n6_ n7_; clear hb tp_; obtain ⟨Ao117, co118, eo119⟩ := Kd.S_slice F116.out; subst eo119) | ((with_reducible refine gate_callee (f := 34) rfl ?_); refine goesL_ (some 83) rfl rfl Try.func34 (by kernel_rfl) rfl #[.slice Ao117 t18.length co118, .slice Ao26 t18.length co27] rfl (by (try simp only [List.map_toArray, List.map_cons, List.map_nil]); first | done | rfl | (simp only [List.length_drop, List.length_take]; rfl)) ?_; (with_reducible refine (laws_eqRecordS.calls k121 _ _ t18 _ _ t18 true _ ?s1 ?s2 ?s3 ?s4 A122.out).mono ?_); (case s1 => exact (Kd.S_reads' (by (with_reducible repeat (first | exact F116.out | apply Kd.S_drewN | apply Kd.S_drew)))).2.2); (case s2 => exact (Kd.S_reads' (by (with_reducible repeat (first | exact F116.out | apply Kd.S_drewN | apply Kd.S_drew)))).2.1); (case s3 => exact (Kd.S_reads' (by (with_reducible repeat (first | exact F25.out | apply Kd.S_drewN | apply Kd.S_drew)))).2.2); (case s4 => exact (Kd.S_reads' (by (with_reducible repeat (first | exact F25.out | apply Kd.S_drewN | apply Kd.S_drew)))).2.1); rintro e w120 ⟨rfl, hb⟩; refine ⟨_, rfl, ?_⟩; have n0_ := Aside0.mk (show Kd.R (Kd.int .u8) 5 w120 w.heap.size (iv lo7 hi8) (.slice Ao12 t5.length co13) t5 from Kd.R_below (by (with_reducible repeat (first | exact F11.out | apply Kd.R_drewN | apply Kd.R_drew))) hb); have n1_ := Aside0.mk (show Kd.S k37 37 w120 w.heap.size (iv lo21 hi22) (.slice Ao26 t18.length co27) t18 from Kd.S_below (by (with_reducible repeat (first | exact F25.out | apply Kd.S_drewN | apply Kd.S_drew))) hb); have n2_ := Aside0.mk (show Kd.R (Kd.int .u8) 5 w120 w.heap.size (iv lo34 hi35) (.slice Ao39 t32.length co40) t77 from Kd.R_below (by (with_reducible repeat (first | exact F38.out | apply Kd.R_drewN | apply Kd.R_drew))) hb); have n3_ := Aside0.mk (show Kd.S k37 37 w120 w.heap.size (iv lo46 hi47) (.slice Ao51 t18.length co52) t88 from Kd.S_below (by (with_reducible repeat (first | exact F50.out | apply Kd.S_drewN | apply Kd.S_drew))) hb); have n4_ := Aside0.mk (show Kd.R (Kd.int .u8) 5 w120 w.heap.size (iv lo62 hi63) (.slice Ao67 t60.length co68) t60 from Kd.R_below (by (with_reducible repeat (first | exact F66.out | apply Kd.R_drewN | apply Kd.R_drew))) hb); have n5_ := Aside0.mk (show Kd.R (Kd.int .u8) 5 w120 w.heap.size (iv lo100 hi101) (.slice Ao105 t98.length co106) t98 from Kd.R_below (by (with_reducible repeat (first | exact F104.out | apply Kd.R_drewN | apply Kd.R_drew))) hb); have n6_ := Aside0.mk (show Kd.S k37 37 w120 w.heap.size (iv lo112 hi113) (.slice Ao117 t18.length co118) t18 from Kd.S_below (by (with_reducible repeat (first | exact F116.out | apply Kd.S_drewN | apply Kd.S_drew))) hb); have n7_ := Aside0.mk (show Below w.heap.size w w120 from below_step (by repeat (first | exact HB.out | apply pw_below_drewN | apply below_drew1)) hb); have n8_ := Aside0.mk (show hi113 ≤ w120.heap.size from Nat.le_trans TOP.out hb.size); (try clear F11); (try clear F25); (try clear F38); (try clear F50); (try clear F66); (try clear F104); (try clear F116); (try clear HB); (try clear TOP); have F11 := n0_; have F25 := n1_; have F38 := n2_; have F50 := n3_; have F66 := n4_; have F104 := n5_; have F116 := n6_; have HB := n7_; have TOP := n8_; clear n0_ n1_ n2_ n3_ n4_ n5_ n6_ n7_ n8_; clear hb) | ((with_reducible refine gate_callee (f := 36) rfl ?_); refine goesL_ (some 92) rfl rfl Try.func36 (by kernel_rfl) rfl #[.slice Ao51 t18.length co52, .int .i64 1] rfl (by (try simp only [List.map_toArray, List.map_cons, List.map_nil]); first | done | rfl | (simp only [List.length_drop, List.length_take]; rfl)) ?_; (with_reducible refine (calls_args (a' := #[.slice Ao51 t88.length co52, .int .i64 1]) (by rw [LN90.out]) (laws_heldRecordS.calls k124 _ _ t88 1 t87 _ ?s1 ?s2 A125.out)).mono ?_); (case s1 => exact (Kd.S_reads' (by (with_reducible repeat (first | exact F50.out | apply Kd.S_drewN | apply Kd.S_drew)))).2.2); (case s2 => have q_ := (Kd.S_reads' (by (with_reducible repeat (first | exact F50.out | apply Kd.S_drewN | apply Kd.S_drew)))).2.1; rw [LN90.out] at q_; exact q_); rintro e w123 ⟨rfl, hd⟩; refine ⟨_, rfl, ?_⟩; have hb := drawn0_below hd; clear hd; have n0_ := Aside0.mk (show Kd.R (Kd.int .u8) 5 w123 w.heap.size (iv lo7 hi8) (.slice Ao12 t5.length co13) t5 from Kd.R_below (by (with_reducible repeat (first | exact F11.out | apply Kd.R_drewN | apply Kd.R_drew))) hb); have n1_ := Aside0.mk (show Kd.S k37 37 w123 w.heap.size (iv lo21 hi22) (.slice Ao26 t18.length co27) t18 from Kd.S_below (by (with_reducible repeat (first | exact F25.out | apply Kd.S_drewN | apply Kd.S_drew))) hb); have n2_ := Aside0.mk (show Kd.R (Kd.int .u8) 5 w123 w.heap.size (iv lo34 hi35) (.slice Ao39 t32.length co40) t77 from Kd.R_below (by (with_reducible repeat (first | exact F38.out | apply Kd.R_drewN | apply Kd.R_drew))) hb); have n3_ := Aside0.mk (show Kd.S k37 37 w123 w.heap.size (iv lo46 hi47) (.slice Ao51 t18.length co52) t88 from Kd.S_below (by (with_reducible repeat (first | exact F50.out | apply Kd.S_drewN | apply Kd.S_drew))) hb); have n4_ := Aside0.mk (show Kd.R (Kd.int .u8) 5 w123 w.heap.size (iv lo62 hi63) (.slice Ao67 t60.length co68) t60 from Kd.R_below (by (with_reducible repeat (first | exact F66.out | apply Kd.R_drewN | apply Kd.R_drew))) hb); have n5_ := Aside0.mk (show Kd.R (Kd.int .u8) 5 w123 w.heap.size (iv lo100 hi101) (.slice Ao105 t98.length co106) t98 from Kd.R_below (by (with_reducible repeat (first | exact F104.out | apply Kd.R_drewN | apply Kd.R_drew))) hb); have n6_ := Aside0.mk (show Kd.S k37 37 w123 w.heap.size (iv lo112 hi113) (.slice Ao117 t18.length co118) t18 from Kd.S_below (by (with_reducible repeat (first | exact F116.out | apply Kd.S_drewN | apply Kd.S_drew))) hb); have n7_ := Aside0.mk (show Below w.heap.size w w123 from below_step (by repeat (first | exact HB.out | apply pw_below_drewN | apply below_drew1)) hb); have n8_ := Aside0.mk (show hi113 ≤ w123.heap.size from Nat.le_trans TOP.out hb.size); (try clear F11); (try clear F25); (try clear F38); (try clear F50); (try clear F66); (try clear F104); (try clear F116); (try clear HB); (try clear TOP); have F11 := n0_; have F25 := n1_; have F38 := n2_; have F50 := n3_; have F66 := n4_; have F104 := n5_; have F116 := n6_; have HB := n7_; have TOP := n8_; clear n0_ n1_ n2_ n3_ n4_ n5_ n6_ n7_ n8_; clear hb))
  go_ret
  exact ⟨rfl, HB.out⟩

end Go.Proofs.Ytkbclccnnllddaa.PFnExactLogScan
