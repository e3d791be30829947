-- By this session's own program (wip/xprint.py), over the kit's print.
import Derived.Test.YtkbclccnnllddaaPFnExactRecordAtx0
import Derived.Test.YtkbclccnnllddaaPFnExactRecordAtx1
namespace Go.Proofs.Ytkbclccnnllddaa.PFnExactRecordAt
open Go.RowKit Go.Proofs.YtkbclccnnllddaaW.PrintWords Go.Proofs.YtkbclccnnllddaaW.PrintLast Go.Proofs.YtkbclccnnllddaaW.PrintMore
attribute [local go_sem] max2_int min2_int max_two min_two max_three min_three max_four min_four   -- for this text's walks alone
attribute [local go_sem high] fl_eql fl_neq fl_lss fl_leq fl_gtr fl_geq fl_add fl_sub fl_mul fl_quo fl_neg fl_ofInt fl_toInt fl_store
set_option linter.unusedVariables false
set_option linter.unusedSimpArgs false

/-! ### spec_GetNum: function 44 -/
mutual
def spec_GetNum.j0 : Nat → List Int → Int → Int → Bool → Option (Int × Bool)
  | 0, _, _, _, _ => none
  | k + 1, x0, x1, x2, x34 => if x34 = true then (some (0, false)) else (spec_GetNum.l0 k x0 x1 0 (wrap64 (x2 - 1)))
def spec_GetNum.l0 : Nat → List Int → Int → Int → Int → Option (Int × Bool)
  | 0, _, _, _, _ => none
  | k + 1, x0, x1, x8, x9 => if x9 ≥ 0 then (if 0 ≤ (wrap64 (x1 + x9)) then (if (wrap64 (x1 + x9)) < (x0.length : Int) then (if x9 = 7 then (if (wrap64 (rd x0 (wrap64 (x1 + x9)))) > 127 then (some (0, false)) else (spec_GetNum.l0 k x0 x1 (wrap64 ((wrap64 (x8 * 256)) + (wrap64 (rd x0 (wrap64 (x1 + x9)))))) (wrap64 (x9 - 1)))) else (spec_GetNum.l0 k x0 x1 (wrap64 ((wrap64 (x8 * 256)) + (wrap64 (rd x0 (wrap64 (x1 + x9)))))) (wrap64 (x9 - 1)))) else (none)) else (none)) else (some (x8, true))
end
def spec_GetNum.f (k : Nat) (l0 : List Int) (a1 : Int) (a2 : Int) : Option (Int × Bool) := if a2 < 1 then (spec_GetNum.j0 k l0 a1 a2 true) else (if a2 > 8 then (spec_GetNum.j0 k l0 a1 a2 true) else (if a1 < 0 then (spec_GetNum.j0 k l0 a1 a2 true) else (if a1 > (l0.length : Int) then (spec_GetNum.j0 k l0 a1 a2 true) else (spec_GetNum.j0 k l0 a1 a2 (decide (a2 > (wrap64 ((l0.length : Int) - a1))))))))
theorem spec_GetNum.mono_l : ∀ k, (∀ y0 y1 y2 y3, LeO (spec_GetNum.j0 k y0 y1 y2 y3) (spec_GetNum.j0 (k + 1) y0 y1 y2 y3)) ∧ (∀ y0 y1 y2 y3, LeO (spec_GetNum.l0 k y0 y1 y2 y3) (spec_GetNum.l0 (k + 1) y0 y1 y2 y3))
  | 0 => ⟨fun _ _ _ _ r h => by simp [spec_GetNum.j0] at h, fun _ _ _ _ r h => by simp [spec_GetNum.l0] at h⟩
  | k + 1 => by
    obtain ⟨ih0, ih1⟩ := spec_GetNum.mono_l k
    refine ⟨?_, ?_⟩
    · intro y0 y1 y2 y3
      unfold spec_GetNum.j0
      repeat' first
      | (with_reducible exact ih0 _ _ _ _)
      | (with_reducible exact ih1 _ _ _ _)
      | (with_reducible exact LeO.refl _)
      | (with_reducible exact LeO.none _)
      | (with_reducible refine LeO.ite ?_ ?_)
      | (with_reducible refine LeO.bind ?_ (fun _ => ?_))
      | exact ih0 _ _ _ _
      | exact ih1 _ _ _ _
      | exact LeO.none _
      | refine LeO.ite ?_ ?_
      | refine LeO.bind ?_ (fun _ => ?_)
    · intro y0 y1 y2 y3
      unfold spec_GetNum.l0
      repeat' first
      | (with_reducible exact ih0 _ _ _ _)
      | (with_reducible exact ih1 _ _ _ _)
      | (with_reducible exact LeO.refl _)
      | (with_reducible exact LeO.none _)
      | (with_reducible refine LeO.ite ?_ ?_)
      | (with_reducible refine LeO.bind ?_ (fun _ => ?_))
      | exact ih0 _ _ _ _
      | exact ih1 _ _ _ _
      | exact LeO.none _
      | refine LeO.ite ?_ ?_
      | refine LeO.bind ?_ (fun _ => ?_)
theorem spec_GetNum.mono : ∀ a0 a1 a2 k, LeO (spec_GetNum.f k a0 a1 a2) (spec_GetNum.f (k + 1) a0 a1 a2) := by
  intro a0 a1 a2 k
  obtain ⟨ih0, ih1⟩ := spec_GetNum.mono_l k
  unfold spec_GetNum.f
  repeat' first
      | (with_reducible exact ih0 _ _ _ _)
      | (with_reducible exact ih1 _ _ _ _)
      | (with_reducible exact LeO.refl _)
      | (with_reducible exact LeO.none _)
      | (with_reducible refine LeO.ite ?_ ?_)
      | (with_reducible refine LeO.bind ?_ (fun _ => ?_))
      | exact ih0 _ _ _ _
      | exact ih1 _ _ _ _
      | exact LeO.none _
      | refine LeO.ite ?_ ?_
      | refine LeO.bind ?_ (fun _ => ?_)
set_option maxHeartbeats 8000000 in
set_option maxRecDepth 100000 in
theorem spec_GetNum.calls (k : Nat) (A0 : Option Addr) (c0 : Nat) (l0 : List Int) (a1 : Int) (a2 : Int) (r1 : Int) (r2 : Bool) (w : World) (hr0 : Kd.C (Kd.int .u8) w A0 l0.length l0) (hc0 : l0.length ≤ c0) (h : spec_GetNum.f k l0 a1 a2 = some (r1, r2)) :
    Calls Try.prog 44 #[.slice A0 l0.length c0, .int .i64 a1, .int .i64 a2] w fun e w' => e = .returned (.tuple #[.int .i64 r1, .bool r2]) ∧ Drawn0 w w' := by
  have HR0 := Aside0.mk hr0
  have HC0 := Aside0.mk hc0
  clear hr0 hc0
  have H : (if a2 < 1 then (spec_GetNum.j0 k l0 a1 a2 true) else (if a2 > 8 then (spec_GetNum.j0 k l0 a1 a2 true) else (if a1 < 0 then (spec_GetNum.j0 k l0 a1 a2 true) else (if a1 > (l0.length : Int) then (spec_GetNum.j0 k l0 a1 a2 true) else (spec_GetNum.j0 k l0 a1 a2 (decide (a2 > (wrap64 ((l0.length : Int) - a1))))))))) = some (r1, r2) := h
  clear h
  have HC4 := Aside0.mk H
  clear H
  go_enter Try.func44, Try.ntmps44
  go_upto_region 1 with (fail)
  go_cut [34] (fun v34 wc => ∃ (kq : Nat) (x34_3 : Bool), v34 = .bool x34_3 ∧ Aside0 (spec_GetNum.j0 kq l0 a1 a2 x34_3 = some (r1, r2)) ∧ Aside0 (kq ≤ k) ∧ Drawn0 w wc)
  case first =>
    have H := HC4.out
    clear HC4
    by_cases c5 : a2 < 1
    · rw [if_pos c5] at H
      have c5b0 : decide (a2 < 1) = true := decide_eq_true c5
      clear c5
      (first | rw [c5b0] | (simp only [i64_w, i32_w]; rw [c5b0]) | skip)
      have H' := Aside0.mk H
      clear H
      go_wp2
      go_meet
      case rel => exact ⟨_, (true), (by first | rfl | (simp; done) | (simp [*]; done)), H', ⟨by first | omega | exact Nat.le_refl _⟩, by repeat (first | exact Drawn0.refl _ | apply Drawn0.step)⟩
    · rw [if_neg c5] at H
      have c5b0 : decide (a2 < 1) = false := decide_eq_false c5
      clear c5
      (first | rw [c5b0] | (simp only [i64_w, i32_w]; rw [c5b0]) | skip)
      by_cases c6 : a2 > 8
      · rw [if_pos c6] at H
        have c6b0 : decide (8 < a2) = true := decide_eq_true c6
        clear c6
        have H' := Aside0.mk H
        clear H
        go_wp2
        go_meet
        case rel => exact ⟨_, (true), (by first | rfl | (simp; done) | (simp [*]; done)), H', ⟨by first | omega | exact Nat.le_refl _⟩, by repeat (first | exact Drawn0.refl _ | apply Drawn0.step)⟩
      · rw [if_neg c6] at H
        have c6b0 : decide (8 < a2) = false := decide_eq_false c6
        clear c6
        by_cases c7 : a1 < 0
        · rw [if_pos c7] at H
          have c7b0 : decide (a1 < 0) = true := decide_eq_true c7
          clear c7
          have H' := Aside0.mk H
          clear H
          go_wp2
          go_meet
          case rel => exact ⟨_, (true), (by first | rfl | (simp; done) | (simp [*]; done)), H', ⟨by first | omega | exact Nat.le_refl _⟩, by repeat (first | exact Drawn0.refl _ | apply Drawn0.step)⟩
        · rw [if_neg c7] at H
          have c7b0 : decide (a1 < 0) = false := decide_eq_false c7
          clear c7
          by_cases c8 : a1 > (l0.length : Int)
          · rw [if_pos c8] at H
            have c8b0 : decide ((l0.length : Int) < a1) = true := decide_eq_true c8
            clear c8
            have H' := Aside0.mk H
            clear H
            go_wp2
            go_meet
            case rel => exact ⟨_, (true), (by first | rfl | (simp; done) | (simp [*]; done)), H', ⟨by first | omega | exact Nat.le_refl _⟩, by repeat (first | exact Drawn0.refl _ | apply Drawn0.step)⟩
          · rw [if_neg c8] at H
            have c8b0 : decide ((l0.length : Int) < a1) = false := decide_eq_false c8
            clear c8
            have H' := Aside0.mk H
            clear H
            go_wp2
            go_meet
            case rel => exact ⟨_, (decide (a2 > (wrap64 ((l0.length : Int) - a1)))), (by first | rfl | (simp; done) | (simp [*]; done)), H', ⟨by first | omega | exact Nat.le_refl _⟩, by repeat (first | exact Drawn0.refl _ | apply Drawn0.step)⟩
  case rest =>
    clear HC4
    try clear p2
    try clear c4
    try clear c5
    try clear c5b0
    try clear c6
    try clear c6b0
    try clear p6
    try clear c7
    try clear c7b0
    try clear c8
    try clear c8b0
    obtain ⟨kq, x34_3, rfl, HA, HJ3, ⟨mc3, rfl⟩⟩ := hcut
    cases kq with
    | zero => exact absurd HA.out (by simp [spec_GetNum.j0])
    | succ kj3 =>
      have H := HA.out
      clear HA
      simp only [spec_GetNum.j0] at H
      by_cases c9 : x34_3 = true
      · subst c9
        have H1 : (some (0, false)) = some (r1, r2) := by rw [if_pos rfl] at H; exact H
        clear H
        have H := H1
        clear H1
        simp only [Option.some.injEq, Prod.mk.injEq] at H
        obtain ⟨rfl, rfl⟩ := H
        go_wp2
        go_ret2
        exact ⟨by first | rfl | (simp; done) | (simp [*]; done), by repeat (first | exact Drawn0.refl _ | apply Drawn0.step)⟩
      · replace c9 := Bool.eq_false_iff.mpr c9
        subst c9
        have H1 : (spec_GetNum.l0 kj3 l0 a1 0 (wrap64 (a2 - 1))) = some (r1, r2) := by rw [if_neg (show ¬ (false = true) by decide)] at H; exact H
        clear H
        have H := H1
        clear H1
        have H' := Aside0.mk H
        clear H
        go_wp2
        go_loopg [8, 9] kj3 (fun kq v8 v9 w' => ∃ (x8_2 : Int) (x9_2 : Int), v8 = .int .i64 x8_2 ∧ v9 = .int .i64 x9_2 ∧ Aside0 (spec_GetNum.l0 kq l0 a1 x8_2 x9_2 = some (r1, r2)) ∧ Aside0 (kq ≤ kj3) ∧ Drawn0 w w')
        case atStart => exact ⟨(0), (wrap64 (a2 - 1)), (by first | rfl | (simp; done) | (simp [*]; done)), (by first | rfl | (simp; done) | (simp [*]; done)), H', ⟨Nat.le_refl _⟩, by repeat (first | exact Drawn0.refl _ | apply Drawn0.step)⟩
        case round =>
          clear H'
          try clear p2
          try clear c3
          try clear c4
          try clear c5
          try clear c5b0
          try clear c6
          try clear c6b0
          try clear p6
          try clear c7
          try clear c7b0
          try clear c8
          try clear c8b0
          try clear c9
          try clear p2
          try clear p6
          obtain ⟨x8_2, x9_2, rfl, rfl, HA, HK2, ⟨m2, rfl⟩⟩ := hrel
          cases gk with
          | zero => exact absurd HA.out (by simp [spec_GetNum.l0])
          | succ k2 =>
            have H := HA.out
            clear HA
            simp only [spec_GetNum.l0] at H
            by_cases c10 : x9_2 ≥ 0
            · rw [if_pos c10] at H
              have c10b0 : decide (0 ≤ x9_2) = true := decide_eq_true c10
              clear c10
              obtain ⟨ji11, hji11⟩ : ∃ j_ : Int, (wrap64 (a1 + x9_2)) = j_ := ⟨_, rfl⟩
              replace H : (if 0 ≤ (ji11) then (if (ji11) < (l0.length : Int) then (if x9_2 = 7 then (if (wrap64 (rd l0 (ji11))) > 127 then (some (0, false)) else (spec_GetNum.l0 k2 l0 a1 (wrap64 ((wrap64 (x8_2 * 256)) + (wrap64 (rd l0 (ji11))))) (wrap64 (x9_2 - 1)))) else (spec_GetNum.l0 k2 l0 a1 (wrap64 ((wrap64 (x8_2 * 256)) + (wrap64 (rd l0 (ji11))))) (wrap64 (x9_2 - 1)))) else (none)) else (none)) = some (r1, r2) := by first | (rw [hji11] at H; exact H) | (simp only [hji11] at H ⊢; exact H)
              have hji11w : (IntKind.i64.wrap (a1 + x9_2)) = ji11 := (i64_w _).trans hji11
              by_cases c12 : 0 ≤ (ji11)
              · rw [if_pos c12] at H
                have c12b0 : decide (0 ≤ (ji11)) = true := decide_eq_true c12
                clear c12
                by_cases c13 : (ji11) < (l0.length : Int)
                · rw [if_pos c13] at H
                  have c13b0 : decide ((ji11) < (l0.length : Int)) = true := decide_eq_true c13
                  clear c13
                  by_cases c14 : x9_2 = 7
                  · rw [if_pos c14] at H
                    have c14b0 : (x9_2 == 7) = true := beq_iff_eq.mpr c14
                    have c14b1 : (x9_2 != 7) = false := bne_eq_false_iff_eq.mpr c14
                    clear c14
                    by_cases c15 : (wrap64 (rd l0 (ji11))) > 127
                    · rw [if_pos c15] at H
                      have c15b0 : decide (127 < (wrap64 (rd l0 (ji11)))) = true := decide_eq_true c15
                      clear c15
                      simp only [Option.some.injEq, Prod.mk.injEq] at H
                      obtain ⟨rfl, rfl⟩ := H
                      have p116 : 0 ≤ ((ji11) : Int) := of_decide_eq_true (by first | (with_reducible assumption) | assumption)
                      have q116 : (ji11) < (l0.length : Int) := of_decide_eq_true (by first | (with_reducible assumption) | assumption)
                      obtain ⟨ad116, e116, hx116_0⟩ := Kd.at_int HR0.out (ji11) p116 q116
                      cases e116
                      replace p116 := eq_true p116
                      replace q116 := eq_true q116
                      go_wp2
                      go_ret2
                      exact ⟨by first | rfl | (simp; done) | (simp only [← hji11] <;> (first | rfl | simp)) | (simp [*]; done), by repeat (first | exact Drawn0.refl _ | apply Drawn0.step)⟩
                    · rw [if_neg c15] at H
                      have c15b0 : decide (127 < (wrap64 (rd l0 (ji11)))) = false := decide_eq_false c15
                      clear c15
                      have H' := Aside0.mk H
                      clear H
                      have p116 : 0 ≤ ((ji11) : Int) := of_decide_eq_true (by first | (with_reducible assumption) | assumption)
                      have q116 : (ji11) < (l0.length : Int) := of_decide_eq_true (by first | (with_reducible assumption) | assumption)
                      obtain ⟨ad116, e116, hx116_0⟩ := Kd.at_int HR0.out (ji11) p116 q116
                      cases e116
                      replace p116 := eq_true p116
                      replace q116 := eq_true q116
                      go_wp2
                      go_roundg k2
                      case measure => have := HJ3.out; have := HK2.out; omega
                      case rel => exact ⟨(wrap64 ((wrap64 (x8_2 * 256)) + (wrap64 (rd l0 (ji11))))), (wrap64 (x9_2 - 1)), (by first | rfl | (simp; done) | (simp only [← hji11] <;> (first | rfl | simp)) | (simp [*]; done)), (by first | rfl | (simp; done) | (simp [*]; done)), H', ⟨by have := HJ3.out; have := HK2.out; omega⟩, by repeat (first | exact Drawn0.refl _ | apply Drawn0.step)⟩
                  · rw [if_neg c14] at H
                    have c14b0 : (x9_2 == 7) = false := beq_eq_false_iff_ne.mpr c14
                    have c14b1 : (x9_2 != 7) = true := bne_iff_ne.mpr c14
                    have H' := Aside0.mk H
                    clear H
                    have p116 : 0 ≤ ((ji11) : Int) := of_decide_eq_true (by first | (with_reducible assumption) | assumption)
                    have q116 : (ji11) < (l0.length : Int) := of_decide_eq_true (by first | (with_reducible assumption) | assumption)
                    obtain ⟨ad116, e116, hx116_0⟩ := Kd.at_int HR0.out (ji11) p116 q116
                    cases e116
                    replace p116 := eq_true p116
                    replace q116 := eq_true q116
                    go_wp2
                    go_roundg k2
                    case measure => have := HJ3.out; have := HK2.out; omega
                    case rel => exact ⟨(wrap64 ((wrap64 (x8_2 * 256)) + (wrap64 (rd l0 (ji11))))), (wrap64 (x9_2 - 1)), (by first | rfl | (simp; done) | (simp only [← hji11] <;> (first | rfl | simp)) | (simp [*]; done)), (by first | rfl | (simp; done) | (simp [*]; done)), H', ⟨by have := HJ3.out; have := HK2.out; omega⟩, by repeat (first | exact Drawn0.refl _ | apply Drawn0.step)⟩
                · rw [if_neg c13] at H
                  exact absurd H (by simp)
              · rw [if_neg c12] at H
                exact absurd H (by simp)
            · rw [if_neg c10] at H
              have c10b0 : decide (0 ≤ x9_2) = false := decide_eq_false c10
              clear c10
              simp only [Option.some.injEq, Prod.mk.injEq] at H
              obtain ⟨rfl, rfl⟩ := H
              go_wp2
              go_ret2
              exact ⟨by first | rfl | (simp; done) | (simp [*]; done), by repeat (first | exact Drawn0.refl _ | apply Drawn0.step)⟩

/-! ### spec_FrameAt: function 19 -/
mutual
def spec_FrameAt.j0 : Nat → List Int → Int → Bool → Option (Int × List Int × Int × Int)
  | 0, _, _, _ => none
  | k + 1, x0, x1, x32 => if x32 = true then (some (0, ([] : List Int), 0, 1)) else (if 0 ≤ x1 then (if x1 < (x0.length : Int) then ((spec_GetNum.f k x0 (wrap64 (x1 + 1)) 2).bind fun bt118 => (if (wrap64 (rd x0 x1)) = 0 then (spec_FrameAt.j1 k x0 x1 (wrap64 (rd x0 x1)) bt118.1 true) else (spec_FrameAt.j1 k x0 x1 (wrap64 (rd x0 x1)) bt118.1 (decide (bt118.1 > 1000))))) else (none)) else (none))
def spec_FrameAt.j1 : Nat → List Int → Int → Int → Int → Bool → Option (Int × List Int × Int × Int)
  | 0, _, _, _, _, _ => none
  | k + 1, x0, x1, x8, x9, x50 => if x50 = true then (some (0, ([] : List Int), 0, 2)) else (if (wrap64 ((x0.length : Int) - x1)) < (wrap64 (7 + x9)) then (some (0, ([] : List Int), 0, 1)) else ((spec_GetNum.f k x0 (wrap64 ((wrap64 (x1 + 3)) + x9)) 4).bind fun bt120 => (if 0 ≤ x1 then (if x1 ≤ (wrap64 ((wrap64 (x1 + 3)) + x9)) then (if (wrap64 ((wrap64 (x1 + 3)) + x9)) ≤ (x0.length : Int) then ((spec_Crc.f k ((x0.take ((wrap64 ((wrap64 (x1 + 3)) + x9)) : Int).toNat).drop (x1 : Int).toNat)).bind fun t123 => (if bt120.1 = t123 then ((some (([] : List Int) : List Int)).bind fun y124 => (if 0 ≤ (wrap64 (x1 + 3)) then (if (wrap64 (x1 + 3)) ≤ (wrap64 ((wrap64 (x1 + 3)) + x9)) then (if y124.length + ((x0.take ((wrap64 ((wrap64 (x1 + 3)) + x9)) : Int).toNat).drop ((wrap64 (x1 + 3)) : Int).toNat).length < 140737488355328 then (some (x8, (y124 ++ ((x0.take ((wrap64 ((wrap64 (x1 + 3)) + x9)) : Int).toNat).drop ((wrap64 (x1 + 3)) : Int).toNat)), wrap64 ((wrap64 (x1 + 7)) + x9), 0)) else (none)) else (none)) else (none))) else (some (0, ([] : List Int), 0, 3)))) else (none)) else (none)) else (none))))
end
def spec_FrameAt.f (k : Nat) (l0 : List Int) (a1 : Int) : Option (Int × List Int × Int × Int) := if (l0.length : Int) > 65536 then (spec_FrameAt.j0 k l0 a1 true) else (if a1 < 0 then (spec_FrameAt.j0 k l0 a1 true) else (if a1 > (l0.length : Int) then (spec_FrameAt.j0 k l0 a1 true) else (spec_FrameAt.j0 k l0 a1 (decide ((wrap64 ((l0.length : Int) - a1)) < 3)))))
theorem spec_FrameAt.mono_l : ∀ k, (∀ y0 y1 y2, LeO (spec_FrameAt.j0 k y0 y1 y2) (spec_FrameAt.j0 (k + 1) y0 y1 y2)) ∧ (∀ y0 y1 y2 y3 y4, LeO (spec_FrameAt.j1 k y0 y1 y2 y3 y4) (spec_FrameAt.j1 (k + 1) y0 y1 y2 y3 y4))
  | 0 => ⟨fun _ _ _ r h => by simp [spec_FrameAt.j0] at h, fun _ _ _ _ _ r h => by simp [spec_FrameAt.j1] at h⟩
  | k + 1 => by
    obtain ⟨ih0, ih1⟩ := spec_FrameAt.mono_l k
    refine ⟨?_, ?_⟩
    · intro y0 y1 y2
      unfold spec_FrameAt.j0
      repeat' first
      | (with_reducible exact ih0 _ _ _)
      | (with_reducible exact ih1 _ _ _ _ _)
      | (with_reducible exact spec_Crc.mono _ _)
      | (with_reducible exact spec_GetNum.mono _ _ _ _)
      | (with_reducible exact LeO.refl _)
      | (with_reducible exact LeO.none _)
      | (with_reducible refine LeO.ite ?_ ?_)
      | (with_reducible refine LeO.bind ?_ (fun _ => ?_))
      | exact ih0 _ _ _
      | exact ih1 _ _ _ _ _
      | exact spec_Crc.mono _ _
      | exact spec_GetNum.mono _ _ _ _
      | exact LeO.none _
      | refine LeO.ite ?_ ?_
      | refine LeO.bind ?_ (fun _ => ?_)
    · intro y0 y1 y2 y3 y4
      unfold spec_FrameAt.j1
      repeat' first
      | (with_reducible exact ih0 _ _ _)
      | (with_reducible exact ih1 _ _ _ _ _)
      | (with_reducible exact spec_Crc.mono _ _)
      | (with_reducible exact spec_GetNum.mono _ _ _ _)
      | (with_reducible exact LeO.refl _)
      | (with_reducible exact LeO.none _)
      | (with_reducible refine LeO.ite ?_ ?_)
      | (with_reducible refine LeO.bind ?_ (fun _ => ?_))
      | exact ih0 _ _ _
      | exact ih1 _ _ _ _ _
      | exact spec_Crc.mono _ _
      | exact spec_GetNum.mono _ _ _ _
      | exact LeO.none _
      | refine LeO.ite ?_ ?_
      | refine LeO.bind ?_ (fun _ => ?_)
theorem spec_FrameAt.mono : ∀ a0 a1 k, LeO (spec_FrameAt.f k a0 a1) (spec_FrameAt.f (k + 1) a0 a1) := by
  intro a0 a1 k
  obtain ⟨ih0, ih1⟩ := spec_FrameAt.mono_l k
  unfold spec_FrameAt.f
  repeat' first
      | (with_reducible exact ih0 _ _ _)
      | (with_reducible exact ih1 _ _ _ _ _)
      | (with_reducible exact spec_Crc.mono _ _)
      | (with_reducible exact spec_GetNum.mono _ _ _ _)
      | (with_reducible exact LeO.refl _)
      | (with_reducible exact LeO.none _)
      | (with_reducible refine LeO.ite ?_ ?_)
      | (with_reducible refine LeO.bind ?_ (fun _ => ?_))
      | exact ih0 _ _ _
      | exact ih1 _ _ _ _ _
      | exact spec_Crc.mono _ _
      | exact spec_GetNum.mono _ _ _ _
      | exact LeO.none _
      | refine LeO.ite ?_ ?_
      | refine LeO.bind ?_ (fun _ => ?_)
set_option maxHeartbeats 8000000 in
set_option maxRecDepth 100000 in
theorem spec_FrameAt.calls (k : Nat) (A0 : Option Addr) (c0 : Nat) (l0 : List Int) (a1 : Int) (r1 : Int) (r2 : List Int) (r3 : Int) (r4 : Int) (w : World) (hr0 : Kd.C (Kd.int .u8) w A0 l0.length l0) (hc0 : l0.length ≤ c0) (h : spec_FrameAt.f k l0 a1 = some (r1, r2, r3, r4)) :
    Calls Try.prog 19 #[.slice A0 l0.length c0, .int .i64 a1] w fun e w' => ∃ v1_ : Value, e = .returned (.tuple #[.int .i64 r1, v1_, .int .i64 r3, .int .i64 r4]) ∧ Kd.R (Kd.int .u8) 5 w' w.heap.size (fun _ => True) v1_ r2 ∧ Below w.heap.size w w' := by
  have HR0 := Aside0.mk hr0
  have HC0 := Aside0.mk hc0
  clear hr0 hc0
  have HB := Aside0.mk (Below.refl w.heap.size w)
  have H : (if (l0.length : Int) > 65536 then (spec_FrameAt.j0 k l0 a1 true) else (if a1 < 0 then (spec_FrameAt.j0 k l0 a1 true) else (if a1 > (l0.length : Int) then (spec_FrameAt.j0 k l0 a1 true) else (spec_FrameAt.j0 k l0 a1 (decide ((wrap64 ((l0.length : Int) - a1)) < 3)))))) = some (r1, r2, r3, r4) := h
  clear h
  have HC3 := Aside0.mk H
  clear H
  go_enter Try.func19, Try.ntmps19
  go_upto_region 1 with (fail)
  go_cut [32] (fun v32 wc => ∃ (kq : Nat) (x32_2 : Bool), v32 = .bool x32_2 ∧ Aside0 (spec_FrameAt.j0 kq l0 a1 x32_2 = some (r1, r2, r3, r4)) ∧ Aside0 (kq ≤ k) ∧ Aside0 (Below w.heap.size w wc))
  case first =>
    have H := HC3.out
    clear HC3
    by_cases c4 : (l0.length : Int) > 65536
    · rw [if_pos c4] at H
      have c4b0 : decide (65536 < (l0.length : Int)) = true := decide_eq_true c4
      have c4b1 : decide (65536 < l0.length) = true := decide_eq_true (by omega)
      clear c4
      (first | rw [c4b0] | (simp only [i64_w, i32_w]; rw [c4b0]) | skip)
      have H' := Aside0.mk H
      clear H
      go_wp2
      go_meet
      case rel => exact ⟨_, (true), (by first | rfl | (simp; done) | (simp [*]; done)), H', ⟨by first | omega | exact Nat.le_refl _⟩, ⟨by repeat (first | (with_reducible first | exact HB.out | apply below_alloc | apply pw_below_drewN | apply below_drew1) | exact HB.out)⟩⟩
    · rw [if_neg c4] at H
      have c4b0 : decide (65536 < (l0.length : Int)) = false := decide_eq_false c4
      have c4b1 : decide (65536 < l0.length) = false := decide_eq_false (by omega)
      clear c4
      (first | rw [c4b0] | (simp only [i64_w, i32_w]; rw [c4b0]) | skip)
      by_cases c5 : a1 < 0
      · rw [if_pos c5] at H
        have c5b0 : decide (a1 < 0) = true := decide_eq_true c5
        clear c5
        have H' := Aside0.mk H
        clear H
        go_wp2
        go_meet
        case rel => exact ⟨_, (true), (by first | rfl | (simp; done) | (simp [*]; done)), H', ⟨by first | omega | exact Nat.le_refl _⟩, ⟨by repeat (first | (with_reducible first | exact HB.out | apply below_alloc | apply pw_below_drewN | apply below_drew1) | exact HB.out)⟩⟩
      · rw [if_neg c5] at H
        have c5b0 : decide (a1 < 0) = false := decide_eq_false c5
        clear c5
        by_cases c6 : a1 > (l0.length : Int)
        · rw [if_pos c6] at H
          have c6b0 : decide ((l0.length : Int) < a1) = true := decide_eq_true c6
          clear c6
          have H' := Aside0.mk H
          clear H
          go_wp2
          go_meet
          case rel => exact ⟨_, (true), (by first | rfl | (simp; done) | (simp [*]; done)), H', ⟨by first | omega | exact Nat.le_refl _⟩, ⟨by repeat (first | (with_reducible first | exact HB.out | apply below_alloc | apply pw_below_drewN | apply below_drew1) | exact HB.out)⟩⟩
        · rw [if_neg c6] at H
          have c6b0 : decide ((l0.length : Int) < a1) = false := decide_eq_false c6
          clear c6
          have H' := Aside0.mk H
          clear H
          go_wp2
          go_meet
          case rel => exact ⟨_, (decide ((wrap64 ((l0.length : Int) - a1)) < 3)), (by first | rfl | (simp; done) | (simp [*]; done)), H', ⟨by first | omega | exact Nat.le_refl _⟩, ⟨by repeat (first | (with_reducible first | exact HB.out | apply below_alloc | apply pw_below_drewN | apply below_drew1) | exact HB.out)⟩⟩
  case rest =>
    clear HC3
    try clear c1
    try clear p2
    try clear c4
    try clear c4b0
    try clear c4b1
    try clear c5
    try clear c5b0
    try clear c6
    try clear c6b0
    try clear p6
    obtain ⟨kq, x32_2, rfl, HA, HJ2, HB⟩ := hcut
    cases kq with
    | zero => exact absurd HA.out (by simp [spec_FrameAt.j0])
    | succ kj2 =>
      have H := HA.out
      clear HA
      simp only [spec_FrameAt.j0] at H
      by_cases c7 : x32_2 = true
      · subst c7
        have H1 : (some (0, ([] : List Int), 0, 1)) = some (r1, r2, r3, r4) := by rw [if_pos rfl] at H; exact H
        clear H
        have H := H1
        clear H1
        simp only [Option.some.injEq, Prod.mk.injEq] at H
        obtain ⟨rfl, rfl, rfl, rfl⟩ := H
        go_wp2
        refine bodyPost_ret (results_list (rs := [.tmp 4, .tmp 5, .tmp 6, .tmp 7]) rfl (by simp) (.tmp (.tmp (.tmp (.tmp .nil))))) rfl ?_
        exact ⟨_, by first | rfl | (simp [errW_none, errW_some] <;> rfl) | (simp [*, errW_none, errW_some] <;> rfl), by first | exact Kd.R_nil _ _ _ _ _ | exact Kd.N_nil _ _ _ _ _ | exact Kd.V_nil _ _ _ _ _ | exact Kd.Q_nil _ _ _ _ _ | exact Kd.S_nil _ _ _ _ _, by repeat (first | (with_reducible first | exact HB.out | apply below_alloc | apply pw_below_drewN | apply below_drew1) | exact HB.out)⟩
      · replace c7 := Bool.eq_false_iff.mpr c7
        subst c7
        have H1 : (if 0 ≤ a1 then (if a1 < (l0.length : Int) then ((spec_GetNum.f kj2 l0 (wrap64 (a1 + 1)) 2).bind fun bt118 => (if (wrap64 (rd l0 a1)) = 0 then (spec_FrameAt.j1 kj2 l0 a1 (wrap64 (rd l0 a1)) bt118.1 true) else (spec_FrameAt.j1 kj2 l0 a1 (wrap64 (rd l0 a1)) bt118.1 (decide (bt118.1 > 1000))))) else (none)) else (none)) = some (r1, r2, r3, r4) := by rw [if_neg (show ¬ (false = true) by decide)] at H; exact H
        clear H
        have H := H1
        clear H1
        by_cases c8 : 0 ≤ a1
        · rw [if_pos c8] at H
          have c8b0 : decide (0 ≤ a1) = true := decide_eq_true c8
          clear c8
          by_cases c9 : a1 < (l0.length : Int)
          · rw [if_pos c9] at H
            have c9b0 : decide (a1 < (l0.length : Int)) = true := decide_eq_true c9
            clear c9
            replace H := Option.bind_eq_some_iff.mp H
            obtain ⟨⟨t118, t119⟩, A100, H⟩ := H
            replace H : (if (wrap64 (rd l0 a1)) = 0 then (spec_FrameAt.j1 kj2 l0 a1 (wrap64 (rd l0 a1)) t118 true) else (spec_FrameAt.j1 kj2 l0 a1 (wrap64 (rd l0 a1)) t118 (decide (t118 > 1000)))) = some (r1, r2, r3, r4) := H
            have A10 := Aside0.mk A100
            clear A100
            have HC11 := Aside0.mk H
            clear H
            have p117 : 0 ≤ (a1 : Int) := of_decide_eq_true (by first | (with_reducible assumption) | assumption)
            have q117 : a1 < (l0.length : Int) := of_decide_eq_true (by first | (with_reducible assumption) | assumption)
            obtain ⟨ad117, e117, hx117_0⟩ := Kd.at_int HR0.out a1 p117 q117
            cases e117
            replace hx117_0 := (HB.out.cell (World.block_lt_of_cell? w _ hx117_0)).trans hx117_0
            replace p117 := eq_true p117
            replace q117 := eq_true q117
            go_upto_region 5 with (first | ((with_reducible refine gate_callee (f := 44) rfl ?_); refine goesL_ (some 42) rfl rfl Try.func44 (by kernel_rfl) rfl #[.slice (some ad117) l0.length c0, .int .i64 (wrap64 (a1 + 1)), .int .i64 2] rfl (by (try simp only [List.map_toArray, List.map_cons, List.map_nil]); first | done | rfl | (simp only [List.length_drop, List.length_take]; rfl)) ?_; (with_reducible refine (spec_GetNum.calls kj2 _ _ l0 (wrap64 (a1 + 1)) 2 t118 t119 _ ?side1 ?side2 A10.out).mono ?_); (case side1 => repeat (first | exact (Kd.C_below HR0.out HB.out) | (with_reducible refine Kd.C_alloc ?_ _) | (with_reducible refine Kd.C_drewN ?_ _) | (with_reducible refine Kd.C_drew ?_))); (case side2 => exact HC0.out); rintro e w' ⟨rfl, ⟨nd, rfl⟩⟩; refine ⟨_, rfl, ?_⟩))
            (try simp only [Act.put, List.setIfInBounds_toArray, List.set_cons_zero, List.set_cons_succ])
            go_cut [50] (fun v50 wc => ∃ (kq : Nat) (x50_10 : Bool), v50 = .bool x50_10 ∧ Aside0 (spec_FrameAt.j1 kq l0 a1 (wrap64 (rd l0 a1)) t118 x50_10 = some (r1, r2, r3, r4)) ∧ Aside0 (kq ≤ kj2) ∧ Aside0 (Below w.heap.size w wc))
            case first =>
              have H := HC11.out
              clear HC11
              by_cases c12 : (wrap64 (rd l0 a1)) = 0
              · rw [if_pos c12] at H
                have c12b0 : ((wrap64 (rd l0 a1)) == 0) = true := beq_iff_eq.mpr c12
                have c12b1 : ((wrap64 (rd l0 a1)) != 0) = false := bne_eq_false_iff_eq.mpr c12
                clear c12
                (first | rw [c12b0] | (simp only [i64_w, i32_w]; rw [c12b0]) | skip)
                have H' := Aside0.mk H
                clear H
                go_wp2
                go_meet
                case rel => exact ⟨_, (true), (by first | rfl | (simp; done) | (simp [*]; done)), H', ⟨by have := HJ2.out; first | omega | exact Nat.le_refl _⟩, ⟨by repeat (first | (with_reducible first | exact HB.out | apply below_alloc | apply pw_below_drewN | apply below_drew1) | exact HB.out)⟩⟩
              · rw [if_neg c12] at H
                have c12b0 : ((wrap64 (rd l0 a1)) == 0) = false := beq_eq_false_iff_ne.mpr c12
                have c12b1 : ((wrap64 (rd l0 a1)) != 0) = true := bne_iff_ne.mpr c12
                (first | rw [c12b0] | (simp only [i64_w, i32_w]; rw [c12b0]) | skip)
                have H' := Aside0.mk H
                clear H
                go_wp2
                go_meet
                case rel => exact ⟨_, (decide (t118 > 1000)), (by first | rfl | (simp; done) | (simp [*]; done)), H', ⟨by have := HJ2.out; first | omega | exact Nat.le_refl _⟩, ⟨by repeat (first | (with_reducible first | exact HB.out | apply below_alloc | apply pw_below_drewN | apply below_drew1) | exact HB.out)⟩⟩
            case rest =>
              clear HC11
              try clear c1
              try clear p1
              try clear q1
              try clear hx1
              try clear p2
              try clear c4
              try clear c4b0
              try clear c4b1
              try clear c5
              try clear c5b0
              try clear c6
              try clear c6b0
              try clear p6
              try clear c7
              try clear c8
              try clear c8b0
              try clear c9
              try clear c9b0
              try clear p11
              try clear q11
              try clear hx11
              try clear c12
              try clear c12b0
              try clear c12b1
              try clear hx117_0
              try clear p117
              try clear p2
              try clear p6
              try clear q117
              obtain ⟨kq, x50_10, rfl, HA, HJ10, HB⟩ := hcut
              cases kq with
              | zero => exact absurd HA.out (by simp [spec_FrameAt.j1])
              | succ kj10 =>
                have H := HA.out
                clear HA
                simp only [spec_FrameAt.j1] at H
                by_cases c13 : x50_10 = true
                · subst c13
                  have H1 : (some (0, ([] : List Int), 0, 2)) = some (r1, r2, r3, r4) := by rw [if_pos rfl] at H; exact H
                  clear H
                  have H := H1
                  clear H1
                  simp only [Option.some.injEq, Prod.mk.injEq] at H
                  obtain ⟨rfl, rfl, rfl, rfl⟩ := H
                  go_wp2
                  refine bodyPost_ret (results_list (rs := [.tmp 4, .tmp 5, .tmp 6, .tmp 7]) rfl (by simp) (.tmp (.tmp (.tmp (.tmp .nil))))) rfl ?_
                  exact ⟨_, by first | rfl | (simp [errW_none, errW_some] <;> rfl) | (simp [*, errW_none, errW_some] <;> rfl), by first | exact Kd.R_nil _ _ _ _ _ | exact Kd.N_nil _ _ _ _ _ | exact Kd.V_nil _ _ _ _ _ | exact Kd.Q_nil _ _ _ _ _ | exact Kd.S_nil _ _ _ _ _, by repeat (first | (with_reducible first | exact HB.out | apply below_alloc | apply pw_below_drewN | apply below_drew1) | exact HB.out)⟩
                · replace c13 := Bool.eq_false_iff.mpr c13
                  subst c13
                  have H1 : (if (wrap64 ((l0.length : Int) - a1)) < (wrap64 (7 + t118)) then (some (0, ([] : List Int), 0, 1)) else ((spec_GetNum.f kj10 l0 (wrap64 ((wrap64 (a1 + 3)) + t118)) 4).bind fun bt120 => (if 0 ≤ a1 then (if a1 ≤ (wrap64 ((wrap64 (a1 + 3)) + t118)) then (if (wrap64 ((wrap64 (a1 + 3)) + t118)) ≤ (l0.length : Int) then ((spec_Crc.f kj10 ((l0.take ((wrap64 ((wrap64 (a1 + 3)) + t118)) : Int).toNat).drop (a1 : Int).toNat)).bind fun t123 => (if bt120.1 = t123 then ((some (([] : List Int) : List Int)).bind fun y124 => (if 0 ≤ (wrap64 (a1 + 3)) then (if (wrap64 (a1 + 3)) ≤ (wrap64 ((wrap64 (a1 + 3)) + t118)) then (if y124.length + ((l0.take ((wrap64 ((wrap64 (a1 + 3)) + t118)) : Int).toNat).drop ((wrap64 (a1 + 3)) : Int).toNat).length < 140737488355328 then (some ((wrap64 (rd l0 a1)), (y124 ++ ((l0.take ((wrap64 ((wrap64 (a1 + 3)) + t118)) : Int).toNat).drop ((wrap64 (a1 + 3)) : Int).toNat)), wrap64 ((wrap64 (a1 + 7)) + t118), 0)) else (none)) else (none)) else (none))) else (some (0, ([] : List Int), 0, 3)))) else (none)) else (none)) else (none)))) = some (r1, r2, r3, r4) := by rw [if_neg (show ¬ (false = true) by decide)] at H; exact H
                  clear H
                  have H := H1
                  clear H1
                  by_cases c14 : (wrap64 ((l0.length : Int) - a1)) < (wrap64 (7 + t118))
                  · rw [if_pos c14] at H
                    have c14b0 : decide ((wrap64 ((l0.length : Int) - a1)) < (wrap64 (7 + t118))) = true := decide_eq_true c14
                    clear c14
                    simp only [Option.some.injEq, Prod.mk.injEq] at H
                    obtain ⟨rfl, rfl, rfl, rfl⟩ := H
                    go_wp2
                    refine bodyPost_ret (results_list (rs := [.tmp 4, .tmp 5, .tmp 6, .tmp 7]) rfl (by simp) (.tmp (.tmp (.tmp (.tmp .nil))))) rfl ?_
                    exact ⟨_, by first | rfl | (simp [errW_none, errW_some] <;> rfl) | (simp [*, errW_none, errW_some] <;> rfl), by first | exact Kd.R_nil _ _ _ _ _ | exact Kd.N_nil _ _ _ _ _ | exact Kd.V_nil _ _ _ _ _ | exact Kd.Q_nil _ _ _ _ _ | exact Kd.S_nil _ _ _ _ _, by repeat (first | (with_reducible first | exact HB.out | apply below_alloc | apply pw_below_drewN | apply below_drew1) | exact HB.out)⟩
                  · rw [if_neg c14] at H
                    have c14b0 : decide ((wrap64 ((l0.length : Int) - a1)) < (wrap64 (7 + t118))) = false := decide_eq_false c14
                    clear c14
                    replace H := Option.bind_eq_some_iff.mp H
                    obtain ⟨⟨t120, t121⟩, A150, H⟩ := H
                    replace H : (if 0 ≤ a1 then (if a1 ≤ (wrap64 ((wrap64 (a1 + 3)) + t118)) then (if (wrap64 ((wrap64 (a1 + 3)) + t118)) ≤ (l0.length : Int) then ((spec_Crc.f kj10 ((l0.take ((wrap64 ((wrap64 (a1 + 3)) + t118)) : Int).toNat).drop (a1 : Int).toNat)).bind fun t123 => (if t120 = t123 then ((some (([] : List Int) : List Int)).bind fun y124 => (if 0 ≤ (wrap64 (a1 + 3)) then (if (wrap64 (a1 + 3)) ≤ (wrap64 ((wrap64 (a1 + 3)) + t118)) then (if y124.length + ((l0.take ((wrap64 ((wrap64 (a1 + 3)) + t118)) : Int).toNat).drop ((wrap64 (a1 + 3)) : Int).toNat).length < 140737488355328 then (some ((wrap64 (rd l0 a1)), (y124 ++ ((l0.take ((wrap64 ((wrap64 (a1 + 3)) + t118)) : Int).toNat).drop ((wrap64 (a1 + 3)) : Int).toNat)), wrap64 ((wrap64 (a1 + 7)) + t118), 0)) else (none)) else (none)) else (none))) else (some (0, ([] : List Int), 0, 3)))) else (none)) else (none)) else (none)) = some (r1, r2, r3, r4) := H
                    have A15 := Aside0.mk A150
                    clear A150
                    by_cases c16 : 0 ≤ a1
                    · rw [if_pos c16] at H
                      have c16b0 := eq_true c16
                      have c16b1 : decide (0 ≤ a1) = true := decide_eq_true c16
                      clear c16
                      by_cases c17 : a1 ≤ (wrap64 ((wrap64 (a1 + 3)) + t118))
                      · rw [if_pos c17] at H
                        have c17b0 := eq_true c17
                        have c17b1 : decide (a1 ≤ (wrap64 ((wrap64 (a1 + 3)) + t118))) = true := decide_eq_true c17
                        by_cases c18 : (wrap64 ((wrap64 (a1 + 3)) + t118)) ≤ (l0.length : Int)
                        · rw [if_pos c18] at H
                          have c18b0 := eq_true c18
                          have c18b1 : decide ((wrap64 ((wrap64 (a1 + 3)) + t118)) ≤ (l0.length : Int)) = true := decide_eq_true c18
                          replace H := Option.bind_eq_some_iff.mp H
                          obtain ⟨t123, A190, H⟩ := H
                          replace H : (if t120 = t123 then ((some (([] : List Int) : List Int)).bind fun y124 => (if 0 ≤ (wrap64 (a1 + 3)) then (if (wrap64 (a1 + 3)) ≤ (wrap64 ((wrap64 (a1 + 3)) + t118)) then (if y124.length + ((l0.take ((wrap64 ((wrap64 (a1 + 3)) + t118)) : Int).toNat).drop ((wrap64 (a1 + 3)) : Int).toNat).length < 140737488355328 then (some ((wrap64 (rd l0 a1)), (y124 ++ ((l0.take ((wrap64 ((wrap64 (a1 + 3)) + t118)) : Int).toNat).drop ((wrap64 (a1 + 3)) : Int).toNat)), wrap64 ((wrap64 (a1 + 7)) + t118), 0)) else (none)) else (none)) else (none))) else (some (0, ([] : List Int), 0, 3))) = some (r1, r2, r3, r4) := H
                          have A19 := Aside0.mk A190
                          clear A190
                          by_cases c20 : t120 = t123
                          · rw [if_pos c20] at H
                            have c20b0 : (t120 == t123) = true := beq_iff_eq.mpr c20
                            have c20b1 : (t120 != t123) = false := bne_eq_false_iff_eq.mpr c20
                            clear c20
                            obtain ⟨y124, hy124⟩ : ∃ y_ : List Int, y_ = (([] : List Int)) := ⟨_, rfl⟩
                            replace H : (if 0 ≤ (wrap64 (a1 + 3)) then (if (wrap64 (a1 + 3)) ≤ (wrap64 ((wrap64 (a1 + 3)) + t118)) then (if y124.length + ((l0.take ((wrap64 ((wrap64 (a1 + 3)) + t118)) : Int).toNat).drop ((wrap64 (a1 + 3)) : Int).toNat).length < 140737488355328 then (some ((wrap64 (rd l0 a1)), (y124 ++ ((l0.take ((wrap64 ((wrap64 (a1 + 3)) + t118)) : Int).toNat).drop ((wrap64 (a1 + 3)) : Int).toNat)), wrap64 ((wrap64 (a1 + 7)) + t118), 0)) else (none)) else (none)) else (none)) = some (r1, r2, r3, r4) := by first | (rw [hy124]; with_reducible exact H) | (have H2_ := (Option.bind_some _ _).symm.trans H; rw [hy124]; with_reducible exact H2_) | (have H2_ := (Option.bind_some _ _).symm.trans H; with_reducible exact H2_) | with_reducible exact H | (rw [hy124]; exact H) | exact H
                            have Ny124 := Aside0.mk hy124
                            clear hy124
                            obtain ⟨ji21, hji21⟩ : ∃ j_ : Int, (wrap64 (a1 + 3)) = j_ := ⟨_, rfl⟩
                            replace H : (if 0 ≤ (ji21) then (if (ji21) ≤ (wrap64 ((ji21) + t118)) then (if y124.length + ((l0.take ((wrap64 ((ji21) + t118)) : Int).toNat).drop ((ji21) : Int).toNat).length < 140737488355328 then (some ((wrap64 (rd l0 a1)), (y124 ++ ((l0.take ((wrap64 ((ji21) + t118)) : Int).toNat).drop ((ji21) : Int).toNat)), wrap64 ((wrap64 (a1 + 7)) + t118), 0)) else (none)) else (none)) else (none)) = some (r1, r2, r3, r4) := by first | (rw [hji21] at H; exact H) | (simp only [hji21] at H ⊢; exact H)
                            (try rw [hji21] at c17b0)
                            (try rw [hji21] at c17b1)
                            (try rw [hji21] at c17)
                            (try rw [hji21] at c18b0)
                            (try rw [hji21] at c18b1)
                            (try rw [hji21] at c18)
                            (try rw [hji21] at A15)
                            (try rw [hji21] at A19)
                            have hji21w : (IntKind.i64.wrap (a1 + 3)) = ji21 := (i64_w _).trans hji21
                            by_cases c22 : 0 ≤ (ji21)
                            · rw [if_pos c22] at H
                              have c22b0 := eq_true c22
                              have c22b1 : decide (0 ≤ (ji21)) = true := decide_eq_true c22
                              clear c22
                              by_cases c23 : (ji21) ≤ (wrap64 ((ji21) + t118))
                              · rw [if_pos c23] at H
                                have c23b0 := eq_true c23
                                have c23b1 : decide ((ji21) ≤ (wrap64 ((ji21) + t118))) = true := decide_eq_true c23
                                have c24b0 := eq_true (of_decide_eq_true (by first | (with_reducible assumption) | assumption) : (wrap64 ((ji21) + t118)) ≤ (l0.length : Int))
                                by_cases c25 : y124.length + ((l0.take ((wrap64 ((ji21) + t118)) : Int).toNat).drop ((ji21) : Int).toNat).length < 140737488355328
                                · rw [if_pos c25] at H
                                  have LMc25 := Aside0.mk c25
                                  clear c25
                                  obtain ⟨y128, hy128⟩ : ∃ y_ : List Int, y_ = (y124 ++ ((l0.take ((wrap64 ((ji21) + t118)) : Int).toNat).drop ((ji21) : Int).toNat)) := ⟨_, rfl⟩
                                  replace H : (some ((wrap64 (rd l0 a1)), y128, wrap64 ((wrap64 (a1 + 7)) + t118), 0)) = some (r1, r2, r3, r4) := by first | (rw [hy128]; with_reducible exact H) | (have H2_ := (Option.bind_some _ _).symm.trans H; rw [hy128]; with_reducible exact H2_) | (have H2_ := (Option.bind_some _ _).symm.trans H; with_reducible exact H2_) | with_reducible exact H | (rw [hy128]; exact H) | exact H
                                  have Ny128 := Aside0.mk hy128
                                  clear hy128
                                  simp only [Option.some.injEq, Prod.mk.injEq] at H
                                  obtain ⟨rfl, rfl, rfl, rfl⟩ := H
                                  go_wp2_with (first | ((with_reducible refine gate_callee (f := 44) rfl ?_); refine goesL_ (some 64) rfl rfl Try.func44 (by kernel_rfl) rfl #[.slice (some ad117) l0.length c0, .int .i64 (wrap64 ((ji21) + t118)), .int .i64 4] rfl (by (try simp only [List.map_toArray, List.map_cons, List.map_nil]); first | done | (simp only [hji21]; rfl) | rfl | (simp only [List.length_drop, List.length_take]; rfl)) ?_; (with_reducible refine (spec_GetNum.calls kj10 _ _ l0 (wrap64 ((ji21) + t118)) 4 t120 t121 _ ?side1 ?side2 A15.out).mono ?_); (case side1 => repeat (first | exact (Kd.C_below HR0.out HB.out) | (with_reducible refine Kd.C_alloc ?_ _) | (with_reducible refine Kd.C_drewN ?_ _) | (with_reducible refine Kd.C_drew ?_))); (case side2 => exact HC0.out); rintro e w' ⟨rfl, ⟨nd, rfl⟩⟩; refine ⟨_, rfl, ?_⟩; obtain ⟨i026, hi026, _, hsz26, _⟩ := info_parts info5; obtain ⟨A26, hcut26, hA26, hC26⟩ := print_mid_of (P := Try.prog) (Value.int .u8) 0 22 5 .i64 .i64 Try.underlying22 hi026 hsz26 (some ad117) c0 l0 a1 (wrap64 ((ji21) + t118)) (of_decide_eq_true (by first | (with_reducible assumption) | assumption)) (by first | omega | exact of_decide_eq_true (by first | (with_reducible assumption) | assumption)) (of_decide_eq_true (by first | (with_reducible assumption) | assumption)) HC0.out; have HR122 := Aside0.mk (Kd.C_of_reads (h1 := fun _ => rfl) (hA26 _ (Kd.reads_of_C HR0.out))); have HC122 := Aside0.mk hC26; clear hA26 hC26 hi026 hsz26) | ((with_reducible refine gate_callee (f := 11) rfl ?_); refine goesL_ (some 75) rfl rfl Try.func11 (by kernel_rfl) rfl #[.slice A26 ((l0.take ((wrap64 ((ji21) + t118)) : Int).toNat).drop (a1 : Int).toNat).length (c0 - a1.toNat)] rfl (by (try simp only [List.map_toArray, List.map_cons, List.map_nil]); first | done | (rw [show ((l0.take ((wrap64 ((ji21) + t118)) : Int).toNat).drop (a1 : Int).toNat).length = ((wrap64 ((ji21) + t118)).toNat - a1.toNat) from (by rw [List.length_drop, List.length_take]; have h_ : ((wrap64 ((ji21) + t118)) : Int) ≤ (l0.length : Int) := of_decide_eq_true (by first | (with_reducible assumption) | assumption); omega)] <;> rfl) | (simp only [hji21]; rfl) | rfl | (simp only [List.length_drop, List.length_take]; rfl)) ?_; (with_reducible refine (spec_Crc.calls kj10 _ _ ((l0.take ((wrap64 ((ji21) + t118)) : Int).toNat).drop (a1 : Int).toNat) t123 _ ?side1 ?side2 A19.out).mono ?_); (case side1 => repeat (first | exact (Kd.C_below HR122.out (by repeat (first | (with_reducible first | exact HB.out | apply below_alloc | apply pw_below_drewN | apply below_drew1) | exact HB.out))) | (with_reducible refine Kd.C_alloc ?_ _) | (with_reducible refine Kd.C_drewN ?_ _) | (with_reducible refine Kd.C_drew ?_))); (case side2 => exact HC122.out); rintro e w' ⟨rfl, ⟨nd, rfl⟩⟩; refine ⟨_, rfl, ?_⟩) | ((with_reducible refine gate_dst (N := 78) rfl ?_); (try (refine gate_guard (by rfl) ?_; dsimp only)); refine Kd.R_lit (Kd.int .u8) _ 5 ?hg (N := 78) ?hd (xs := ([] : List Int)) (inner := []) (ok := fun _ => True) (okp := fun _ => True) ?hr ?hp (fun _ hk => hk) trivial (Below.refl _ _) (Nat.le_refl _) (by simp) ?_; (case hd => rfl); (case hg => rfl); (case hr => first | (go_simp; done) | (go_simp; rfl)); (case hp => exact (Reps.none _ _)); intro v125 w27 ho28 hb hg_ hnew_; clear hg_ hnew_; (first | rw [← Ny124.out] at ho28 | (simp only [Int.reduceToNat] at ho28; rw [← Ny124.out] at ho28)); have n0_ := Aside0.mk (Kd.R_lower ho28 (below_size (by repeat (first | (with_reducible first | exact HB.out | apply below_alloc | apply pw_below_drewN | apply below_drew1) | exact HB.out)))); have n1_ := Aside0.mk (below_step (by repeat (first | (with_reducible first | exact HB.out | apply below_alloc | apply pw_below_drewN | apply below_drew1) | exact HB.out)) hb); clear HB; have HO126 := n0_; have HB := n1_; clear n0_ n1_; clear hb ho28; obtain ⟨i029, hi029, _, hsz29, _⟩ := info_parts info5; obtain ⟨A29, hcut29, hA29, hC29⟩ := print_mid_of (P := Try.prog) (Value.int .u8) 0 22 5 .i64 .i64 Try.underlying22 hi029 hsz29 (some ad117) c0 l0 (ji21) (wrap64 ((ji21) + t118)) (of_decide_eq_true (by first | (with_reducible assumption) | assumption)) (by first | omega | exact of_decide_eq_true (by first | (with_reducible assumption) | assumption)) (of_decide_eq_true (by first | (with_reducible assumption) | assumption)) HC0.out; have HR127 := Aside0.mk (Kd.C_of_reads (h1 := fun _ => rfl) (hA29 _ (Kd.reads_of_C HR0.out))); have HC127 := Aside0.mk hC29; clear hA29 hC29 hi029 hsz29) | ((with_reducible refine gate_builtin (b := .append) (xs := #[.tmp 78, .tmp 86]) rfl ?_); (try (refine gate_guard (by rfl) ?_; dsimp only)); at_builtin; refine Kd.R_append_rows (Kd.int .u8) (w0 := w) w.heap.size rfl (.tmp 78) (.tmp 86) 22 5 (.int .u8 0) 1 rfl Try.underlying22 info5 rfl (by decide) (by omega) v125 y124 ((l0.take ((wrap64 ((ji21) + t118)) : Int).toNat).drop ((ji21) : Int).toNat) _ _ _ (fun _ => True) (fun _ => False) rfl rfl ?aO ?aR (fun _ _ h => h) (fun _ h => h.elim) ?aF ?aB ?aS ?aL ?_; (case aR => first | (rw [← show ((l0.take ((wrap64 ((ji21) + t118)) : Int).toNat).drop ((ji21) : Int).toNat).length = ((wrap64 ((ji21) + t118)).toNat - (ji21).toNat) from (by rw [List.length_drop, List.length_take]; have h_ : ((wrap64 ((ji21) + t118)) : Int) ≤ (l0.length : Int) := of_decide_eq_true (by first | (with_reducible assumption) | assumption); omega)]; repeat (first | exact (Kd.C_below HR127.out HB.out) | (with_reducible refine Kd.C_alloc ?_ _) | (with_reducible refine Kd.C_drewN ?_ _) | (with_reducible refine Kd.C_drew ?_))) | (repeat (first | exact (Kd.C_below HR127.out HB.out) | (with_reducible refine Kd.C_alloc ?_ _) | (with_reducible refine Kd.C_drewN ?_ _) | (with_reducible refine Kd.C_drew ?_)))); (case aB => exact (by repeat (first | (with_reducible first | exact HB.out | apply below_alloc | apply pw_below_drewN | apply below_drew1) | exact HB.out))); (case aF => exact (fun _ _ => trivial)); (case aO => exact (by (with_reducible repeat (first | apply Kd.R_alloc | apply Kd.R_drewN | apply Kd.R_drew)); exact HO126.out)); (case aS => exact (below_size (by repeat (first | (with_reducible first | exact HB.out | apply below_alloc | apply pw_below_drewN | apply below_drew1) | exact HB.out)))); (case aL => have := LMc25.out; have hlx_ := (show ((l0.take ((wrap64 ((ji21) + t118)) : Int).toNat).drop ((ji21) : Int).toNat).length = ((wrap64 ((ji21) + t118)).toNat - (ji21).toNat) from (by rw [List.length_drop, List.length_take]; have h_ : ((wrap64 ((ji21) + t118)) : Int) ≤ (l0.length : Int) := of_decide_eq_true (by first | (with_reducible assumption) | assumption); omega)); omega); intro v129 w30 ho hb hg hat; rw [← Ny128.out] at ho; have n0_ := Aside0.mk (hb); have n1_ := Aside0.mk (ho); clear HB; clear HO126; have HB := n0_; have HO130 := n1_; clear n0_ n1_; clear ho hb hg hat))
                                  refine bodyPost_ret (results_list (rs := [.tmp 4, .tmp 5, .tmp 6, .tmp 7]) rfl (by simp) (.tmp (.tmp (.tmp (.tmp .nil))))) rfl ?_
                                  exact ⟨_, by first | rfl | (simp [errW_none, errW_some] <;> rfl) | (simp only [← hji21]; first | rfl | (simp [errW_none, errW_some] <;> rfl)) | (simp [*, errW_none, errW_some] <;> rfl), by (with_reducible repeat (first | apply Kd.R_alloc | apply Kd.R_drewN | apply Kd.R_drew)); exact HO130.out, by repeat (first | (with_reducible first | exact HB.out | apply below_alloc | apply pw_below_drewN | apply below_drew1) | exact HB.out)⟩
                                · rw [if_neg c25] at H
                                  exact absurd H (by simp)
                              · rw [if_neg c23] at H
                                exact absurd H (by simp)
                            · rw [if_neg c22] at H
                              exact absurd H (by simp)
                          · rw [if_neg c20] at H
                            have c20b0 : (t120 == t123) = false := beq_eq_false_iff_ne.mpr c20
                            have c20b1 : (t120 != t123) = true := bne_iff_ne.mpr c20
                            simp only [Option.some.injEq, Prod.mk.injEq] at H
                            obtain ⟨rfl, rfl, rfl, rfl⟩ := H
                            go_wp2_with (first | ((with_reducible refine gate_callee (f := 44) rfl ?_); refine goesL_ (some 64) rfl rfl Try.func44 (by kernel_rfl) rfl #[.slice (some ad117) l0.length c0, .int .i64 (wrap64 ((wrap64 (a1 + 3)) + t118)), .int .i64 4] rfl (by (try simp only [List.map_toArray, List.map_cons, List.map_nil]); first | done | rfl | (simp only [List.length_drop, List.length_take]; rfl)) ?_; (with_reducible refine (spec_GetNum.calls kj10 _ _ l0 (wrap64 ((wrap64 (a1 + 3)) + t118)) 4 t120 t121 _ ?side1 ?side2 A15.out).mono ?_); (case side1 => repeat (first | exact (Kd.C_below HR0.out HB.out) | (with_reducible refine Kd.C_alloc ?_ _) | (with_reducible refine Kd.C_drewN ?_ _) | (with_reducible refine Kd.C_drew ?_))); (case side2 => exact HC0.out); rintro e w' ⟨rfl, ⟨nd, rfl⟩⟩; refine ⟨_, rfl, ?_⟩; obtain ⟨i031, hi031, _, hsz31, _⟩ := info_parts info5; obtain ⟨A31, hcut31, hA31, hC31⟩ := print_mid_of (P := Try.prog) (Value.int .u8) 0 22 5 .i64 .i64 Try.underlying22 hi031 hsz31 (some ad117) c0 l0 a1 (wrap64 ((wrap64 (a1 + 3)) + t118)) (of_decide_eq_true (by first | (with_reducible assumption) | assumption)) (by first | omega | exact of_decide_eq_true (by first | (with_reducible assumption) | assumption)) (of_decide_eq_true (by first | (with_reducible assumption) | assumption)) HC0.out; have HR122 := Aside0.mk (Kd.C_of_reads (h1 := fun _ => rfl) (hA31 _ (Kd.reads_of_C HR0.out))); have HC122 := Aside0.mk hC31; clear hA31 hC31 hi031 hsz31) | ((with_reducible refine gate_callee (f := 11) rfl ?_); refine goesL_ (some 75) rfl rfl Try.func11 (by kernel_rfl) rfl #[.slice A31 ((l0.take ((wrap64 ((wrap64 (a1 + 3)) + t118)) : Int).toNat).drop (a1 : Int).toNat).length (c0 - a1.toNat)] rfl (by (try simp only [List.map_toArray, List.map_cons, List.map_nil]); first | done | (rw [show ((l0.take ((wrap64 ((wrap64 (a1 + 3)) + t118)) : Int).toNat).drop (a1 : Int).toNat).length = ((wrap64 ((wrap64 (a1 + 3)) + t118)).toNat - a1.toNat) from (by rw [List.length_drop, List.length_take]; have h_ : ((wrap64 ((wrap64 (a1 + 3)) + t118)) : Int) ≤ (l0.length : Int) := of_decide_eq_true (by first | (with_reducible assumption) | assumption); omega)] <;> rfl) | rfl | (simp only [List.length_drop, List.length_take]; rfl)) ?_; (with_reducible refine (spec_Crc.calls kj10 _ _ ((l0.take ((wrap64 ((wrap64 (a1 + 3)) + t118)) : Int).toNat).drop (a1 : Int).toNat) t123 _ ?side1 ?side2 A19.out).mono ?_); (case side1 => repeat (first | exact (Kd.C_below HR122.out (by repeat (first | (with_reducible first | exact HB.out | apply below_alloc | apply pw_below_drewN | apply below_drew1) | exact HB.out))) | (with_reducible refine Kd.C_alloc ?_ _) | (with_reducible refine Kd.C_drewN ?_ _) | (with_reducible refine Kd.C_drew ?_))); (case side2 => exact HC122.out); rintro e w' ⟨rfl, ⟨nd, rfl⟩⟩; refine ⟨_, rfl, ?_⟩))
                            refine bodyPost_ret (results_list (rs := [.tmp 4, .tmp 5, .tmp 6, .tmp 7]) rfl (by simp) (.tmp (.tmp (.tmp (.tmp .nil))))) rfl ?_
                            exact ⟨_, by first | rfl | (simp [errW_none, errW_some] <;> rfl) | (simp [*, errW_none, errW_some] <;> rfl), by first | exact Kd.R_nil _ _ _ _ _ | exact Kd.N_nil _ _ _ _ _ | exact Kd.V_nil _ _ _ _ _ | exact Kd.Q_nil _ _ _ _ _ | exact Kd.S_nil _ _ _ _ _, by repeat (first | (with_reducible first | exact HB.out | apply below_alloc | apply pw_below_drewN | apply below_drew1) | exact HB.out)⟩
                        · rw [if_neg c18] at H
                          exact absurd H (by simp)
                      · rw [if_neg c17] at H
                        exact absurd H (by simp)
                    · rw [if_neg c16] at H
                      exact absurd H (by simp)
          · rw [if_neg c9] at H
            exact absurd H (by simp)
        · rw [if_neg c8] at H
          exact absurd H (by simp)

/-! ### spec_l5in: function 49 -/
def spec_l5in.f (a0 : Int) (a1 : Int) (a2 : Int) : Option (Bool) := if a0 ≥ a1 then (some (decide (a0 ≤ a2))) else (some false)
set_option maxHeartbeats 8000000 in
set_option maxRecDepth 100000 in
theorem spec_l5in.calls (a0 : Int) (a1 : Int) (a2 : Int) (r : Bool) (w : World) (h : spec_l5in.f a0 a1 a2 = some r) :
    Calls Try.prog 49 #[.int .i64 a0, .int .i64 a1, .int .i64 a2] w fun e w' => e = .returned (.bool r) ∧ Drawn0 w w' := by
  have H : (if a0 ≥ a1 then (some (decide (a0 ≤ a2))) else (some false)) = some r := h
  clear h
  by_cases c4 : a0 ≥ a1
  · rw [if_pos c4] at H
    have c4b0 : decide (a1 ≤ a0) = true := decide_eq_true c4
    clear c4
    obtain rfl := Option.some.inj H
    go_enter Try.func49, Try.ntmps49
    go_wp2
    go_ret
    exact ⟨by first | rfl | (simp; done) | (simp [*]; done), by repeat (first | exact Drawn0.refl _ | apply Drawn0.step)⟩
  · rw [if_neg c4] at H
    have c4b0 : decide (a1 ≤ a0) = false := decide_eq_false c4
    clear c4
    obtain rfl := Option.some.inj H
    go_enter Try.func49, Try.ntmps49
    go_wp2
    go_ret
    exact ⟨by first | rfl | (simp; done) | (simp [*]; done), by repeat (first | exact Drawn0.refl _ | apply Drawn0.step)⟩

end Go.Proofs.Ytkbclccnnllddaa.PFnExactRecordAt
