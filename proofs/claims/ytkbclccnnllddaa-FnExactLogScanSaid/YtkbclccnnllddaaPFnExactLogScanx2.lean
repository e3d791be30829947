-- By this session's own program (wip/xprint.py), over the kit's print.
import Derived.Test.YtkbclccnnllddaaPFnExactLogScanx0
import Derived.Test.YtkbclccnnllddaaPFnExactLogScanx1
namespace Go.Proofs.Ytkbclccnnllddaa.PFnExactLogScan
open Go.RowKit Go.Proofs.YtkbclccnnllddaaW.PrintWords Go.Proofs.YtkbclccnnllddaaW.PrintLast Go.Proofs.YtkbclccnnllddaaW.PrintMore
attribute [local go_sem] max2_int min2_int max_two min_two max_three min_three max_four min_four   -- for this text's walks alone
attribute [local go_sem high] fl_eql fl_neq fl_lss fl_leq fl_gtr fl_geq fl_add fl_sub fl_mul fl_quo fl_neg fl_ofInt fl_toInt fl_store
set_option linter.unusedVariables false
set_option linter.unusedSimpArgs false

/-! ### spec_FrameAt: function 19 -/
mutual
def spec_FrameAt.j0 : Nat → List Int → Int → Bool → Option (Int × List Int × Int × Int)
  | 0, _, _, _ => none
  | k + 1, x0, x1, x32 => if x32 = true then (some (0, ([] : List Int), 0, 1)) else (if 0 ≤ x1 then (if x1 < (x0.length : Int) then ((spec_GetNum.f k x0 (wrap64 (x1 + 1)) 2).bind fun bt112 => (if (wrap64 (rd x0 x1)) = 0 then (spec_FrameAt.j1 k x0 x1 (wrap64 (rd x0 x1)) bt112.1 true) else (spec_FrameAt.j1 k x0 x1 (wrap64 (rd x0 x1)) bt112.1 (decide (bt112.1 > 1000))))) else (none)) else (none))
def spec_FrameAt.j1 : Nat → List Int → Int → Int → Int → Bool → Option (Int × List Int × Int × Int)
  | 0, _, _, _, _, _ => none
  | k + 1, x0, x1, x8, x9, x50 => if x50 = true then (some (0, ([] : List Int), 0, 2)) else (if (wrap64 ((x0.length : Int) - x1)) < (wrap64 (7 + x9)) then (some (0, ([] : List Int), 0, 1)) else ((spec_GetNum.f k x0 (wrap64 ((wrap64 (x1 + 3)) + x9)) 4).bind fun bt114 => (if 0 ≤ x1 then (if x1 ≤ (wrap64 ((wrap64 (x1 + 3)) + x9)) then (if (wrap64 ((wrap64 (x1 + 3)) + x9)) ≤ (x0.length : Int) then ((spec_Crc.f k ((x0.take ((wrap64 ((wrap64 (x1 + 3)) + x9)) : Int).toNat).drop (x1 : Int).toNat)).bind fun t117 => (if bt114.1 = t117 then ((some (([] : List Int) : List Int)).bind fun y118 => (if 0 ≤ (wrap64 (x1 + 3)) then (if (wrap64 (x1 + 3)) ≤ (wrap64 ((wrap64 (x1 + 3)) + x9)) then (if y118.length + ((x0.take ((wrap64 ((wrap64 (x1 + 3)) + x9)) : Int).toNat).drop ((wrap64 (x1 + 3)) : Int).toNat).length < 140737488355328 then (some (x8, (y118 ++ ((x0.take ((wrap64 ((wrap64 (x1 + 3)) + x9)) : Int).toNat).drop ((wrap64 (x1 + 3)) : Int).toNat)), wrap64 ((wrap64 (x1 + 7)) + x9), 0)) else (none)) else (none)) else (none))) else (some (0, ([] : List Int), 0, 3)))) else (none)) else (none)) else (none))))
end
def spec_FrameAt.f (k : Nat) (l0 : List Int) (a1 : Int) : Option (Int × List Int × Int × Int) := if (l0.length : Int) > 65536 then (spec_FrameAt.j0 k l0 a1 true) else (if a1 < 0 then (spec_FrameAt.j0 k l0 a1 true) else (if a1 > (l0.length : Int) then (spec_FrameAt.j0 k l0 a1 true) else (spec_FrameAt.j0 k l0 a1 (decide ((wrap64 ((l0.length : Int) - a1)) < 3)))))
theorem spec_FrameAt.mono_l : ∀ k, (∀ y0 y1 y2, LeO (spec_FrameAt.j0 k y0 y1 y2) (spec_FrameAt.j0 (k + 1) y0 y1 y2)) ∧ (∀ y0 y1 y2 y3 y4, LeO (spec_FrameAt.j1 k y0 y1 y2 y3 y4) (spec_FrameAt.j1 (k + 1) y0 y1 y2 y3 y4))
  | 0 => ⟨fun _ _ _ r h => by simp [spec_FrameAt.j0] at h, fun _ _ _ _ _ r h => by simp [spec_FrameAt.j1] at h⟩
  | k + 1 => by
    obtain ⟨ih0, ih1⟩ := spec_FrameAt.mono_l k
    refine ⟨?_, ?_⟩
    · intro y0 y1 y2
      unfold spec_FrameAt.j0
      repeat' first
      | (with_reducible exact ih0 _ _ _)
      | (with_reducible exact ih1 _ _ _ _ _)
      | (with_reducible exact spec_Crc.mono _ _)
      | (with_reducible exact spec_GetNum.mono _ _ _ _)
      | (with_reducible exact LeO.refl _)
      | (with_reducible exact LeO.none _)
      | (with_reducible refine LeO.ite ?_ ?_)
      | (with_reducible refine LeO.bind ?_ (fun _ => ?_))
      | exact ih0 _ _ _
      | exact ih1 _ _ _ _ _
      | exact spec_Crc.mono _ _
      | exact spec_GetNum.mono _ _ _ _
      | exact LeO.none _
      | refine LeO.ite ?_ ?_
      | refine LeO.bind ?_ (fun _ => ?_)
    · intro y0 y1 y2 y3 y4
      unfold spec_FrameAt.j1
      repeat' first
      | (with_reducible exact ih0 _ _ _)
      | (with_reducible exact ih1 _ _ _ _ _)
      | (with_reducible exact spec_Crc.mono _ _)
      | (with_reducible exact spec_GetNum.mono _ _ _ _)
      | (with_reducible exact LeO.refl _)
      | (with_reducible exact LeO.none _)
      | (with_reducible refine LeO.ite ?_ ?_)
      | (with_reducible refine LeO.bind ?_ (fun _ => ?_))
      | exact ih0 _ _ _
      | exact ih1 _ _ _ _ _
      | exact spec_Crc.mono _ _
      | exact spec_GetNum.mono _ _ _ _
      | exact LeO.none _
      | refine LeO.ite ?_ ?_
      | refine LeO.bind ?_ (fun _ => ?_)
theorem spec_FrameAt.mono : ∀ a0 a1 k, LeO (spec_FrameAt.f k a0 a1) (spec_FrameAt.f (k + 1) a0 a1) := by
  intro a0 a1 k
  obtain ⟨ih0, ih1⟩ := spec_FrameAt.mono_l k
  unfold spec_FrameAt.f
  repeat' first
      | (with_reducible exact ih0 _ _ _)
      | (with_reducible exact ih1 _ _ _ _ _)
      | (with_reducible exact spec_Crc.mono _ _)
      | (with_reducible exact spec_GetNum.mono _ _ _ _)
      | (with_reducible exact LeO.refl _)
      | (with_reducible exact LeO.none _)
      | (with_reducible refine LeO.ite ?_ ?_)
      | (with_reducible refine LeO.bind ?_ (fun _ => ?_))
      | exact ih0 _ _ _
      | exact ih1 _ _ _ _ _
      | exact spec_Crc.mono _ _
      | exact spec_GetNum.mono _ _ _ _
      | exact LeO.none _
      | refine LeO.ite ?_ ?_
      | refine LeO.bind ?_ (fun _ => ?_)
set_option maxHeartbeats 8000000 in
set_option maxRecDepth 100000 in
theorem spec_FrameAt.calls (k : Nat) (A0 : Option Addr) (c0 : Nat) (l0 : List Int) (a1 : Int) (r1 : Int) (r2 : List Int) (r3 : Int) (r4 : Int) (w : World) (hr0 : Kd.C (Kd.int .u8) w A0 l0.length l0) (hc0 : l0.length ≤ c0) (h : spec_FrameAt.f k l0 a1 = some (r1, r2, r3, r4)) :
    Calls Try.prog 19 #[.slice A0 l0.length c0, .int .i64 a1] w fun e w' => ∃ v1_ : Value, e = .returned (.tuple #[.int .i64 r1, v1_, .int .i64 r3, .int .i64 r4]) ∧ Kd.R (Kd.int .u8) 5 w' w.heap.size (fun _ => True) v1_ r2 ∧ Below w.heap.size w w' := by
  have HR0 := Aside0.mk hr0
  have HC0 := Aside0.mk hc0
  clear hr0 hc0
  have HB := Aside0.mk (Below.refl w.heap.size w)
  have H : (if (l0.length : Int) > 65536 then (spec_FrameAt.j0 k l0 a1 true) else (if a1 < 0 then (spec_FrameAt.j0 k l0 a1 true) else (if a1 > (l0.length : Int) then (spec_FrameAt.j0 k l0 a1 true) else (spec_FrameAt.j0 k l0 a1 (decide ((wrap64 ((l0.length : Int) - a1)) < 3)))))) = some (r1, r2, r3, r4) := h
  clear h
  have HC3 := Aside0.mk H
  clear H
  go_enter Try.func19, Try.ntmps19
  go_upto_region 1 with (fail)
  go_cut [32] (fun v32 wc => ∃ (kq : Nat) (x32_2 : Bool), v32 = .bool x32_2 ∧ Aside0 (spec_FrameAt.j0 kq l0 a1 x32_2 = some (r1, r2, r3, r4)) ∧ Aside0 (kq ≤ k) ∧ Aside0 (Below w.heap.size w wc))
  case first =>
    have H := HC3.out
    clear HC3
    by_cases c4 : (l0.length : Int) > 65536
    · rw [if_pos c4] at H
      have c4b0 : decide (65536 < (l0.length : Int)) = true := decide_eq_true c4
      have c4b1 : decide (65536 < l0.length) = true := decide_eq_true (by omega)
      clear c4
      (first | rw [c4b0] | (simp only [i64_w, i32_w]; rw [c4b0]) | skip)
      have H' := Aside0.mk H
      clear H
      go_wp2
      go_meet
      case rel => exact ⟨_, (true), (by first | rfl | (simp; done) | (simp [*]; done)), H', ⟨by first | omega | exact Nat.le_refl _⟩, ⟨by repeat (first | (with_reducible first | exact HB.out | apply below_alloc | apply pw_below_drewN | apply below_drew1) | exact HB.out)⟩⟩
    · rw [if_neg c4] at H
      have c4b0 : decide (65536 < (l0.length : Int)) = false := decide_eq_false c4
      have c4b1 : decide (65536 < l0.length) = false := decide_eq_false (by omega)
      clear c4
      (first | rw [c4b0] | (simp only [i64_w, i32_w]; rw [c4b0]) | skip)
      by_cases c5 : a1 < 0
      · rw [if_pos c5] at H
        have c5b0 : decide (a1 < 0) = true := decide_eq_true c5
        clear c5
        have H' := Aside0.mk H
        clear H
        go_wp2
        go_meet
        case rel => exact ⟨_, (true), (by first | rfl | (simp; done) | (simp [*]; done)), H', ⟨by first | omega | exact Nat.le_refl _⟩, ⟨by repeat (first | (with_reducible first | exact HB.out | apply below_alloc | apply pw_below_drewN | apply below_drew1) | exact HB.out)⟩⟩
      · rw [if_neg c5] at H
        have c5b0 : decide (a1 < 0) = false := decide_eq_false c5
        clear c5
        by_cases c6 : a1 > (l0.length : Int)
        · rw [if_pos c6] at H
          have c6b0 : decide ((l0.length : Int) < a1) = true := decide_eq_true c6
          clear c6
          have H' := Aside0.mk H
          clear H
          go_wp2
          go_meet
          case rel => exact ⟨_, (true), (by first | rfl | (simp; done) | (simp [*]; done)), H', ⟨by first | omega | exact Nat.le_refl _⟩, ⟨by repeat (first | (with_reducible first | exact HB.out | apply below_alloc | apply pw_below_drewN | apply below_drew1) | exact HB.out)⟩⟩
        · rw [if_neg c6] at H
          have c6b0 : decide ((l0.length : Int) < a1) = false := decide_eq_false c6
          clear c6
          have H' := Aside0.mk H
          clear H
          go_wp2
          go_meet
          case rel => exact ⟨_, (decide ((wrap64 ((l0.length : Int) - a1)) < 3)), (by first | rfl | (simp; done) | (simp [*]; done)), H', ⟨by first | omega | exact Nat.le_refl _⟩, ⟨by repeat (first | (with_reducible first | exact HB.out | apply below_alloc | apply pw_below_drewN | apply below_drew1) | exact HB.out)⟩⟩
  case rest =>
    clear HC3
    try clear c1
    try clear p2
    try clear c4
    try clear c4b0
    try clear c4b1
    try clear c5
    try clear c5b0
    try clear c6
    try clear c6b0
    try clear p6
    obtain ⟨kq, x32_2, rfl, HA, HJ2, HB⟩ := hcut
    cases kq with
    | zero => exact absurd HA.out (by simp [spec_FrameAt.j0])
    | succ kj2 =>
      have H := HA.out
      clear HA
      simp only [spec_FrameAt.j0] at H
      by_cases c7 : x32_2 = true
      · subst c7
        have H1 : (some (0, ([] : List Int), 0, 1)) = some (r1, r2, r3, r4) := by rw [if_pos rfl] at H; exact H
        clear H
        have H := H1
        clear H1
        simp only [Option.some.injEq, Prod.mk.injEq] at H
        obtain ⟨rfl, rfl, rfl, rfl⟩ := H
        go_wp2
        refine bodyPost_ret (results_list (rs := [.tmp 4, .tmp 5, .tmp 6, .tmp 7]) rfl (by simp) (.tmp (.tmp (.tmp (.tmp .nil))))) rfl ?_
        exact ⟨_, by first | rfl | (simp [errW_none, errW_some] <;> rfl) | (simp [*, errW_none, errW_some] <;> rfl), by first | exact Kd.R_nil _ _ _ _ _ | exact Kd.N_nil _ _ _ _ _ | exact Kd.V_nil _ _ _ _ _ | exact Kd.Q_nil _ _ _ _ _ | exact Kd.S_nil _ _ _ _ _, by repeat (first | (with_reducible first | exact HB.out | apply below_alloc | apply pw_below_drewN | apply below_drew1) | exact HB.out)⟩
      · replace c7 := Bool.eq_false_iff.mpr c7
        subst c7
        have H1 : (if 0 ≤ a1 then (if a1 < (l0.length : Int) then ((spec_GetNum.f kj2 l0 (wrap64 (a1 + 1)) 2).bind fun bt112 => (if (wrap64 (rd l0 a1)) = 0 then (spec_FrameAt.j1 kj2 l0 a1 (wrap64 (rd l0 a1)) bt112.1 true) else (spec_FrameAt.j1 kj2 l0 a1 (wrap64 (rd l0 a1)) bt112.1 (decide (bt112.1 > 1000))))) else (none)) else (none)) = some (r1, r2, r3, r4) := by rw [if_neg (show ¬ (false = true) by decide)] at H; exact H
        clear H
        have H := H1
        clear H1
        by_cases c8 : 0 ≤ a1
        · rw [if_pos c8] at H
          have c8b0 : decide (0 ≤ a1) = true := decide_eq_true c8
          clear c8
          by_cases c9 : a1 < (l0.length : Int)
          · rw [if_pos c9] at H
            have c9b0 : decide (a1 < (l0.length : Int)) = true := decide_eq_true c9
            clear c9
            replace H := Option.bind_eq_some_iff.mp H
            obtain ⟨⟨t112, t113⟩, A100, H⟩ := H
            replace H : (if (wrap64 (rd l0 a1)) = 0 then (spec_FrameAt.j1 kj2 l0 a1 (wrap64 (rd l0 a1)) t112 true) else (spec_FrameAt.j1 kj2 l0 a1 (wrap64 (rd l0 a1)) t112 (decide (t112 > 1000)))) = some (r1, r2, r3, r4) := H
            have A10 := Aside0.mk A100
            clear A100
            have HC11 := Aside0.mk H
            clear H
            have p111 : 0 ≤ (a1 : Int) := of_decide_eq_true (by first | (with_reducible assumption) | assumption)
            have q111 : a1 < (l0.length : Int) := of_decide_eq_true (by first | (with_reducible assumption) | assumption)
            obtain ⟨ad111, e111, hx111_0⟩ := Kd.at_int HR0.out a1 p111 q111
            cases e111
            replace hx111_0 := (HB.out.cell (World.block_lt_of_cell? w _ hx111_0)).trans hx111_0
            replace p111 := eq_true p111
            replace q111 := eq_true q111
            go_upto_region 5 with (first | ((with_reducible refine gate_callee (f := 44) rfl ?_); refine goesL_ (some 42) rfl rfl Try.func44 (by kernel_rfl) rfl #[.slice (some ad111) l0.length c0, .int .i64 (wrap64 (a1 + 1)), .int .i64 2] rfl (by (try simp only [List.map_toArray, List.map_cons, List.map_nil]); first | done | rfl | (simp only [List.length_drop, List.length_take]; rfl)) ?_; (with_reducible refine (spec_GetNum.calls kj2 _ _ l0 (wrap64 (a1 + 1)) 2 t112 t113 _ ?side1 ?side2 A10.out).mono ?_); (case side1 => repeat (first | exact (Kd.C_below HR0.out HB.out) | (with_reducible refine Kd.C_alloc ?_ _) | (with_reducible refine Kd.C_drewN ?_ _) | (with_reducible refine Kd.C_drew ?_))); (case side2 => exact HC0.out); rintro e w' ⟨rfl, ⟨nd, rfl⟩⟩; refine ⟨_, rfl, ?_⟩))
            (try simp only [Act.put, List.setIfInBounds_toArray, List.set_cons_zero, List.set_cons_succ])
            go_cut [50] (fun v50 wc => ∃ (kq : Nat) (x50_10 : Bool), v50 = .bool x50_10 ∧ Aside0 (spec_FrameAt.j1 kq l0 a1 (wrap64 (rd l0 a1)) t112 x50_10 = some (r1, r2, r3, r4)) ∧ Aside0 (kq ≤ kj2) ∧ Aside0 (Below w.heap.size w wc))
            case first =>
              have H := HC11.out
              clear HC11
              by_cases c12 : (wrap64 (rd l0 a1)) = 0
              · rw [if_pos c12] at H
                have c12b0 : ((wrap64 (rd l0 a1)) == 0) = true := beq_iff_eq.mpr c12
                have c12b1 : ((wrap64 (rd l0 a1)) != 0) = false := bne_eq_false_iff_eq.mpr c12
                clear c12
                (first | rw [c12b0] | (simp only [i64_w, i32_w]; rw [c12b0]) | skip)
                have H' := Aside0.mk H
                clear H
                go_wp2
                go_meet
                case rel => exact ⟨_, (true), (by first | rfl | (simp; done) | (simp [*]; done)), H', ⟨by have := HJ2.out; first | omega | exact Nat.le_refl _⟩, ⟨by repeat (first | (with_reducible first | exact HB.out | apply below_alloc | apply pw_below_drewN | apply below_drew1) | exact HB.out)⟩⟩
              · rw [if_neg c12] at H
                have c12b0 : ((wrap64 (rd l0 a1)) == 0) = false := beq_eq_false_iff_ne.mpr c12
                have c12b1 : ((wrap64 (rd l0 a1)) != 0) = true := bne_iff_ne.mpr c12
                (first | rw [c12b0] | (simp only [i64_w, i32_w]; rw [c12b0]) | skip)
                have H' := Aside0.mk H
                clear H
                go_wp2
                go_meet
                case rel => exact ⟨_, (decide (t112 > 1000)), (by first | rfl | (simp; done) | (simp [*]; done)), H', ⟨by have := HJ2.out; first | omega | exact Nat.le_refl _⟩, ⟨by repeat (first | (with_reducible first | exact HB.out | apply below_alloc | apply pw_below_drewN | apply below_drew1) | exact HB.out)⟩⟩
            case rest =>
              clear HC11
              try clear c1
              try clear p1
              try clear q1
              try clear hx1
              try clear p2
              try clear c4
              try clear c4b0
              try clear c4b1
              try clear c5
              try clear c5b0
              try clear c6
              try clear c6b0
              try clear p6
              try clear c7
              try clear c8
              try clear c8b0
              try clear c9
              try clear c9b0
              try clear p11
              try clear q11
              try clear hx11
              try clear c12
              try clear c12b0
              try clear c12b1
              try clear hx111_0
              try clear p111
              try clear p2
              try clear p6
              try clear q111
              obtain ⟨kq, x50_10, rfl, HA, HJ10, HB⟩ := hcut
              cases kq with
              | zero => exact absurd HA.out (by simp [spec_FrameAt.j1])
              | succ kj10 =>
                have H := HA.out
                clear HA
                simp only [spec_FrameAt.j1] at H
                by_cases c13 : x50_10 = true
                · subst c13
                  have H1 : (some (0, ([] : List Int), 0, 2)) = some (r1, r2, r3, r4) := by rw [if_pos rfl] at H; exact H
                  clear H
                  have H := H1
                  clear H1
                  simp only [Option.some.injEq, Prod.mk.injEq] at H
                  obtain ⟨rfl, rfl, rfl, rfl⟩ := H
                  go_wp2
                  refine bodyPost_ret (results_list (rs := [.tmp 4, .tmp 5, .tmp 6, .tmp 7]) rfl (by simp) (.tmp (.tmp (.tmp (.tmp .nil))))) rfl ?_
                  exact ⟨_, by first | rfl | (simp [errW_none, errW_some] <;> rfl) | (simp [*, errW_none, errW_some] <;> rfl), by first | exact Kd.R_nil _ _ _ _ _ | exact Kd.N_nil _ _ _ _ _ | exact Kd.V_nil _ _ _ _ _ | exact Kd.Q_nil _ _ _ _ _ | exact Kd.S_nil _ _ _ _ _, by repeat (first | (with_reducible first | exact HB.out | apply below_alloc | apply pw_below_drewN | apply below_drew1) | exact HB.out)⟩
                · replace c13 := Bool.eq_false_iff.mpr c13
                  subst c13
                  have H1 : (if (wrap64 ((l0.length : Int) - a1)) < (wrap64 (7 + t112)) then (some (0, ([] : List Int), 0, 1)) else ((spec_GetNum.f kj10 l0 (wrap64 ((wrap64 (a1 + 3)) + t112)) 4).bind fun bt114 => (if 0 ≤ a1 then (if a1 ≤ (wrap64 ((wrap64 (a1 + 3)) + t112)) then (if (wrap64 ((wrap64 (a1 + 3)) + t112)) ≤ (l0.length : Int) then ((spec_Crc.f kj10 ((l0.take ((wrap64 ((wrap64 (a1 + 3)) + t112)) : Int).toNat).drop (a1 : Int).toNat)).bind fun t117 => (if bt114.1 = t117 then ((some (([] : List Int) : List Int)).bind fun y118 => (if 0 ≤ (wrap64 (a1 + 3)) then (if (wrap64 (a1 + 3)) ≤ (wrap64 ((wrap64 (a1 + 3)) + t112)) then (if y118.length + ((l0.take ((wrap64 ((wrap64 (a1 + 3)) + t112)) : Int).toNat).drop ((wrap64 (a1 + 3)) : Int).toNat).length < 140737488355328 then (some ((wrap64 (rd l0 a1)), (y118 ++ ((l0.take ((wrap64 ((wrap64 (a1 + 3)) + t112)) : Int).toNat).drop ((wrap64 (a1 + 3)) : Int).toNat)), wrap64 ((wrap64 (a1 + 7)) + t112), 0)) else (none)) else (none)) else (none))) else (some (0, ([] : List Int), 0, 3)))) else (none)) else (none)) else (none)))) = some (r1, r2, r3, r4) := by rw [if_neg (show ¬ (false = true) by decide)] at H; exact H
                  clear H
                  have H := H1
                  clear H1
                  by_cases c14 : (wrap64 ((l0.length : Int) - a1)) < (wrap64 (7 + t112))
                  · rw [if_pos c14] at H
                    have c14b0 : decide ((wrap64 ((l0.length : Int) - a1)) < (wrap64 (7 + t112))) = true := decide_eq_true c14
                    clear c14
                    simp only [Option.some.injEq, Prod.mk.injEq] at H
                    obtain ⟨rfl, rfl, rfl, rfl⟩ := H
                    go_wp2
                    refine bodyPost_ret (results_list (rs := [.tmp 4, .tmp 5, .tmp 6, .tmp 7]) rfl (by simp) (.tmp (.tmp (.tmp (.tmp .nil))))) rfl ?_
                    exact ⟨_, by first | rfl | (simp [errW_none, errW_some] <;> rfl) | (simp [*, errW_none, errW_some] <;> rfl), by first | exact Kd.R_nil _ _ _ _ _ | exact Kd.N_nil _ _ _ _ _ | exact Kd.V_nil _ _ _ _ _ | exact Kd.Q_nil _ _ _ _ _ | exact Kd.S_nil _ _ _ _ _, by repeat (first | (with_reducible first | exact HB.out | apply below_alloc | apply pw_below_drewN | apply below_drew1) | exact HB.out)⟩
                  · rw [if_neg c14] at H
                    have c14b0 : decide ((wrap64 ((l0.length : Int) - a1)) < (wrap64 (7 + t112))) = false := decide_eq_false c14
                    clear c14
                    replace H := Option.bind_eq_some_iff.mp H
                    obtain ⟨⟨t114, t115⟩, A150, H⟩ := H
                    replace H : (if 0 ≤ a1 then (if a1 ≤ (wrap64 ((wrap64 (a1 + 3)) + t112)) then (if (wrap64 ((wrap64 (a1 + 3)) + t112)) ≤ (l0.length : Int) then ((spec_Crc.f kj10 ((l0.take ((wrap64 ((wrap64 (a1 + 3)) + t112)) : Int).toNat).drop (a1 : Int).toNat)).bind fun t117 => (if t114 = t117 then ((some (([] : List Int) : List Int)).bind fun y118 => (if 0 ≤ (wrap64 (a1 + 3)) then (if (wrap64 (a1 + 3)) ≤ (wrap64 ((wrap64 (a1 + 3)) + t112)) then (if y118.length + ((l0.take ((wrap64 ((wrap64 (a1 + 3)) + t112)) : Int).toNat).drop ((wrap64 (a1 + 3)) : Int).toNat).length < 140737488355328 then (some ((wrap64 (rd l0 a1)), (y118 ++ ((l0.take ((wrap64 ((wrap64 (a1 + 3)) + t112)) : Int).toNat).drop ((wrap64 (a1 + 3)) : Int).toNat)), wrap64 ((wrap64 (a1 + 7)) + t112), 0)) else (none)) else (none)) else (none))) else (some (0, ([] : List Int), 0, 3)))) else (none)) else (none)) else (none)) = some (r1, r2, r3, r4) := H
                    have A15 := Aside0.mk A150
                    clear A150
                    by_cases c16 : 0 ≤ a1
                    · rw [if_pos c16] at H
                      have c16b0 := eq_true c16
                      have c16b1 : decide (0 ≤ a1) = true := decide_eq_true c16
                      clear c16
                      by_cases c17 : a1 ≤ (wrap64 ((wrap64 (a1 + 3)) + t112))
                      · rw [if_pos c17] at H
                        have c17b0 := eq_true c17
                        have c17b1 : decide (a1 ≤ (wrap64 ((wrap64 (a1 + 3)) + t112))) = true := decide_eq_true c17
                        by_cases c18 : (wrap64 ((wrap64 (a1 + 3)) + t112)) ≤ (l0.length : Int)
                        · rw [if_pos c18] at H
                          have c18b0 := eq_true c18
                          have c18b1 : decide ((wrap64 ((wrap64 (a1 + 3)) + t112)) ≤ (l0.length : Int)) = true := decide_eq_true c18
                          replace H := Option.bind_eq_some_iff.mp H
                          obtain ⟨t117, A190, H⟩ := H
                          replace H : (if t114 = t117 then ((some (([] : List Int) : List Int)).bind fun y118 => (if 0 ≤ (wrap64 (a1 + 3)) then (if (wrap64 (a1 + 3)) ≤ (wrap64 ((wrap64 (a1 + 3)) + t112)) then (if y118.length + ((l0.take ((wrap64 ((wrap64 (a1 + 3)) + t112)) : Int).toNat).drop ((wrap64 (a1 + 3)) : Int).toNat).length < 140737488355328 then (some ((wrap64 (rd l0 a1)), (y118 ++ ((l0.take ((wrap64 ((wrap64 (a1 + 3)) + t112)) : Int).toNat).drop ((wrap64 (a1 + 3)) : Int).toNat)), wrap64 ((wrap64 (a1 + 7)) + t112), 0)) else (none)) else (none)) else (none))) else (some (0, ([] : List Int), 0, 3))) = some (r1, r2, r3, r4) := H
                          have A19 := Aside0.mk A190
                          clear A190
                          by_cases c20 : t114 = t117
                          · rw [if_pos c20] at H
                            have c20b0 : (t114 == t117) = true := beq_iff_eq.mpr c20
                            have c20b1 : (t114 != t117) = false := bne_eq_false_iff_eq.mpr c20
                            clear c20
                            obtain ⟨y118, hy118⟩ : ∃ y_ : List Int, y_ = (([] : List Int)) := ⟨_, rfl⟩
                            replace H : (if 0 ≤ (wrap64 (a1 + 3)) then (if (wrap64 (a1 + 3)) ≤ (wrap64 ((wrap64 (a1 + 3)) + t112)) then (if y118.length + ((l0.take ((wrap64 ((wrap64 (a1 + 3)) + t112)) : Int).toNat).drop ((wrap64 (a1 + 3)) : Int).toNat).length < 140737488355328 then (some ((wrap64 (rd l0 a1)), (y118 ++ ((l0.take ((wrap64 ((wrap64 (a1 + 3)) + t112)) : Int).toNat).drop ((wrap64 (a1 + 3)) : Int).toNat)), wrap64 ((wrap64 (a1 + 7)) + t112), 0)) else (none)) else (none)) else (none)) = some (r1, r2, r3, r4) := by first | (rw [hy118]; with_reducible exact H) | (have H2_ := (Option.bind_some _ _).symm.trans H; rw [hy118]; with_reducible exact H2_) | (have H2_ := (Option.bind_some _ _).symm.trans H; with_reducible exact H2_) | with_reducible exact H | (rw [hy118]; exact H) | exact H
                            have Ny118 := Aside0.mk hy118
                            clear hy118
                            obtain ⟨ji21, hji21⟩ : ∃ j_ : Int, (wrap64 (a1 + 3)) = j_ := ⟨_, rfl⟩
                            replace H : (if 0 ≤ (ji21) then (if (ji21) ≤ (wrap64 ((ji21) + t112)) then (if y118.length + ((l0.take ((wrap64 ((ji21) + t112)) : Int).toNat).drop ((ji21) : Int).toNat).length < 140737488355328 then (some ((wrap64 (rd l0 a1)), (y118 ++ ((l0.take ((wrap64 ((ji21) + t112)) : Int).toNat).drop ((ji21) : Int).toNat)), wrap64 ((wrap64 (a1 + 7)) + t112), 0)) else (none)) else (none)) else (none)) = some (r1, r2, r3, r4) := by first | (rw [hji21] at H; exact H) | (simp only [hji21] at H ⊢; exact H)
                            (try rw [hji21] at c17b0)
                            (try rw [hji21] at c17b1)
                            (try rw [hji21] at c17)
                            (try rw [hji21] at c18b0)
                            (try rw [hji21] at c18b1)
                            (try rw [hji21] at c18)
                            (try rw [hji21] at A15)
                            (try rw [hji21] at A19)
                            have hji21w : (IntKind.i64.wrap (a1 + 3)) = ji21 := (i64_w _).trans hji21
                            by_cases c22 : 0 ≤ (ji21)
                            · rw [if_pos c22] at H
                              have c22b0 := eq_true c22
                              have c22b1 : decide (0 ≤ (ji21)) = true := decide_eq_true c22
                              clear c22
                              by_cases c23 : (ji21) ≤ (wrap64 ((ji21) + t112))
                              · rw [if_pos c23] at H
                                have c23b0 := eq_true c23
                                have c23b1 : decide ((ji21) ≤ (wrap64 ((ji21) + t112))) = true := decide_eq_true c23
                                have c24b0 := eq_true (of_decide_eq_true (by first | (with_reducible assumption) | assumption) : (wrap64 ((ji21) + t112)) ≤ (l0.length : Int))
                                by_cases c25 : y118.length + ((l0.take ((wrap64 ((ji21) + t112)) : Int).toNat).drop ((ji21) : Int).toNat).length < 140737488355328
                                · rw [if_pos c25] at H
                                  have LMc25 := Aside0.mk c25
                                  clear c25
                                  obtain ⟨y122, hy122⟩ : ∃ y_ : List Int, y_ = (y118 ++ ((l0.take ((wrap64 ((ji21) + t112)) : Int).toNat).drop ((ji21) : Int).toNat)) := ⟨_, rfl⟩
                                  replace H : (some ((wrap64 (rd l0 a1)), y122, wrap64 ((wrap64 (a1 + 7)) + t112), 0)) = some (r1, r2, r3, r4) := by first | (rw [hy122]; with_reducible exact H) | (have H2_ := (Option.bind_some _ _).symm.trans H; rw [hy122]; with_reducible exact H2_) | (have H2_ := (Option.bind_some _ _).symm.trans H; with_reducible exact H2_) | with_reducible exact H | (rw [hy122]; exact H) | exact H
                                  have Ny122 := Aside0.mk hy122
                                  clear hy122
                                  simp only [Option.some.injEq, Prod.mk.injEq] at H
                                  obtain ⟨rfl, rfl, rfl, rfl⟩ := H
                                  go_wp2_with (first | ((with_reducible refine gate_callee (f := 44) rfl ?_); refine goesL_ (some 64) rfl rfl Try.func44 (by kernel_rfl) rfl #[.slice (some ad111) l0.length c0, .int .i64 (wrap64 ((ji21) + t112)), .int .i64 4] rfl (by (try simp only [List.map_toArray, List.map_cons, List.map_nil]); first | done | (simp only [hji21]; rfl) | rfl | (simp only [List.length_drop, List.length_take]; rfl)) ?_; (with_reducible refine (spec_GetNum.calls kj10 _ _ l0 (wrap64 ((ji21) + t112)) 4 t114 t115 _ ?side1 ?side2 A15.out).mono ?_); (case side1 => repeat (first | exact (Kd.C_below HR0.out HB.out) | (with_reducible refine Kd.C_alloc ?_ _) | (with_reducible refine Kd.C_drewN ?_ _) | (with_reducible refine Kd.C_drew ?_))); (case side2 => exact HC0.out); rintro e w' ⟨rfl, ⟨nd, rfl⟩⟩; refine ⟨_, rfl, ?_⟩; obtain ⟨i026, hi026, _, hsz26, _⟩ := info_parts info5; obtain ⟨A26, hcut26, hA26, hC26⟩ := print_mid_of (P := Try.prog) (Value.int .u8) 0 22 5 .i64 .i64 Try.underlying22 hi026 hsz26 (some ad111) c0 l0 a1 (wrap64 ((ji21) + t112)) (of_decide_eq_true (by first | (with_reducible assumption) | assumption)) (by first | omega | exact of_decide_eq_true (by first | (with_reducible assumption) | assumption)) (of_decide_eq_true (by first | (with_reducible assumption) | assumption)) HC0.out; have HR116 := Aside0.mk (Kd.C_of_reads (h1 := fun _ => rfl) (hA26 _ (Kd.reads_of_C HR0.out))); have HC116 := Aside0.mk hC26; clear hA26 hC26 hi026 hsz26) | ((with_reducible refine gate_callee (f := 11) rfl ?_); refine goesL_ (some 75) rfl rfl Try.func11 (by kernel_rfl) rfl #[.slice A26 ((l0.take ((wrap64 ((ji21) + t112)) : Int).toNat).drop (a1 : Int).toNat).length (c0 - a1.toNat)] rfl (by (try simp only [List.map_toArray, List.map_cons, List.map_nil]); first | done | (rw [show ((l0.take ((wrap64 ((ji21) + t112)) : Int).toNat).drop (a1 : Int).toNat).length = ((wrap64 ((ji21) + t112)).toNat - a1.toNat) from (by rw [List.length_drop, List.length_take]; have h_ : ((wrap64 ((ji21) + t112)) : Int) ≤ (l0.length : Int) := of_decide_eq_true (by first | (with_reducible assumption) | assumption); omega)] <;> rfl) | (simp only [hji21]; rfl) | rfl | (simp only [List.length_drop, List.length_take]; rfl)) ?_; (with_reducible refine (spec_Crc.calls kj10 _ _ ((l0.take ((wrap64 ((ji21) + t112)) : Int).toNat).drop (a1 : Int).toNat) t117 _ ?side1 ?side2 A19.out).mono ?_); (case side1 => repeat (first | exact (Kd.C_below HR116.out (by repeat (first | (with_reducible first | exact HB.out | apply below_alloc | apply pw_below_drewN | apply below_drew1) | exact HB.out))) | (with_reducible refine Kd.C_alloc ?_ _) | (with_reducible refine Kd.C_drewN ?_ _) | (with_reducible refine Kd.C_drew ?_))); (case side2 => exact HC116.out); rintro e w' ⟨rfl, ⟨nd, rfl⟩⟩; refine ⟨_, rfl, ?_⟩) | ((with_reducible refine gate_dst (N := 78) rfl ?_); (try (refine gate_guard (by rfl) ?_; dsimp only)); refine Kd.R_lit (Kd.int .u8) _ 5 ?hg (N := 78) ?hd (xs := ([] : List Int)) (inner := []) (ok := fun _ => True) (okp := fun _ => True) ?hr ?hp (fun _ hk => hk) trivial (Below.refl _ _) (Nat.le_refl _) (by simp) ?_; (case hd => rfl); (case hg => rfl); (case hr => first | (go_simp; done) | (go_simp; rfl)); (case hp => exact (Reps.none _ _)); intro v119 w27 ho28 hb hg_ hnew_; clear hg_ hnew_; (first | rw [← Ny118.out] at ho28 | (simp only [Int.reduceToNat] at ho28; rw [← Ny118.out] at ho28)); have n0_ := Aside0.mk (Kd.R_lower ho28 (below_size (by repeat (first | (with_reducible first | exact HB.out | apply below_alloc | apply pw_below_drewN | apply below_drew1) | exact HB.out)))); have n1_ := Aside0.mk (below_step (by repeat (first | (with_reducible first | exact HB.out | apply below_alloc | apply pw_below_drewN | apply below_drew1) | exact HB.out)) hb); clear HB; have HO120 := n0_; have HB := n1_; clear n0_ n1_; clear hb ho28; obtain ⟨i029, hi029, _, hsz29, _⟩ := info_parts info5; obtain ⟨A29, hcut29, hA29, hC29⟩ := print_mid_of (P := Try.prog) (Value.int .u8) 0 22 5 .i64 .i64 Try.underlying22 hi029 hsz29 (some ad111) c0 l0 (ji21) (wrap64 ((ji21) + t112)) (of_decide_eq_true (by first | (with_reducible assumption) | assumption)) (by first | omega | exact of_decide_eq_true (by first | (with_reducible assumption) | assumption)) (of_decide_eq_true (by first | (with_reducible assumption) | assumption)) HC0.out; have HR121 := Aside0.mk (Kd.C_of_reads (h1 := fun _ => rfl) (hA29 _ (Kd.reads_of_C HR0.out))); have HC121 := Aside0.mk hC29; clear hA29 hC29 hi029 hsz29) | ((with_reducible refine gate_builtin (b := .append) (xs := #[.tmp 78, .tmp 86]) rfl ?_); (try (refine gate_guard (by rfl) ?_; dsimp only)); at_builtin; refine Kd.R_append_rows (Kd.int .u8) (w0 := w) w.heap.size rfl (.tmp 78) (.tmp 86) 22 5 (.int .u8 0) 1 rfl Try.underlying22 info5 rfl (by decide) (by omega) v119 y118 ((l0.take ((wrap64 ((ji21) + t112)) : Int).toNat).drop ((ji21) : Int).toNat) _ _ _ (fun _ => True) (fun _ => False) rfl rfl ?aO ?aR (fun _ _ h => h) (fun _ h => h.elim) ?aF ?aB ?aS ?aL ?_; (case aR => first | (rw [← show ((l0.take ((wrap64 ((ji21) + t112)) : Int).toNat).drop ((ji21) : Int).toNat).length = ((wrap64 ((ji21) + t112)).toNat - (ji21).toNat) from (by rw [List.length_drop, List.length_take]; have h_ : ((wrap64 ((ji21) + t112)) : Int) ≤ (l0.length : Int) := of_decide_eq_true (by first | (with_reducible assumption) | assumption); omega)]; repeat (first | exact (Kd.C_below HR121.out HB.out) | (with_reducible refine Kd.C_alloc ?_ _) | (with_reducible refine Kd.C_drewN ?_ _) | (with_reducible refine Kd.C_drew ?_))) | (repeat (first | exact (Kd.C_below HR121.out HB.out) | (with_reducible refine Kd.C_alloc ?_ _) | (with_reducible refine Kd.C_drewN ?_ _) | (with_reducible refine Kd.C_drew ?_)))); (case aB => exact (by repeat (first | (with_reducible first | exact HB.out | apply below_alloc | apply pw_below_drewN | apply below_drew1) | exact HB.out))); (case aF => exact (fun _ _ => trivial)); (case aO => exact (by (with_reducible repeat (first | apply Kd.R_alloc | apply Kd.R_drewN | apply Kd.R_drew)); exact HO120.out)); (case aS => exact (below_size (by repeat (first | (with_reducible first | exact HB.out | apply below_alloc | apply pw_below_drewN | apply below_drew1) | exact HB.out)))); (case aL => have := LMc25.out; have hlx_ := (show ((l0.take ((wrap64 ((ji21) + t112)) : Int).toNat).drop ((ji21) : Int).toNat).length = ((wrap64 ((ji21) + t112)).toNat - (ji21).toNat) from (by rw [List.length_drop, List.length_take]; have h_ : ((wrap64 ((ji21) + t112)) : Int) ≤ (l0.length : Int) := of_decide_eq_true (by first | (with_reducible assumption) | assumption); omega)); omega); intro v123 w30 ho hb hg hat; rw [← Ny122.out] at ho; have n0_ := Aside0.mk (hb); have n1_ := Aside0.mk (ho); clear HB; clear HO120; have HB := n0_; have HO124 := n1_; clear n0_ n1_; clear ho hb hg hat))
                                  refine bodyPost_ret (results_list (rs := [.tmp 4, .tmp 5, .tmp 6, .tmp 7]) rfl (by simp) (.tmp (.tmp (.tmp (.tmp .nil))))) rfl ?_
                                  exact ⟨_, by first | rfl | (simp [errW_none, errW_some] <;> rfl) | (simp only [← hji21]; first | rfl | (simp [errW_none, errW_some] <;> rfl)) | (simp [*, errW_none, errW_some] <;> rfl), by (with_reducible repeat (first | apply Kd.R_alloc | apply Kd.R_drewN | apply Kd.R_drew)); exact HO124.out, by repeat (first | (with_reducible first | exact HB.out | apply below_alloc | apply pw_below_drewN | apply below_drew1) | exact HB.out)⟩
                                · rw [if_neg c25] at H
                                  exact absurd H (by simp)
                              · rw [if_neg c23] at H
                                exact absurd H (by simp)
                            · rw [if_neg c22] at H
                              exact absurd H (by simp)
                          · rw [if_neg c20] at H
                            have c20b0 : (t114 == t117) = false := beq_eq_false_iff_ne.mpr c20
                            have c20b1 : (t114 != t117) = true := bne_iff_ne.mpr c20
                            simp only [Option.some.injEq, Prod.mk.injEq] at H
                            obtain ⟨rfl, rfl, rfl, rfl⟩ := H
                            go_wp2_with (first | ((with_reducible refine gate_callee (f := 44) rfl ?_); refine goesL_ (some 64) rfl rfl Try.func44 (by kernel_rfl) rfl #[.slice (some ad111) l0.length c0, .int .i64 (wrap64 ((wrap64 (a1 + 3)) + t112)), .int .i64 4] rfl (by (try simp only [List.map_toArray, List.map_cons, List.map_nil]); first | done | rfl | (simp only [List.length_drop, List.length_take]; rfl)) ?_; (with_reducible refine (spec_GetNum.calls kj10 _ _ l0 (wrap64 ((wrap64 (a1 + 3)) + t112)) 4 t114 t115 _ ?side1 ?side2 A15.out).mono ?_); (case side1 => repeat (first | exact (Kd.C_below HR0.out HB.out) | (with_reducible refine Kd.C_alloc ?_ _) | (with_reducible refine Kd.C_drewN ?_ _) | (with_reducible refine Kd.C_drew ?_))); (case side2 => exact HC0.out); rintro e w' ⟨rfl, ⟨nd, rfl⟩⟩; refine ⟨_, rfl, ?_⟩; obtain ⟨i031, hi031, _, hsz31, _⟩ := info_parts info5; obtain ⟨A31, hcut31, hA31, hC31⟩ := print_mid_of (P := Try.prog) (Value.int .u8) 0 22 5 .i64 .i64 Try.underlying22 hi031 hsz31 (some ad111) c0 l0 a1 (wrap64 ((wrap64 (a1 + 3)) + t112)) (of_decide_eq_true (by first | (with_reducible assumption) | assumption)) (by first | omega | exact of_decide_eq_true (by first | (with_reducible assumption) | assumption)) (of_decide_eq_true (by first | (with_reducible assumption) | assumption)) HC0.out; have HR116 := Aside0.mk (Kd.C_of_reads (h1 := fun _ => rfl) (hA31 _ (Kd.reads_of_C HR0.out))); have HC116 := Aside0.mk hC31; clear hA31 hC31 hi031 hsz31) | ((with_reducible refine gate_callee (f := 11) rfl ?_); refine goesL_ (some 75) rfl rfl Try.func11 (by kernel_rfl) rfl #[.slice A31 ((l0.take ((wrap64 ((wrap64 (a1 + 3)) + t112)) : Int).toNat).drop (a1 : Int).toNat).length (c0 - a1.toNat)] rfl (by (try simp only [List.map_toArray, List.map_cons, List.map_nil]); first | done | (rw [show ((l0.take ((wrap64 ((wrap64 (a1 + 3)) + t112)) : Int).toNat).drop (a1 : Int).toNat).length = ((wrap64 ((wrap64 (a1 + 3)) + t112)).toNat - a1.toNat) from (by rw [List.length_drop, List.length_take]; have h_ : ((wrap64 ((wrap64 (a1 + 3)) + t112)) : Int) ≤ (l0.length : Int) := of_decide_eq_true (by first | (with_reducible assumption) | assumption); omega)] <;> rfl) | rfl | (simp only [List.length_drop, List.length_take]; rfl)) ?_; (with_reducible refine (spec_Crc.calls kj10 _ _ ((l0.take ((wrap64 ((wrap64 (a1 + 3)) + t112)) : Int).toNat).drop (a1 : Int).toNat) t117 _ ?side1 ?side2 A19.out).mono ?_); (case side1 => repeat (first | exact (Kd.C_below HR116.out (by repeat (first | (with_reducible first | exact HB.out | apply below_alloc | apply pw_below_drewN | apply below_drew1) | exact HB.out))) | (with_reducible refine Kd.C_alloc ?_ _) | (with_reducible refine Kd.C_drewN ?_ _) | (with_reducible refine Kd.C_drew ?_))); (case side2 => exact HC116.out); rintro e w' ⟨rfl, ⟨nd, rfl⟩⟩; refine ⟨_, rfl, ?_⟩))
                            refine bodyPost_ret (results_list (rs := [.tmp 4, .tmp 5, .tmp 6, .tmp 7]) rfl (by simp) (.tmp (.tmp (.tmp (.tmp .nil))))) rfl ?_
                            exact ⟨_, by first | rfl | (simp [errW_none, errW_some] <;> rfl) | (simp [*, errW_none, errW_some] <;> rfl), by first | exact Kd.R_nil _ _ _ _ _ | exact Kd.N_nil _ _ _ _ _ | exact Kd.V_nil _ _ _ _ _ | exact Kd.Q_nil _ _ _ _ _ | exact Kd.S_nil _ _ _ _ _, by repeat (first | (with_reducible first | exact HB.out | apply below_alloc | apply pw_below_drewN | apply below_drew1) | exact HB.out)⟩
                        · rw [if_neg c18] at H
                          exact absurd H (by simp)
                      · rw [if_neg c17] at H
                        exact absurd H (by simp)
                    · rw [if_neg c16] at H
                      exact absurd H (by simp)
          · rw [if_neg c9] at H
            exact absurd H (by simp)
        · rw [if_neg c8] at H
          exact absurd H (by simp)

/-! ### spec_l5in: function 49 -/
def spec_l5in.f (a0 : Int) (a1 : Int) (a2 : Int) : Option (Bool) := if a0 ≥ a1 then (some (decide (a0 ≤ a2))) else (some false)
set_option maxHeartbeats 8000000 in
set_option maxRecDepth 100000 in
theorem spec_l5in.calls (a0 : Int) (a1 : Int) (a2 : Int) (r : Bool) (w : World) (h : spec_l5in.f a0 a1 a2 = some r) :
    Calls Try.prog 49 #[.int .i64 a0, .int .i64 a1, .int .i64 a2] w fun e w' => e = .returned (.bool r) ∧ Drawn0 w w' := by
  have H : (if a0 ≥ a1 then (some (decide (a0 ≤ a2))) else (some false)) = some r := h
  clear h
  by_cases c4 : a0 ≥ a1
  · rw [if_pos c4] at H
    have c4b0 : decide (a1 ≤ a0) = true := decide_eq_true c4
    clear c4
    obtain rfl := Option.some.inj H
    go_enter Try.func49, Try.ntmps49
    go_wp2
    go_ret
    exact ⟨by first | rfl | (simp; done) | (simp [*]; done), by repeat (first | exact Drawn0.refl _ | apply Drawn0.step)⟩
  · rw [if_neg c4] at H
    have c4b0 : decide (a1 ≤ a0) = false := decide_eq_false c4
    clear c4
    obtain rfl := Option.some.inj H
    go_enter Try.func49, Try.ntmps49
    go_wp2
    go_ret
    exact ⟨by first | rfl | (simp; done) | (simp [*]; done), by repeat (first | exact Drawn0.refl _ | apply Drawn0.step)⟩

/-! ### spec_RecordOk: function 22 -/
def spec_RecordOk.f (a0_0 : Int) (a0_1 : Int) (a0_2 : Int) (a0_3 : Int) (a0_4 : Int) (l0_5 : List Int) : Option (Bool) := (spec_l5in.f a0_1 1 1000000).bind fun t126 => (if t126 = true then ((spec_l5in.f a0_3 0 15).bind fun t127 => ((spec_l5in.f a0_4 0 15).bind fun t128 => ((spec_l5in.f a0_2 1 400).bind fun t129 => (if a0_0 = 1 then (if t127 = true then (if (l0_5.length : Int) = 256 then (if a0_2 = 0 then (some (a0_4 == 0)) else (some false)) else (some false)) else (some false)) else (if a0_0 = 2 then (if t127 = true then (if t128 = true then (if t129 = true then (if (l0_5.length : Int) ≥ 1 then (some (decide ((l0_5.length : Int) ≤ 92))) else (some false)) else (some false)) else (some false)) else (some false)) else (if a0_0 = 3 then (if t127 = true then (if t128 = true then (if t129 = true then (some ((l0_5.length : Int) == 0)) else (some false)) else (some false)) else (some false)) else (if a0_0 = 4 then (if t127 = true then (if t128 = true then (if a0_2 = 0 then (some ((l0_5.length : Int) == 0)) else (some false)) else (some false)) else (some false)) else (if a0_0 = 5 then (if t129 = true then (if a0_3 = 0 then (if a0_4 = 0 then (some ((l0_5.length : Int) == 0)) else (some false)) else (some false)) else (some false)) else (some false))))))))) else (some false))
set_option maxHeartbeats 8000000 in
set_option maxRecDepth 100000 in
theorem spec_RecordOk.calls (a0_0 : Int) (a0_1 : Int) (a0_2 : Int) (a0_3 : Int) (a0_4 : Int) (A0_5 : Option Addr) (c0_5 : Nat) (l0_5 : List Int) (r : Bool) (w : World) (hr0_5 : Kd.C (Kd.int .u8) w A0_5 l0_5.length l0_5) (hc0_5 : l0_5.length ≤ c0_5) (h : spec_RecordOk.f a0_0 a0_1 a0_2 a0_3 a0_4 l0_5 = some r) :
    Calls Try.prog 22 #[.agg #[.int .i64 a0_0, .int .i64 a0_1, .int .i64 a0_2, .int .i64 a0_3, .int .i64 a0_4, .slice A0_5 l0_5.length c0_5]] w fun e w' => e = .returned (.bool r) ∧ Below w.heap.size w w' := by
  have hu37 := Try.underlying37
  have HR0_5 := Aside0.mk hr0_5
  have HC0_5 := Aside0.mk hc0_5
  clear hr0_5 hc0_5
  have HB := Aside0.mk (Below.refl w.heap.size w)
  have H : ((spec_l5in.f a0_1 1 1000000).bind fun t126 => (if t126 = true then ((spec_l5in.f a0_3 0 15).bind fun t127 => ((spec_l5in.f a0_4 0 15).bind fun t128 => ((spec_l5in.f a0_2 1 400).bind fun t129 => (if a0_0 = 1 then (if t127 = true then (if (l0_5.length : Int) = 256 then (if a0_2 = 0 then (some (a0_4 == 0)) else (some false)) else (some false)) else (some false)) else (if a0_0 = 2 then (if t127 = true then (if t128 = true then (if t129 = true then (if (l0_5.length : Int) ≥ 1 then (some (decide ((l0_5.length : Int) ≤ 92))) else (some false)) else (some false)) else (some false)) else (some false)) else (if a0_0 = 3 then (if t127 = true then (if t128 = true then (if t129 = true then (some ((l0_5.length : Int) == 0)) else (some false)) else (some false)) else (some false)) else (if a0_0 = 4 then (if t127 = true then (if t128 = true then (if a0_2 = 0 then (some ((l0_5.length : Int) == 0)) else (some false)) else (some false)) else (some false)) else (if a0_0 = 5 then (if t129 = true then (if a0_3 = 0 then (if a0_4 = 0 then (some ((l0_5.length : Int) == 0)) else (some false)) else (some false)) else (some false)) else (some false))))))))) else (some false))) = some r := h
  clear h
  replace H := Option.bind_eq_some_iff.mp H
  obtain ⟨t126, A20, H⟩ := H
  replace H : (if t126 = true then ((spec_l5in.f a0_3 0 15).bind fun t127 => ((spec_l5in.f a0_4 0 15).bind fun t128 => ((spec_l5in.f a0_2 1 400).bind fun t129 => (if a0_0 = 1 then (if t127 = true then (if (l0_5.length : Int) = 256 then (if a0_2 = 0 then (some (a0_4 == 0)) else (some false)) else (some false)) else (some false)) else (if a0_0 = 2 then (if t127 = true then (if t128 = true then (if t129 = true then (if (l0_5.length : Int) ≥ 1 then (some (decide ((l0_5.length : Int) ≤ 92))) else (some false)) else (some false)) else (some false)) else (some false)) else (if a0_0 = 3 then (if t127 = true then (if t128 = true then (if t129 = true then (some ((l0_5.length : Int) == 0)) else (some false)) else (some false)) else (some false)) else (if a0_0 = 4 then (if t127 = true then (if t128 = true then (if a0_2 = 0 then (some ((l0_5.length : Int) == 0)) else (some false)) else (some false)) else (some false)) else (if a0_0 = 5 then (if t129 = true then (if a0_3 = 0 then (if a0_4 = 0 then (some ((l0_5.length : Int) == 0)) else (some false)) else (some false)) else (some false)) else (some false))))))))) else (some false)) = some r := H
  have A2 := Aside0.mk A20
  clear A20
  by_cases c3 : t126 = true
  · subst c3
    have H1 : ((spec_l5in.f a0_3 0 15).bind fun t127 => ((spec_l5in.f a0_4 0 15).bind fun t128 => ((spec_l5in.f a0_2 1 400).bind fun t129 => (if a0_0 = 1 then (if t127 = true then (if (l0_5.length : Int) = 256 then (if a0_2 = 0 then (some (a0_4 == 0)) else (some false)) else (some false)) else (some false)) else (if a0_0 = 2 then (if t127 = true then (if t128 = true then (if t129 = true then (if (l0_5.length : Int) ≥ 1 then (some (decide ((l0_5.length : Int) ≤ 92))) else (some false)) else (some false)) else (some false)) else (some false)) else (if a0_0 = 3 then (if t127 = true then (if t128 = true then (if t129 = true then (some ((l0_5.length : Int) == 0)) else (some false)) else (some false)) else (some false)) else (if a0_0 = 4 then (if t127 = true then (if t128 = true then (if a0_2 = 0 then (some ((l0_5.length : Int) == 0)) else (some false)) else (some false)) else (some false)) else (if a0_0 = 5 then (if t129 = true then (if a0_3 = 0 then (if a0_4 = 0 then (some ((l0_5.length : Int) == 0)) else (some false)) else (some false)) else (some false)) else (some false))))))))) = some r := by rw [if_pos rfl] at H; exact H
    clear H
    have H := H1
    clear H1
    replace H := Option.bind_eq_some_iff.mp H
    obtain ⟨t127, A40, H⟩ := H
    replace H : ((spec_l5in.f a0_4 0 15).bind fun t128 => ((spec_l5in.f a0_2 1 400).bind fun t129 => (if a0_0 = 1 then (if t127 = true then (if (l0_5.length : Int) = 256 then (if a0_2 = 0 then (some (a0_4 == 0)) else (some false)) else (some false)) else (some false)) else (if a0_0 = 2 then (if t127 = true then (if t128 = true then (if t129 = true then (if (l0_5.length : Int) ≥ 1 then (some (decide ((l0_5.length : Int) ≤ 92))) else (some false)) else (some false)) else (some false)) else (some false)) else (if a0_0 = 3 then (if t127 = true then (if t128 = true then (if t129 = true then (some ((l0_5.length : Int) == 0)) else (some false)) else (some false)) else (some false)) else (if a0_0 = 4 then (if t127 = true then (if t128 = true then (if a0_2 = 0 then (some ((l0_5.length : Int) == 0)) else (some false)) else (some false)) else (some false)) else (if a0_0 = 5 then (if t129 = true then (if a0_3 = 0 then (if a0_4 = 0 then (some ((l0_5.length : Int) == 0)) else (some false)) else (some false)) else (some false)) else (some false)))))))) = some r := H
    have A4 := Aside0.mk A40
    clear A40
    replace H := Option.bind_eq_some_iff.mp H
    obtain ⟨t128, A50, H⟩ := H
    replace H : ((spec_l5in.f a0_2 1 400).bind fun t129 => (if a0_0 = 1 then (if t127 = true then (if (l0_5.length : Int) = 256 then (if a0_2 = 0 then (some (a0_4 == 0)) else (some false)) else (some false)) else (some false)) else (if a0_0 = 2 then (if t127 = true then (if t128 = true then (if t129 = true then (if (l0_5.length : Int) ≥ 1 then (some (decide ((l0_5.length : Int) ≤ 92))) else (some false)) else (some false)) else (some false)) else (some false)) else (if a0_0 = 3 then (if t127 = true then (if t128 = true then (if t129 = true then (some ((l0_5.length : Int) == 0)) else (some false)) else (some false)) else (some false)) else (if a0_0 = 4 then (if t127 = true then (if t128 = true then (if a0_2 = 0 then (some ((l0_5.length : Int) == 0)) else (some false)) else (some false)) else (some false)) else (if a0_0 = 5 then (if t129 = true then (if a0_3 = 0 then (if a0_4 = 0 then (some ((l0_5.length : Int) == 0)) else (some false)) else (some false)) else (some false)) else (some false))))))) = some r := H
    have A5 := Aside0.mk A50
    clear A50
    replace H := Option.bind_eq_some_iff.mp H
    obtain ⟨t129, A60, H⟩ := H
    replace H : (if a0_0 = 1 then (if t127 = true then (if (l0_5.length : Int) = 256 then (if a0_2 = 0 then (some (a0_4 == 0)) else (some false)) else (some false)) else (some false)) else (if a0_0 = 2 then (if t127 = true then (if t128 = true then (if t129 = true then (if (l0_5.length : Int) ≥ 1 then (some (decide ((l0_5.length : Int) ≤ 92))) else (some false)) else (some false)) else (some false)) else (some false)) else (if a0_0 = 3 then (if t127 = true then (if t128 = true then (if t129 = true then (some ((l0_5.length : Int) == 0)) else (some false)) else (some false)) else (some false)) else (if a0_0 = 4 then (if t127 = true then (if t128 = true then (if a0_2 = 0 then (some ((l0_5.length : Int) == 0)) else (some false)) else (some false)) else (some false)) else (if a0_0 = 5 then (if t129 = true then (if a0_3 = 0 then (if a0_4 = 0 then (some ((l0_5.length : Int) == 0)) else (some false)) else (some false)) else (some false)) else (some false)))))) = some r := H
    have A6 := Aside0.mk A60
    clear A60
    by_cases c7 : a0_0 = 1
    · rw [if_pos c7] at H
      have c7b0 : (a0_0 == 1) = true := beq_iff_eq.mpr c7
      have c7b1 : (a0_0 != 1) = false := bne_eq_false_iff_eq.mpr c7
      clear c7
      by_cases c8 : t127 = true
      · subst c8
        have H1 : (if (l0_5.length : Int) = 256 then (if a0_2 = 0 then (some (a0_4 == 0)) else (some false)) else (some false)) = some r := by rw [if_pos rfl] at H; exact H
        clear H
        have H := H1
        clear H1
        by_cases c9 : (l0_5.length : Int) = 256
        · rw [if_pos c9] at H
          have c9b0 : ((l0_5.length : Int) == 256) = true := beq_iff_eq.mpr c9
          have c9b1 : ((l0_5.length : Int) != 256) = false := bne_eq_false_iff_eq.mpr c9
          clear c9
          by_cases c10 : a0_2 = 0
          · rw [if_pos c10] at H
            have c10b0 : (a0_2 == 0) = true := beq_iff_eq.mpr c10
            have c10b1 : (a0_2 != 0) = false := bne_eq_false_iff_eq.mpr c10
            clear c10
            obtain rfl := Option.some.inj H
            go_enter Try.func22, Try.ntmps22
            go_wp2_with (first | ((with_reducible refine gate_dst (N := 1) rfl ?_); refine box_event ?hg (N := 1) ?hd (cs := #[.int .i64 a0_0, .int .i64 a0_1, .int .i64 a0_2, .int .i64 a0_3, .int .i64 a0_4, .slice A0_5 l0_5.length c0_5]) (t := 37) ?hr ?_; (case hd => rfl); (case hg => rfl); (case hr => first | (go_simp; done) | (go_simp; rfl)); intro gb125 hg w11 hbox hb; have n0_ := Aside0.mk (below_step (by repeat (first | (with_reducible first | exact HB.out | apply below_alloc | apply pw_below_drewN | apply below_drew1) | exact HB.out)) hb); have n1_ := Aside0.mk (hbox); have n2_ := Aside0.mk ((by rw [hg]; exact (below_size (by repeat (first | (with_reducible first | exact HB.out | apply below_alloc | apply pw_below_drewN | apply below_drew1) | exact HB.out))) : w.heap.size ≤ gb125)); have n3_ := Aside0.mk ((by rw [hg]; exact (below_size (by repeat (first | (with_reducible first | exact HB.out | apply below_alloc | apply pw_below_drewN | apply below_drew1) | exact HB.out))) : w.heap.size ≤ gb125)); clear HB; have HB := n0_; have BK125 := n1_; have GW125 := n2_; have GE125 := n3_; clear n0_ n1_ n2_ n3_; clear hb hbox hg; have hcz12_0 : w11.cell? ⟨gb125, 0, none⟩ = some (.int .i64 a0_0) := (blk_cell BK125.out 0).trans rfl; have hcz12_1 : w11.cell? ⟨gb125, 1, none⟩ = some (.int .i64 a0_1) := (blk_cell BK125.out 1).trans rfl; have hcz12_2 : w11.cell? ⟨gb125, 2, none⟩ = some (.int .i64 a0_2) := (blk_cell BK125.out 2).trans rfl; have hcz12_3 : w11.cell? ⟨gb125, 3, none⟩ = some (.int .i64 a0_3) := (blk_cell BK125.out 3).trans rfl; have hcz12_4 : w11.cell? ⟨gb125, 4, none⟩ = some (.int .i64 a0_4) := (blk_cell BK125.out 4).trans rfl; have hcz12_5 : w11.cell? ⟨gb125, 5, none⟩ = some (.slice A0_5 l0_5.length c0_5) := (blk_cell BK125.out 5).trans rfl; have hfz12_0 := blk_frozen BK125.out 0; have hfz12_1 := blk_frozen BK125.out 1; have hfz12_2 := blk_frozen BK125.out 2; have hfz12_3 := blk_frozen BK125.out 3; have hfz12_4 := blk_frozen BK125.out 4; have hfz12_5 := blk_frozen BK125.out 5) | ((with_reducible refine gate_callee (f := 49) rfl ?_); refine goesL_ (some 9) rfl rfl Try.func49 (by kernel_rfl) rfl #[.int .i64 a0_1, .int .i64 1, .int .i64 1000000] rfl (by (try simp only [List.map_toArray, List.map_cons, List.map_nil]); first | done | rfl | (simp only [List.length_drop, List.length_take]; rfl)) ?_; (with_reducible refine (spec_l5in.calls a0_1 1 1000000 true _ A2.out).mono ?_); rintro e w' ⟨rfl, ⟨nd, rfl⟩⟩; refine ⟨_, rfl, ?_⟩) | ((with_reducible refine gate_callee (f := 49) rfl ?_); refine goesL_ (some 13) rfl rfl Try.func49 (by kernel_rfl) rfl #[.int .i64 a0_3, .int .i64 0, .int .i64 15] rfl (by (try simp only [List.map_toArray, List.map_cons, List.map_nil]); first | done | rfl | (simp only [List.length_drop, List.length_take]; rfl)) ?_; (with_reducible refine (spec_l5in.calls a0_3 0 15 true _ A4.out).mono ?_); rintro e w' ⟨rfl, ⟨nd, rfl⟩⟩; refine ⟨_, rfl, ?_⟩) | ((with_reducible refine gate_callee (f := 49) rfl ?_); refine goesL_ (some 16) rfl rfl Try.func49 (by kernel_rfl) rfl #[.int .i64 a0_4, .int .i64 0, .int .i64 15] rfl (by (try simp only [List.map_toArray, List.map_cons, List.map_nil]); first | done | rfl | (simp only [List.length_drop, List.length_take]; rfl)) ?_; (with_reducible refine (spec_l5in.calls a0_4 0 15 t128 _ A5.out).mono ?_); rintro e w' ⟨rfl, ⟨nd, rfl⟩⟩; refine ⟨_, rfl, ?_⟩) | ((with_reducible refine gate_callee (f := 49) rfl ?_); refine goesL_ (some 19) rfl rfl Try.func49 (by kernel_rfl) rfl #[.int .i64 a0_2, .int .i64 1, .int .i64 400] rfl (by (try simp only [List.map_toArray, List.map_cons, List.map_nil]); first | done | rfl | (simp only [List.length_drop, List.length_take]; rfl)) ?_; (with_reducible refine (spec_l5in.calls a0_2 1 400 t129 _ A6.out).mono ?_); rintro e w' ⟨rfl, ⟨nd, rfl⟩⟩; refine ⟨_, rfl, ?_⟩))
            go_ret
            exact ⟨by first | rfl | (simp [errW_none, errW_some] <;> rfl) | (simp [*, errW_none, errW_some] <;> rfl), by repeat (first | (with_reducible first | exact HB.out | apply below_alloc | apply pw_below_drewN | apply below_drew1 | refine below_set ?_ GE125.out) | exact HB.out)⟩
          · rw [if_neg c10] at H
            have c10b0 : (a0_2 == 0) = false := beq_eq_false_iff_ne.mpr c10
            have c10b1 : (a0_2 != 0) = true := bne_iff_ne.mpr c10
            obtain rfl := Option.some.inj H
            go_enter Try.func22, Try.ntmps22
            go_wp2_with (first | ((with_reducible refine gate_dst (N := 1) rfl ?_); refine box_event ?hg (N := 1) ?hd (cs := #[.int .i64 a0_0, .int .i64 a0_1, .int .i64 a0_2, .int .i64 a0_3, .int .i64 a0_4, .slice A0_5 l0_5.length c0_5]) (t := 37) ?hr ?_; (case hd => rfl); (case hg => rfl); (case hr => first | (go_simp; done) | (go_simp; rfl)); intro gb125 hg w13 hbox hb; have n0_ := Aside0.mk (below_step (by repeat (first | (with_reducible first | exact HB.out | apply below_alloc | apply pw_below_drewN | apply below_drew1) | exact HB.out)) hb); have n1_ := Aside0.mk (hbox); have n2_ := Aside0.mk ((by rw [hg]; exact (below_size (by repeat (first | (with_reducible first | exact HB.out | apply below_alloc | apply pw_below_drewN | apply below_drew1) | exact HB.out))) : w.heap.size ≤ gb125)); have n3_ := Aside0.mk ((by rw [hg]; exact (below_size (by repeat (first | (with_reducible first | exact HB.out | apply below_alloc | apply pw_below_drewN | apply below_drew1) | exact HB.out))) : w.heap.size ≤ gb125)); clear HB; have HB := n0_; have BK125 := n1_; have GW125 := n2_; have GE125 := n3_; clear n0_ n1_ n2_ n3_; clear hb hbox hg; have hcz14_0 : w13.cell? ⟨gb125, 0, none⟩ = some (.int .i64 a0_0) := (blk_cell BK125.out 0).trans rfl; have hcz14_1 : w13.cell? ⟨gb125, 1, none⟩ = some (.int .i64 a0_1) := (blk_cell BK125.out 1).trans rfl; have hcz14_2 : w13.cell? ⟨gb125, 2, none⟩ = some (.int .i64 a0_2) := (blk_cell BK125.out 2).trans rfl; have hcz14_3 : w13.cell? ⟨gb125, 3, none⟩ = some (.int .i64 a0_3) := (blk_cell BK125.out 3).trans rfl; have hcz14_4 : w13.cell? ⟨gb125, 4, none⟩ = some (.int .i64 a0_4) := (blk_cell BK125.out 4).trans rfl; have hcz14_5 : w13.cell? ⟨gb125, 5, none⟩ = some (.slice A0_5 l0_5.length c0_5) := (blk_cell BK125.out 5).trans rfl; have hfz14_0 := blk_frozen BK125.out 0; have hfz14_1 := blk_frozen BK125.out 1; have hfz14_2 := blk_frozen BK125.out 2; have hfz14_3 := blk_frozen BK125.out 3; have hfz14_4 := blk_frozen BK125.out 4; have hfz14_5 := blk_frozen BK125.out 5) | ((with_reducible refine gate_callee (f := 49) rfl ?_); refine goesL_ (some 9) rfl rfl Try.func49 (by kernel_rfl) rfl #[.int .i64 a0_1, .int .i64 1, .int .i64 1000000] rfl (by (try simp only [List.map_toArray, List.map_cons, List.map_nil]); first | done | rfl | (simp only [List.length_drop, List.length_take]; rfl)) ?_; (with_reducible refine (spec_l5in.calls a0_1 1 1000000 true _ A2.out).mono ?_); rintro e w' ⟨rfl, ⟨nd, rfl⟩⟩; refine ⟨_, rfl, ?_⟩) | ((with_reducible refine gate_callee (f := 49) rfl ?_); refine goesL_ (some 13) rfl rfl Try.func49 (by kernel_rfl) rfl #[.int .i64 a0_3, .int .i64 0, .int .i64 15] rfl (by (try simp only [List.map_toArray, List.map_cons, List.map_nil]); first | done | rfl | (simp only [List.length_drop, List.length_take]; rfl)) ?_; (with_reducible refine (spec_l5in.calls a0_3 0 15 true _ A4.out).mono ?_); rintro e w' ⟨rfl, ⟨nd, rfl⟩⟩; refine ⟨_, rfl, ?_⟩) | ((with_reducible refine gate_callee (f := 49) rfl ?_); refine goesL_ (some 16) rfl rfl Try.func49 (by kernel_rfl) rfl #[.int .i64 a0_4, .int .i64 0, .int .i64 15] rfl (by (try simp only [List.map_toArray, List.map_cons, List.map_nil]); first | done | rfl | (simp only [List.length_drop, List.length_take]; rfl)) ?_; (with_reducible refine (spec_l5in.calls a0_4 0 15 t128 _ A5.out).mono ?_); rintro e w' ⟨rfl, ⟨nd, rfl⟩⟩; refine ⟨_, rfl, ?_⟩) | ((with_reducible refine gate_callee (f := 49) rfl ?_); refine goesL_ (some 19) rfl rfl Try.func49 (by kernel_rfl) rfl #[.int .i64 a0_2, .int .i64 1, .int .i64 400] rfl (by (try simp only [List.map_toArray, List.map_cons, List.map_nil]); first | done | rfl | (simp only [List.length_drop, List.length_take]; rfl)) ?_; (with_reducible refine (spec_l5in.calls a0_2 1 400 t129 _ A6.out).mono ?_); rintro e w' ⟨rfl, ⟨nd, rfl⟩⟩; refine ⟨_, rfl, ?_⟩))
            go_ret
            exact ⟨by first | rfl | (simp [errW_none, errW_some] <;> rfl) | (simp [*, errW_none, errW_some] <;> rfl), by repeat (first | (with_reducible first | exact HB.out | apply below_alloc | apply pw_below_drewN | apply below_drew1 | refine below_set ?_ GE125.out) | exact HB.out)⟩
        · rw [if_neg c9] at H
          have c9b0 : ((l0_5.length : Int) == 256) = false := beq_eq_false_iff_ne.mpr c9
          have c9b1 : ((l0_5.length : Int) != 256) = true := bne_iff_ne.mpr c9
          obtain rfl := Option.some.inj H
          go_enter Try.func22, Try.ntmps22
          go_wp2_with (first | ((with_reducible refine gate_dst (N := 1) rfl ?_); refine box_event ?hg (N := 1) ?hd (cs := #[.int .i64 a0_0, .int .i64 a0_1, .int .i64 a0_2, .int .i64 a0_3, .int .i64 a0_4, .slice A0_5 l0_5.length c0_5]) (t := 37) ?hr ?_; (case hd => rfl); (case hg => rfl); (case hr => first | (go_simp; done) | (go_simp; rfl)); intro gb125 hg w15 hbox hb; have n0_ := Aside0.mk (below_step (by repeat (first | (with_reducible first | exact HB.out | apply below_alloc | apply pw_below_drewN | apply below_drew1) | exact HB.out)) hb); have n1_ := Aside0.mk (hbox); have n2_ := Aside0.mk ((by rw [hg]; exact (below_size (by repeat (first | (with_reducible first | exact HB.out | apply below_alloc | apply pw_below_drewN | apply below_drew1) | exact HB.out))) : w.heap.size ≤ gb125)); have n3_ := Aside0.mk ((by rw [hg]; exact (below_size (by repeat (first | (with_reducible first | exact HB.out | apply below_alloc | apply pw_below_drewN | apply below_drew1) | exact HB.out))) : w.heap.size ≤ gb125)); clear HB; have HB := n0_; have BK125 := n1_; have GW125 := n2_; have GE125 := n3_; clear n0_ n1_ n2_ n3_; clear hb hbox hg; have hcz16_0 : w15.cell? ⟨gb125, 0, none⟩ = some (.int .i64 a0_0) := (blk_cell BK125.out 0).trans rfl; have hcz16_1 : w15.cell? ⟨gb125, 1, none⟩ = some (.int .i64 a0_1) := (blk_cell BK125.out 1).trans rfl; have hcz16_2 : w15.cell? ⟨gb125, 2, none⟩ = some (.int .i64 a0_2) := (blk_cell BK125.out 2).trans rfl; have hcz16_3 : w15.cell? ⟨gb125, 3, none⟩ = some (.int .i64 a0_3) := (blk_cell BK125.out 3).trans rfl; have hcz16_4 : w15.cell? ⟨gb125, 4, none⟩ = some (.int .i64 a0_4) := (blk_cell BK125.out 4).trans rfl; have hcz16_5 : w15.cell? ⟨gb125, 5, none⟩ = some (.slice A0_5 l0_5.length c0_5) := (blk_cell BK125.out 5).trans rfl; have hfz16_0 := blk_frozen BK125.out 0; have hfz16_1 := blk_frozen BK125.out 1; have hfz16_2 := blk_frozen BK125.out 2; have hfz16_3 := blk_frozen BK125.out 3; have hfz16_4 := blk_frozen BK125.out 4; have hfz16_5 := blk_frozen BK125.out 5) | ((with_reducible refine gate_callee (f := 49) rfl ?_); refine goesL_ (some 9) rfl rfl Try.func49 (by kernel_rfl) rfl #[.int .i64 a0_1, .int .i64 1, .int .i64 1000000] rfl (by (try simp only [List.map_toArray, List.map_cons, List.map_nil]); first | done | rfl | (simp only [List.length_drop, List.length_take]; rfl)) ?_; (with_reducible refine (spec_l5in.calls a0_1 1 1000000 true _ A2.out).mono ?_); rintro e w' ⟨rfl, ⟨nd, rfl⟩⟩; refine ⟨_, rfl, ?_⟩) | ((with_reducible refine gate_callee (f := 49) rfl ?_); refine goesL_ (some 13) rfl rfl Try.func49 (by kernel_rfl) rfl #[.int .i64 a0_3, .int .i64 0, .int .i64 15] rfl (by (try simp only [List.map_toArray, List.map_cons, List.map_nil]); first | done | rfl | (simp only [List.length_drop, List.length_take]; rfl)) ?_; (with_reducible refine (spec_l5in.calls a0_3 0 15 true _ A4.out).mono ?_); rintro e w' ⟨rfl, ⟨nd, rfl⟩⟩; refine ⟨_, rfl, ?_⟩) | ((with_reducible refine gate_callee (f := 49) rfl ?_); refine goesL_ (some 16) rfl rfl Try.func49 (by kernel_rfl) rfl #[.int .i64 a0_4, .int .i64 0, .int .i64 15] rfl (by (try simp only [List.map_toArray, List.map_cons, List.map_nil]); first | done | rfl | (simp only [List.length_drop, List.length_take]; rfl)) ?_; (with_reducible refine (spec_l5in.calls a0_4 0 15 t128 _ A5.out).mono ?_); rintro e w' ⟨rfl, ⟨nd, rfl⟩⟩; refine ⟨_, rfl, ?_⟩) | ((with_reducible refine gate_callee (f := 49) rfl ?_); refine goesL_ (some 19) rfl rfl Try.func49 (by kernel_rfl) rfl #[.int .i64 a0_2, .int .i64 1, .int .i64 400] rfl (by (try simp only [List.map_toArray, List.map_cons, List.map_nil]); first | done | rfl | (simp only [List.length_drop, List.length_take]; rfl)) ?_; (with_reducible refine (spec_l5in.calls a0_2 1 400 t129 _ A6.out).mono ?_); rintro e w' ⟨rfl, ⟨nd, rfl⟩⟩; refine ⟨_, rfl, ?_⟩))
          go_ret
          exact ⟨by first | rfl | (simp [errW_none, errW_some] <;> rfl) | (simp [*, errW_none, errW_some] <;> rfl), by repeat (first | (with_reducible first | exact HB.out | apply below_alloc | apply pw_below_drewN | apply below_drew1 | refine below_set ?_ GE125.out) | exact HB.out)⟩
      · replace c8 := Bool.eq_false_iff.mpr c8
        subst c8
        have H1 : (some false) = some r := by rw [if_neg (show ¬ (false = true) by decide)] at H; exact H
        clear H
        have H := H1
        clear H1
        obtain rfl := Option.some.inj H
        go_enter Try.func22, Try.ntmps22
        go_wp2_with (first | ((with_reducible refine gate_dst (N := 1) rfl ?_); refine box_event ?hg (N := 1) ?hd (cs := #[.int .i64 a0_0, .int .i64 a0_1, .int .i64 a0_2, .int .i64 a0_3, .int .i64 a0_4, .slice A0_5 l0_5.length c0_5]) (t := 37) ?hr ?_; (case hd => rfl); (case hg => rfl); (case hr => first | (go_simp; done) | (go_simp; rfl)); intro gb125 hg w17 hbox hb; have n0_ := Aside0.mk (below_step (by repeat (first | (with_reducible first | exact HB.out | apply below_alloc | apply pw_below_drewN | apply below_drew1) | exact HB.out)) hb); have n1_ := Aside0.mk (hbox); have n2_ := Aside0.mk ((by rw [hg]; exact (below_size (by repeat (first | (with_reducible first | exact HB.out | apply below_alloc | apply pw_below_drewN | apply below_drew1) | exact HB.out))) : w.heap.size ≤ gb125)); have n3_ := Aside0.mk ((by rw [hg]; exact (below_size (by repeat (first | (with_reducible first | exact HB.out | apply below_alloc | apply pw_below_drewN | apply below_drew1) | exact HB.out))) : w.heap.size ≤ gb125)); clear HB; have HB := n0_; have BK125 := n1_; have GW125 := n2_; have GE125 := n3_; clear n0_ n1_ n2_ n3_; clear hb hbox hg; have hcz18_0 : w17.cell? ⟨gb125, 0, none⟩ = some (.int .i64 a0_0) := (blk_cell BK125.out 0).trans rfl; have hcz18_1 : w17.cell? ⟨gb125, 1, none⟩ = some (.int .i64 a0_1) := (blk_cell BK125.out 1).trans rfl; have hcz18_2 : w17.cell? ⟨gb125, 2, none⟩ = some (.int .i64 a0_2) := (blk_cell BK125.out 2).trans rfl; have hcz18_3 : w17.cell? ⟨gb125, 3, none⟩ = some (.int .i64 a0_3) := (blk_cell BK125.out 3).trans rfl; have hcz18_4 : w17.cell? ⟨gb125, 4, none⟩ = some (.int .i64 a0_4) := (blk_cell BK125.out 4).trans rfl; have hcz18_5 : w17.cell? ⟨gb125, 5, none⟩ = some (.slice A0_5 l0_5.length c0_5) := (blk_cell BK125.out 5).trans rfl; have hfz18_0 := blk_frozen BK125.out 0; have hfz18_1 := blk_frozen BK125.out 1; have hfz18_2 := blk_frozen BK125.out 2; have hfz18_3 := blk_frozen BK125.out 3; have hfz18_4 := blk_frozen BK125.out 4; have hfz18_5 := blk_frozen BK125.out 5) | ((with_reducible refine gate_callee (f := 49) rfl ?_); refine goesL_ (some 9) rfl rfl Try.func49 (by kernel_rfl) rfl #[.int .i64 a0_1, .int .i64 1, .int .i64 1000000] rfl (by (try simp only [List.map_toArray, List.map_cons, List.map_nil]); first | done | rfl | (simp only [List.length_drop, List.length_take]; rfl)) ?_; (with_reducible refine (spec_l5in.calls a0_1 1 1000000 true _ A2.out).mono ?_); rintro e w' ⟨rfl, ⟨nd, rfl⟩⟩; refine ⟨_, rfl, ?_⟩) | ((with_reducible refine gate_callee (f := 49) rfl ?_); refine goesL_ (some 13) rfl rfl Try.func49 (by kernel_rfl) rfl #[.int .i64 a0_3, .int .i64 0, .int .i64 15] rfl (by (try simp only [List.map_toArray, List.map_cons, List.map_nil]); first | done | rfl | (simp only [List.length_drop, List.length_take]; rfl)) ?_; (with_reducible refine (spec_l5in.calls a0_3 0 15 false _ A4.out).mono ?_); rintro e w' ⟨rfl, ⟨nd, rfl⟩⟩; refine ⟨_, rfl, ?_⟩) | ((with_reducible refine gate_callee (f := 49) rfl ?_); refine goesL_ (some 16) rfl rfl Try.func49 (by kernel_rfl) rfl #[.int .i64 a0_4, .int .i64 0, .int .i64 15] rfl (by (try simp only [List.map_toArray, List.map_cons, List.map_nil]); first | done | rfl | (simp only [List.length_drop, List.length_take]; rfl)) ?_; (with_reducible refine (spec_l5in.calls a0_4 0 15 t128 _ A5.out).mono ?_); rintro e w' ⟨rfl, ⟨nd, rfl⟩⟩; refine ⟨_, rfl, ?_⟩) | ((with_reducible refine gate_callee (f := 49) rfl ?_); refine goesL_ (some 19) rfl rfl Try.func49 (by kernel_rfl) rfl #[.int .i64 a0_2, .int .i64 1, .int .i64 400] rfl (by (try simp only [List.map_toArray, List.map_cons, List.map_nil]); first | done | rfl | (simp only [List.length_drop, List.length_take]; rfl)) ?_; (with_reducible refine (spec_l5in.calls a0_2 1 400 t129 _ A6.out).mono ?_); rintro e w' ⟨rfl, ⟨nd, rfl⟩⟩; refine ⟨_, rfl, ?_⟩))
        go_ret
        exact ⟨by first | rfl | (simp [errW_none, errW_some] <;> rfl) | (simp [*, errW_none, errW_some] <;> rfl), by repeat (first | (with_reducible first | exact HB.out | apply below_alloc | apply pw_below_drewN | apply below_drew1 | refine below_set ?_ GE125.out) | exact HB.out)⟩
    · rw [if_neg c7] at H
      have c7b0 : (a0_0 == 1) = false := beq_eq_false_iff_ne.mpr c7
      have c7b1 : (a0_0 != 1) = true := bne_iff_ne.mpr c7
      by_cases c19 : a0_0 = 2
      · rw [if_pos c19] at H
        have c19b0 : (a0_0 == 2) = true := beq_iff_eq.mpr c19
        have c19b1 : (a0_0 != 2) = false := bne_eq_false_iff_eq.mpr c19
        clear c19
        by_cases c20 : t127 = true
        · subst c20
          have H1 : (if t128 = true then (if t129 = true then (if (l0_5.length : Int) ≥ 1 then (some (decide ((l0_5.length : Int) ≤ 92))) else (some false)) else (some false)) else (some false)) = some r := by rw [if_pos rfl] at H; exact H
          clear H
          have H := H1
          clear H1
          by_cases c21 : t128 = true
          · subst c21
            have H1 : (if t129 = true then (if (l0_5.length : Int) ≥ 1 then (some (decide ((l0_5.length : Int) ≤ 92))) else (some false)) else (some false)) = some r := by rw [if_pos rfl] at H; exact H
            clear H
            have H := H1
            clear H1
            by_cases c22 : t129 = true
            · subst c22
              have H1 : (if (l0_5.length : Int) ≥ 1 then (some (decide ((l0_5.length : Int) ≤ 92))) else (some false)) = some r := by rw [if_pos rfl] at H; exact H
              clear H
              have H := H1
              clear H1
              by_cases c23 : (l0_5.length : Int) ≥ 1
              · rw [if_pos c23] at H
                have c23b0 : decide (1 ≤ (l0_5.length : Int)) = true := decide_eq_true c23
                have c23b1 : decide (1 ≤ l0_5.length) = true := decide_eq_true (by omega)
                clear c23
                obtain rfl := Option.some.inj H
                go_enter Try.func22, Try.ntmps22
                go_wp2_with (first | ((with_reducible refine gate_dst (N := 1) rfl ?_); refine box_event ?hg (N := 1) ?hd (cs := #[.int .i64 a0_0, .int .i64 a0_1, .int .i64 a0_2, .int .i64 a0_3, .int .i64 a0_4, .slice A0_5 l0_5.length c0_5]) (t := 37) ?hr ?_; (case hd => rfl); (case hg => rfl); (case hr => first | (go_simp; done) | (go_simp; rfl)); intro gb125 hg w24 hbox hb; have n0_ := Aside0.mk (below_step (by repeat (first | (with_reducible first | exact HB.out | apply below_alloc | apply pw_below_drewN | apply below_drew1) | exact HB.out)) hb); have n1_ := Aside0.mk (hbox); have n2_ := Aside0.mk ((by rw [hg]; exact (below_size (by repeat (first | (with_reducible first | exact HB.out | apply below_alloc | apply pw_below_drewN | apply below_drew1) | exact HB.out))) : w.heap.size ≤ gb125)); have n3_ := Aside0.mk ((by rw [hg]; exact (below_size (by repeat (first | (with_reducible first | exact HB.out | apply below_alloc | apply pw_below_drewN | apply below_drew1) | exact HB.out))) : w.heap.size ≤ gb125)); clear HB; have HB := n0_; have BK125 := n1_; have GW125 := n2_; have GE125 := n3_; clear n0_ n1_ n2_ n3_; clear hb hbox hg; have hcz25_0 : w24.cell? ⟨gb125, 0, none⟩ = some (.int .i64 a0_0) := (blk_cell BK125.out 0).trans rfl; have hcz25_1 : w24.cell? ⟨gb125, 1, none⟩ = some (.int .i64 a0_1) := (blk_cell BK125.out 1).trans rfl; have hcz25_2 : w24.cell? ⟨gb125, 2, none⟩ = some (.int .i64 a0_2) := (blk_cell BK125.out 2).trans rfl; have hcz25_3 : w24.cell? ⟨gb125, 3, none⟩ = some (.int .i64 a0_3) := (blk_cell BK125.out 3).trans rfl; have hcz25_4 : w24.cell? ⟨gb125, 4, none⟩ = some (.int .i64 a0_4) := (blk_cell BK125.out 4).trans rfl; have hcz25_5 : w24.cell? ⟨gb125, 5, none⟩ = some (.slice A0_5 l0_5.length c0_5) := (blk_cell BK125.out 5).trans rfl; have hfz25_0 := blk_frozen BK125.out 0; have hfz25_1 := blk_frozen BK125.out 1; have hfz25_2 := blk_frozen BK125.out 2; have hfz25_3 := blk_frozen BK125.out 3; have hfz25_4 := blk_frozen BK125.out 4; have hfz25_5 := blk_frozen BK125.out 5) | ((with_reducible refine gate_callee (f := 49) rfl ?_); refine goesL_ (some 9) rfl rfl Try.func49 (by kernel_rfl) rfl #[.int .i64 a0_1, .int .i64 1, .int .i64 1000000] rfl (by (try simp only [List.map_toArray, List.map_cons, List.map_nil]); first | done | rfl | (simp only [List.length_drop, List.length_take]; rfl)) ?_; (with_reducible refine (spec_l5in.calls a0_1 1 1000000 true _ A2.out).mono ?_); rintro e w' ⟨rfl, ⟨nd, rfl⟩⟩; refine ⟨_, rfl, ?_⟩) | ((with_reducible refine gate_callee (f := 49) rfl ?_); refine goesL_ (some 13) rfl rfl Try.func49 (by kernel_rfl) rfl #[.int .i64 a0_3, .int .i64 0, .int .i64 15] rfl (by (try simp only [List.map_toArray, List.map_cons, List.map_nil]); first | done | rfl | (simp only [List.length_drop, List.length_take]; rfl)) ?_; (with_reducible refine (spec_l5in.calls a0_3 0 15 true _ A4.out).mono ?_); rintro e w' ⟨rfl, ⟨nd, rfl⟩⟩; refine ⟨_, rfl, ?_⟩) | ((with_reducible refine gate_callee (f := 49) rfl ?_); refine goesL_ (some 16) rfl rfl Try.func49 (by kernel_rfl) rfl #[.int .i64 a0_4, .int .i64 0, .int .i64 15] rfl (by (try simp only [List.map_toArray, List.map_cons, List.map_nil]); first | done | rfl | (simp only [List.length_drop, List.length_take]; rfl)) ?_; (with_reducible refine (spec_l5in.calls a0_4 0 15 true _ A5.out).mono ?_); rintro e w' ⟨rfl, ⟨nd, rfl⟩⟩; refine ⟨_, rfl, ?_⟩) | ((with_reducible refine gate_callee (f := 49) rfl ?_); refine goesL_ (some 19) rfl rfl Try.func49 (by kernel_rfl) rfl #[.int .i64 a0_2, .int .i64 1, .int .i64 400] rfl (by (try simp only [List.map_toArray, List.map_cons, List.map_nil]); first | done | rfl | (simp only [List.length_drop, List.length_take]; rfl)) ?_; (with_reducible refine (spec_l5in.calls a0_2 1 400 true _ A6.out).mono ?_); rintro e w' ⟨rfl, ⟨nd, rfl⟩⟩; refine ⟨_, rfl, ?_⟩))
                go_ret
                exact ⟨by first | rfl | (simp [errW_none, errW_some] <;> rfl) | (simp [*, errW_none, errW_some] <;> rfl), by repeat (first | (with_reducible first | exact HB.out | apply below_alloc | apply pw_below_drewN | apply below_drew1 | refine below_set ?_ GE125.out) | exact HB.out)⟩
              · rw [if_neg c23] at H
                have c23b0 : decide (1 ≤ (l0_5.length : Int)) = false := decide_eq_false c23
                have c23b1 : decide (1 ≤ l0_5.length) = false := decide_eq_false (by omega)
                clear c23
                obtain rfl := Option.some.inj H
                go_enter Try.func22, Try.ntmps22
                go_wp2_with (first | ((with_reducible refine gate_dst (N := 1) rfl ?_); refine box_event ?hg (N := 1) ?hd (cs := #[.int .i64 a0_0, .int .i64 a0_1, .int .i64 a0_2, .int .i64 a0_3, .int .i64 a0_4, .slice A0_5 l0_5.length c0_5]) (t := 37) ?hr ?_; (case hd => rfl); (case hg => rfl); (case hr => first | (go_simp; done) | (go_simp; rfl)); intro gb125 hg w26 hbox hb; have n0_ := Aside0.mk (below_step (by repeat (first | (with_reducible first | exact HB.out | apply below_alloc | apply pw_below_drewN | apply below_drew1) | exact HB.out)) hb); have n1_ := Aside0.mk (hbox); have n2_ := Aside0.mk ((by rw [hg]; exact (below_size (by repeat (first | (with_reducible first | exact HB.out | apply below_alloc | apply pw_below_drewN | apply below_drew1) | exact HB.out))) : w.heap.size ≤ gb125)); have n3_ := Aside0.mk ((by rw [hg]; exact (below_size (by repeat (first | (with_reducible first | exact HB.out | apply below_alloc | apply pw_below_drewN | apply below_drew1) | exact HB.out))) : w.heap.size ≤ gb125)); clear HB; have HB := n0_; have BK125 := n1_; have GW125 := n2_; have GE125 := n3_; clear n0_ n1_ n2_ n3_; clear hb hbox hg; have hcz27_0 : w26.cell? ⟨gb125, 0, none⟩ = some (.int .i64 a0_0) := (blk_cell BK125.out 0).trans rfl; have hcz27_1 : w26.cell? ⟨gb125, 1, none⟩ = some (.int .i64 a0_1) := (blk_cell BK125.out 1).trans rfl; have hcz27_2 : w26.cell? ⟨gb125, 2, none⟩ = some (.int .i64 a0_2) := (blk_cell BK125.out 2).trans rfl; have hcz27_3 : w26.cell? ⟨gb125, 3, none⟩ = some (.int .i64 a0_3) := (blk_cell BK125.out 3).trans rfl; have hcz27_4 : w26.cell? ⟨gb125, 4, none⟩ = some (.int .i64 a0_4) := (blk_cell BK125.out 4).trans rfl; have hcz27_5 : w26.cell? ⟨gb125, 5, none⟩ = some (.slice A0_5 l0_5.length c0_5) := (blk_cell BK125.out 5).trans rfl; have hfz27_0 := blk_frozen BK125.out 0; have hfz27_1 := blk_frozen BK125.out 1; have hfz27_2 := blk_frozen BK125.out 2; have hfz27_3 := blk_frozen BK125.out 3; have hfz27_4 := blk_frozen BK125.out 4; have hfz27_5 := blk_frozen BK125.out 5) | ((with_reducible refine gate_callee (f := 49) rfl ?_); refine goesL_ (some 9) rfl rfl Try.func49 (by kernel_rfl) rfl #[.int .i64 a0_1, .int .i64 1, .int .i64 1000000] rfl (by (try simp only [List.map_toArray, List.map_cons, List.map_nil]); first | done | rfl | (simp only [List.length_drop, List.length_take]; rfl)) ?_; (with_reducible refine (spec_l5in.calls a0_1 1 1000000 true _ A2.out).mono ?_); rintro e w' ⟨rfl, ⟨nd, rfl⟩⟩; refine ⟨_, rfl, ?_⟩) | ((with_reducible refine gate_callee (f := 49) rfl ?_); refine goesL_ (some 13) rfl rfl Try.func49 (by kernel_rfl) rfl #[.int .i64 a0_3, .int .i64 0, .int .i64 15] rfl (by (try simp only [List.map_toArray, List.map_cons, List.map_nil]); first | done | rfl | (simp only [List.length_drop, List.length_take]; rfl)) ?_; (with_reducible refine (spec_l5in.calls a0_3 0 15 true _ A4.out).mono ?_); rintro e w' ⟨rfl, ⟨nd, rfl⟩⟩; refine ⟨_, rfl, ?_⟩) | ((with_reducible refine gate_callee (f := 49) rfl ?_); refine goesL_ (some 16) rfl rfl Try.func49 (by kernel_rfl) rfl #[.int .i64 a0_4, .int .i64 0, .int .i64 15] rfl (by (try simp only [List.map_toArray, List.map_cons, List.map_nil]); first | done | rfl | (simp only [List.length_drop, List.length_take]; rfl)) ?_; (with_reducible refine (spec_l5in.calls a0_4 0 15 true _ A5.out).mono ?_); rintro e w' ⟨rfl, ⟨nd, rfl⟩⟩; refine ⟨_, rfl, ?_⟩) | ((with_reducible refine gate_callee (f := 49) rfl ?_); refine goesL_ (some 19) rfl rfl Try.func49 (by kernel_rfl) rfl #[.int .i64 a0_2, .int .i64 1, .int .i64 400] rfl (by (try simp only [List.map_toArray, List.map_cons, List.map_nil]); first | done | rfl | (simp only [List.length_drop, List.length_take]; rfl)) ?_; (with_reducible refine (spec_l5in.calls a0_2 1 400 true _ A6.out).mono ?_); rintro e w' ⟨rfl, ⟨nd, rfl⟩⟩; refine ⟨_, rfl, ?_⟩))
                go_ret
                exact ⟨by first | rfl | (simp [errW_none, errW_some] <;> rfl) | (simp [*, errW_none, errW_some] <;> rfl), by repeat (first | (with_reducible first | exact HB.out | apply below_alloc | apply pw_below_drewN | apply below_drew1 | refine below_set ?_ GE125.out) | exact HB.out)⟩
            · replace c22 := Bool.eq_false_iff.mpr c22
              subst c22
              have H1 : (some false) = some r := by rw [if_neg (show ¬ (false = true) by decide)] at H; exact H
              clear H
              have H := H1
              clear H1
              obtain rfl := Option.some.inj H
              go_enter Try.func22, Try.ntmps22
              go_wp2_with (first | ((with_reducible refine gate_dst (N := 1) rfl ?_); refine box_event ?hg (N := 1) ?hd (cs := #[.int .i64 a0_0, .int .i64 a0_1, .int .i64 a0_2, .int .i64 a0_3, .int .i64 a0_4, .slice A0_5 l0_5.length c0_5]) (t := 37) ?hr ?_; (case hd => rfl); (case hg => rfl); (case hr => first | (go_simp; done) | (go_simp; rfl)); intro gb125 hg w28 hbox hb; have n0_ := Aside0.mk (below_step (by repeat (first | (with_reducible first | exact HB.out | apply below_alloc | apply pw_below_drewN | apply below_drew1) | exact HB.out)) hb); have n1_ := Aside0.mk (hbox); have n2_ := Aside0.mk ((by rw [hg]; exact (below_size (by repeat (first | (with_reducible first | exact HB.out | apply below_alloc | apply pw_below_drewN | apply below_drew1) | exact HB.out))) : w.heap.size ≤ gb125)); have n3_ := Aside0.mk ((by rw [hg]; exact (below_size (by repeat (first | (with_reducible first | exact HB.out | apply below_alloc | apply pw_below_drewN | apply below_drew1) | exact HB.out))) : w.heap.size ≤ gb125)); clear HB; have HB := n0_; have BK125 := n1_; have GW125 := n2_; have GE125 := n3_; clear n0_ n1_ n2_ n3_; clear hb hbox hg; have hcz29_0 : w28.cell? ⟨gb125, 0, none⟩ = some (.int .i64 a0_0) := (blk_cell BK125.out 0).trans rfl; have hcz29_1 : w28.cell? ⟨gb125, 1, none⟩ = some (.int .i64 a0_1) := (blk_cell BK125.out 1).trans rfl; have hcz29_2 : w28.cell? ⟨gb125, 2, none⟩ = some (.int .i64 a0_2) := (blk_cell BK125.out 2).trans rfl; have hcz29_3 : w28.cell? ⟨gb125, 3, none⟩ = some (.int .i64 a0_3) := (blk_cell BK125.out 3).trans rfl; have hcz29_4 : w28.cell? ⟨gb125, 4, none⟩ = some (.int .i64 a0_4) := (blk_cell BK125.out 4).trans rfl; have hcz29_5 : w28.cell? ⟨gb125, 5, none⟩ = some (.slice A0_5 l0_5.length c0_5) := (blk_cell BK125.out 5).trans rfl; have hfz29_0 := blk_frozen BK125.out 0; have hfz29_1 := blk_frozen BK125.out 1; have hfz29_2 := blk_frozen BK125.out 2; have hfz29_3 := blk_frozen BK125.out 3; have hfz29_4 := blk_frozen BK125.out 4; have hfz29_5 := blk_frozen BK125.out 5) | ((with_reducible refine gate_callee (f := 49) rfl ?_); refine goesL_ (some 9) rfl rfl Try.func49 (by kernel_rfl) rfl #[.int .i64 a0_1, .int .i64 1, .int .i64 1000000] rfl (by (try simp only [List.map_toArray, List.map_cons, List.map_nil]); first | done | rfl | (simp only [List.length_drop, List.length_take]; rfl)) ?_; (with_reducible refine (spec_l5in.calls a0_1 1 1000000 true _ A2.out).mono ?_); rintro e w' ⟨rfl, ⟨nd, rfl⟩⟩; refine ⟨_, rfl, ?_⟩) | ((with_reducible refine gate_callee (f := 49) rfl ?_); refine goesL_ (some 13) rfl rfl Try.func49 (by kernel_rfl) rfl #[.int .i64 a0_3, .int .i64 0, .int .i64 15] rfl (by (try simp only [List.map_toArray, List.map_cons, List.map_nil]); first | done | rfl | (simp only [List.length_drop, List.length_take]; rfl)) ?_; (with_reducible refine (spec_l5in.calls a0_3 0 15 true _ A4.out).mono ?_); rintro e w' ⟨rfl, ⟨nd, rfl⟩⟩; refine ⟨_, rfl, ?_⟩) | ((with_reducible refine gate_callee (f := 49) rfl ?_); refine goesL_ (some 16) rfl rfl Try.func49 (by kernel_rfl) rfl #[.int .i64 a0_4, .int .i64 0, .int .i64 15] rfl (by (try simp only [List.map_toArray, List.map_cons, List.map_nil]); first | done | rfl | (simp only [List.length_drop, List.length_take]; rfl)) ?_; (with_reducible refine (spec_l5in.calls a0_4 0 15 true _ A5.out).mono ?_); rintro e w' ⟨rfl, ⟨nd, rfl⟩⟩; refine ⟨_, rfl, ?_⟩) | ((with_reducible refine gate_callee (f := 49) rfl ?_); refine goesL_ (some 19) rfl rfl Try.func49 (by kernel_rfl) rfl #[.int .i64 a0_2, .int .i64 1, .int .i64 400] rfl (by (try simp only [List.map_toArray, List.map_cons, List.map_nil]); first | done | rfl | (simp only [List.length_drop, List.length_take]; rfl)) ?_; (with_reducible refine (spec_l5in.calls a0_2 1 400 false _ A6.out).mono ?_); rintro e w' ⟨rfl, ⟨nd, rfl⟩⟩; refine ⟨_, rfl, ?_⟩))
              go_ret
              exact ⟨by first | rfl | (simp [errW_none, errW_some] <;> rfl) | (simp [*, errW_none, errW_some] <;> rfl), by repeat (first | (with_reducible first | exact HB.out | apply below_alloc | apply pw_below_drewN | apply below_drew1 | refine below_set ?_ GE125.out) | exact HB.out)⟩
          · replace c21 := Bool.eq_false_iff.mpr c21
            subst c21
            have H1 : (some false) = some r := by rw [if_neg (show ¬ (false = true) by decide)] at H; exact H
            clear H
            have H := H1
            clear H1
            obtain rfl := Option.some.inj H
            go_enter Try.func22, Try.ntmps22
            go_wp2_with (first | ((with_reducible refine gate_dst (N := 1) rfl ?_); refine box_event ?hg (N := 1) ?hd (cs := #[.int .i64 a0_0, .int .i64 a0_1, .int .i64 a0_2, .int .i64 a0_3, .int .i64 a0_4, .slice A0_5 l0_5.length c0_5]) (t := 37) ?hr ?_; (case hd => rfl); (case hg => rfl); (case hr => first | (go_simp; done) | (go_simp; rfl)); intro gb125 hg w30 hbox hb; have n0_ := Aside0.mk (below_step (by repeat (first | (with_reducible first | exact HB.out | apply below_alloc | apply pw_below_drewN | apply below_drew1) | exact HB.out)) hb); have n1_ := Aside0.mk (hbox); have n2_ := Aside0.mk ((by rw [hg]; exact (below_size (by repeat (first | (with_reducible first | exact HB.out | apply below_alloc | apply pw_below_drewN | apply below_drew1) | exact HB.out))) : w.heap.size ≤ gb125)); have n3_ := Aside0.mk ((by rw [hg]; exact (below_size (by repeat (first | (with_reducible first | exact HB.out | apply below_alloc | apply pw_below_drewN | apply below_drew1) | exact HB.out))) : w.heap.size ≤ gb125)); clear HB; have HB := n0_; have BK125 := n1_; have GW125 := n2_; have GE125 := n3_; clear n0_ n1_ n2_ n3_; clear hb hbox hg; have hcz31_0 : w30.cell? ⟨gb125, 0, none⟩ = some (.int .i64 a0_0) := (blk_cell BK125.out 0).trans rfl; have hcz31_1 : w30.cell? ⟨gb125, 1, none⟩ = some (.int .i64 a0_1) := (blk_cell BK125.out 1).trans rfl; have hcz31_2 : w30.cell? ⟨gb125, 2, none⟩ = some (.int .i64 a0_2) := (blk_cell BK125.out 2).trans rfl; have hcz31_3 : w30.cell? ⟨gb125, 3, none⟩ = some (.int .i64 a0_3) := (blk_cell BK125.out 3).trans rfl; have hcz31_4 : w30.cell? ⟨gb125, 4, none⟩ = some (.int .i64 a0_4) := (blk_cell BK125.out 4).trans rfl; have hcz31_5 : w30.cell? ⟨gb125, 5, none⟩ = some (.slice A0_5 l0_5.length c0_5) := (blk_cell BK125.out 5).trans rfl; have hfz31_0 := blk_frozen BK125.out 0; have hfz31_1 := blk_frozen BK125.out 1; have hfz31_2 := blk_frozen BK125.out 2; have hfz31_3 := blk_frozen BK125.out 3; have hfz31_4 := blk_frozen BK125.out 4; have hfz31_5 := blk_frozen BK125.out 5) | ((with_reducible refine gate_callee (f := 49) rfl ?_); refine goesL_ (some 9) rfl rfl Try.func49 (by kernel_rfl) rfl #[.int .i64 a0_1, .int .i64 1, .int .i64 1000000] rfl (by (try simp only [List.map_toArray, List.map_cons, List.map_nil]); first | done | rfl | (simp only [List.length_drop, List.length_take]; rfl)) ?_; (with_reducible refine (spec_l5in.calls a0_1 1 1000000 true _ A2.out).mono ?_); rintro e w' ⟨rfl, ⟨nd, rfl⟩⟩; refine ⟨_, rfl, ?_⟩) | ((with_reducible refine gate_callee (f := 49) rfl ?_); refine goesL_ (some 13) rfl rfl Try.func49 (by kernel_rfl) rfl #[.int .i64 a0_3, .int .i64 0, .int .i64 15] rfl (by (try simp only [List.map_toArray, List.map_cons, List.map_nil]); first | done | rfl | (simp only [List.length_drop, List.length_take]; rfl)) ?_; (with_reducible refine (spec_l5in.calls a0_3 0 15 true _ A4.out).mono ?_); rintro e w' ⟨rfl, ⟨nd, rfl⟩⟩; refine ⟨_, rfl, ?_⟩) | ((with_reducible refine gate_callee (f := 49) rfl ?_); refine goesL_ (some 16) rfl rfl Try.func49 (by kernel_rfl) rfl #[.int .i64 a0_4, .int .i64 0, .int .i64 15] rfl (by (try simp only [List.map_toArray, List.map_cons, List.map_nil]); first | done | rfl | (simp only [List.length_drop, List.length_take]; rfl)) ?_; (with_reducible refine (spec_l5in.calls a0_4 0 15 false _ A5.out).mono ?_); rintro e w' ⟨rfl, ⟨nd, rfl⟩⟩; refine ⟨_, rfl, ?_⟩) | ((with_reducible refine gate_callee (f := 49) rfl ?_); refine goesL_ (some 19) rfl rfl Try.func49 (by kernel_rfl) rfl #[.int .i64 a0_2, .int .i64 1, .int .i64 400] rfl (by (try simp only [List.map_toArray, List.map_cons, List.map_nil]); first | done | rfl | (simp only [List.length_drop, List.length_take]; rfl)) ?_; (with_reducible refine (spec_l5in.calls a0_2 1 400 t129 _ A6.out).mono ?_); rintro e w' ⟨rfl, ⟨nd, rfl⟩⟩; refine ⟨_, rfl, ?_⟩))
            go_ret
            exact ⟨by first | rfl | (simp [errW_none, errW_some] <;> rfl) | (simp [*, errW_none, errW_some] <;> rfl), by repeat (first | (with_reducible first | exact HB.out | apply below_alloc | apply pw_below_drewN | apply below_drew1 | refine below_set ?_ GE125.out) | exact HB.out)⟩
        · replace c20 := Bool.eq_false_iff.mpr c20
          subst c20
          have H1 : (some false) = some r := by rw [if_neg (show ¬ (false = true) by decide)] at H; exact H
          clear H
          have H := H1
          clear H1
          obtain rfl := Option.some.inj H
          go_enter Try.func22, Try.ntmps22
          go_wp2_with (first | ((with_reducible refine gate_dst (N := 1) rfl ?_); refine box_event ?hg (N := 1) ?hd (cs := #[.int .i64 a0_0, .int .i64 a0_1, .int .i64 a0_2, .int .i64 a0_3, .int .i64 a0_4, .slice A0_5 l0_5.length c0_5]) (t := 37) ?hr ?_; (case hd => rfl); (case hg => rfl); (case hr => first | (go_simp; done) | (go_simp; rfl)); intro gb125 hg w32 hbox hb; have n0_ := Aside0.mk (below_step (by repeat (first | (with_reducible first | exact HB.out | apply below_alloc | apply pw_below_drewN | apply below_drew1) | exact HB.out)) hb); have n1_ := Aside0.mk (hbox); have n2_ := Aside0.mk ((by rw [hg]; exact (below_size (by repeat (first | (with_reducible first | exact HB.out | apply below_alloc | apply pw_below_drewN | apply below_drew1) | exact HB.out))) : w.heap.size ≤ gb125)); have n3_ := Aside0.mk ((by rw [hg]; exact (below_size (by repeat (first | (with_reducible first | exact HB.out | apply below_alloc | apply pw_below_drewN | apply below_drew1) | exact HB.out))) : w.heap.size ≤ gb125)); clear HB; have HB := n0_; have BK125 := n1_; have GW125 := n2_; have GE125 := n3_; clear n0_ n1_ n2_ n3_; clear hb hbox hg; have hcz33_0 : w32.cell? ⟨gb125, 0, none⟩ = some (.int .i64 a0_0) := (blk_cell BK125.out 0).trans rfl; have hcz33_1 : w32.cell? ⟨gb125, 1, none⟩ = some (.int .i64 a0_1) := (blk_cell BK125.out 1).trans rfl; have hcz33_2 : w32.cell? ⟨gb125, 2, none⟩ = some (.int .i64 a0_2) := (blk_cell BK125.out 2).trans rfl; have hcz33_3 : w32.cell? ⟨gb125, 3, none⟩ = some (.int .i64 a0_3) := (blk_cell BK125.out 3).trans rfl; have hcz33_4 : w32.cell? ⟨gb125, 4, none⟩ = some (.int .i64 a0_4) := (blk_cell BK125.out 4).trans rfl; have hcz33_5 : w32.cell? ⟨gb125, 5, none⟩ = some (.slice A0_5 l0_5.length c0_5) := (blk_cell BK125.out 5).trans rfl; have hfz33_0 := blk_frozen BK125.out 0; have hfz33_1 := blk_frozen BK125.out 1; have hfz33_2 := blk_frozen BK125.out 2; have hfz33_3 := blk_frozen BK125.out 3; have hfz33_4 := blk_frozen BK125.out 4; have hfz33_5 := blk_frozen BK125.out 5) | ((with_reducible refine gate_callee (f := 49) rfl ?_); refine goesL_ (some 9) rfl rfl Try.func49 (by kernel_rfl) rfl #[.int .i64 a0_1, .int .i64 1, .int .i64 1000000] rfl (by (try simp only [List.map_toArray, List.map_cons, List.map_nil]); first | done | rfl | (simp only [List.length_drop, List.length_take]; rfl)) ?_; (with_reducible refine (spec_l5in.calls a0_1 1 1000000 true _ A2.out).mono ?_); rintro e w' ⟨rfl, ⟨nd, rfl⟩⟩; refine ⟨_, rfl, ?_⟩) | ((with_reducible refine gate_callee (f := 49) rfl ?_); refine goesL_ (some 13) rfl rfl Try.func49 (by kernel_rfl) rfl #[.int .i64 a0_3, .int .i64 0, .int .i64 15] rfl (by (try simp only [List.map_toArray, List.map_cons, List.map_nil]); first | done | rfl | (simp only [List.length_drop, List.length_take]; rfl)) ?_; (with_reducible refine (spec_l5in.calls a0_3 0 15 false _ A4.out).mono ?_); rintro e w' ⟨rfl, ⟨nd, rfl⟩⟩; refine ⟨_, rfl, ?_⟩) | ((with_reducible refine gate_callee (f := 49) rfl ?_); refine goesL_ (some 16) rfl rfl Try.func49 (by kernel_rfl) rfl #[.int .i64 a0_4, .int .i64 0, .int .i64 15] rfl (by (try simp only [List.map_toArray, List.map_cons, List.map_nil]); first | done | rfl | (simp only [List.length_drop, List.length_take]; rfl)) ?_; (with_reducible refine (spec_l5in.calls a0_4 0 15 t128 _ A5.out).mono ?_); rintro e w' ⟨rfl, ⟨nd, rfl⟩⟩; refine ⟨_, rfl, ?_⟩) | ((with_reducible refine gate_callee (f := 49) rfl ?_); refine goesL_ (some 19) rfl rfl Try.func49 (by kernel_rfl) rfl #[.int .i64 a0_2, .int .i64 1, .int .i64 400] rfl (by (try simp only [List.map_toArray, List.map_cons, List.map_nil]); first | done | rfl | (simp only [List.length_drop, List.length_take]; rfl)) ?_; (with_reducible refine (spec_l5in.calls a0_2 1 400 t129 _ A6.out).mono ?_); rintro e w' ⟨rfl, ⟨nd, rfl⟩⟩; refine ⟨_, rfl, ?_⟩))
          go_ret
          exact ⟨by first | rfl | (simp [errW_none, errW_some] <;> rfl) | (simp [*, errW_none, errW_some] <;> rfl), by repeat (first | (with_reducible first | exact HB.out | apply below_alloc | apply pw_below_drewN | apply below_drew1 | refine below_set ?_ GE125.out) | exact HB.out)⟩
      · rw [if_neg c19] at H
        have c19b0 : (a0_0 == 2) = false := beq_eq_false_iff_ne.mpr c19
        have c19b1 : (a0_0 != 2) = true := bne_iff_ne.mpr c19
        by_cases c34 : a0_0 = 3
        · rw [if_pos c34] at H
          have c34b0 : (a0_0 == 3) = true := beq_iff_eq.mpr c34
          have c34b1 : (a0_0 != 3) = false := bne_eq_false_iff_eq.mpr c34
          clear c34
          by_cases c35 : t127 = true
          · subst c35
            have H1 : (if t128 = true then (if t129 = true then (some ((l0_5.length : Int) == 0)) else (some false)) else (some false)) = some r := by rw [if_pos rfl] at H; exact H
            clear H
            have H := H1
            clear H1
            by_cases c36 : t128 = true
            · subst c36
              have H1 : (if t129 = true then (some ((l0_5.length : Int) == 0)) else (some false)) = some r := by rw [if_pos rfl] at H; exact H
              clear H
              have H := H1
              clear H1
              by_cases c37 : t129 = true
              · subst c37
                have H1 : (some ((l0_5.length : Int) == 0)) = some r := by rw [if_pos rfl] at H; exact H
                clear H
                have H := H1
                clear H1
                obtain rfl := Option.some.inj H
                go_enter Try.func22, Try.ntmps22
                go_wp2_with (first | ((with_reducible refine gate_dst (N := 1) rfl ?_); refine box_event ?hg (N := 1) ?hd (cs := #[.int .i64 a0_0, .int .i64 a0_1, .int .i64 a0_2, .int .i64 a0_3, .int .i64 a0_4, .slice A0_5 l0_5.length c0_5]) (t := 37) ?hr ?_; (case hd => rfl); (case hg => rfl); (case hr => first | (go_simp; done) | (go_simp; rfl)); intro gb125 hg w38 hbox hb; have n0_ := Aside0.mk (below_step (by repeat (first | (with_reducible first | exact HB.out | apply below_alloc | apply pw_below_drewN | apply below_drew1) | exact HB.out)) hb); have n1_ := Aside0.mk (hbox); have n2_ := Aside0.mk ((by rw [hg]; exact (below_size (by repeat (first | (with_reducible first | exact HB.out | apply below_alloc | apply pw_below_drewN | apply below_drew1) | exact HB.out))) : w.heap.size ≤ gb125)); have n3_ := Aside0.mk ((by rw [hg]; exact (below_size (by repeat (first | (with_reducible first | exact HB.out | apply below_alloc | apply pw_below_drewN | apply below_drew1) | exact HB.out))) : w.heap.size ≤ gb125)); clear HB; have HB := n0_; have BK125 := n1_; have GW125 := n2_; have GE125 := n3_; clear n0_ n1_ n2_ n3_; clear hb hbox hg; have hcz39_0 : w38.cell? ⟨gb125, 0, none⟩ = some (.int .i64 a0_0) := (blk_cell BK125.out 0).trans rfl; have hcz39_1 : w38.cell? ⟨gb125, 1, none⟩ = some (.int .i64 a0_1) := (blk_cell BK125.out 1).trans rfl; have hcz39_2 : w38.cell? ⟨gb125, 2, none⟩ = some (.int .i64 a0_2) := (blk_cell BK125.out 2).trans rfl; have hcz39_3 : w38.cell? ⟨gb125, 3, none⟩ = some (.int .i64 a0_3) := (blk_cell BK125.out 3).trans rfl; have hcz39_4 : w38.cell? ⟨gb125, 4, none⟩ = some (.int .i64 a0_4) := (blk_cell BK125.out 4).trans rfl; have hcz39_5 : w38.cell? ⟨gb125, 5, none⟩ = some (.slice A0_5 l0_5.length c0_5) := (blk_cell BK125.out 5).trans rfl; have hfz39_0 := blk_frozen BK125.out 0; have hfz39_1 := blk_frozen BK125.out 1; have hfz39_2 := blk_frozen BK125.out 2; have hfz39_3 := blk_frozen BK125.out 3; have hfz39_4 := blk_frozen BK125.out 4; have hfz39_5 := blk_frozen BK125.out 5) | ((with_reducible refine gate_callee (f := 49) rfl ?_); refine goesL_ (some 9) rfl rfl Try.func49 (by kernel_rfl) rfl #[.int .i64 a0_1, .int .i64 1, .int .i64 1000000] rfl (by (try simp only [List.map_toArray, List.map_cons, List.map_nil]); first | done | rfl | (simp only [List.length_drop, List.length_take]; rfl)) ?_; (with_reducible refine (spec_l5in.calls a0_1 1 1000000 true _ A2.out).mono ?_); rintro e w' ⟨rfl, ⟨nd, rfl⟩⟩; refine ⟨_, rfl, ?_⟩) | ((with_reducible refine gate_callee (f := 49) rfl ?_); refine goesL_ (some 13) rfl rfl Try.func49 (by kernel_rfl) rfl #[.int .i64 a0_3, .int .i64 0, .int .i64 15] rfl (by (try simp only [List.map_toArray, List.map_cons, List.map_nil]); first | done | rfl | (simp only [List.length_drop, List.length_take]; rfl)) ?_; (with_reducible refine (spec_l5in.calls a0_3 0 15 true _ A4.out).mono ?_); rintro e w' ⟨rfl, ⟨nd, rfl⟩⟩; refine ⟨_, rfl, ?_⟩) | ((with_reducible refine gate_callee (f := 49) rfl ?_); refine goesL_ (some 16) rfl rfl Try.func49 (by kernel_rfl) rfl #[.int .i64 a0_4, .int .i64 0, .int .i64 15] rfl (by (try simp only [List.map_toArray, List.map_cons, List.map_nil]); first | done | rfl | (simp only [List.length_drop, List.length_take]; rfl)) ?_; (with_reducible refine (spec_l5in.calls a0_4 0 15 true _ A5.out).mono ?_); rintro e w' ⟨rfl, ⟨nd, rfl⟩⟩; refine ⟨_, rfl, ?_⟩) | ((with_reducible refine gate_callee (f := 49) rfl ?_); refine goesL_ (some 19) rfl rfl Try.func49 (by kernel_rfl) rfl #[.int .i64 a0_2, .int .i64 1, .int .i64 400] rfl (by (try simp only [List.map_toArray, List.map_cons, List.map_nil]); first | done | rfl | (simp only [List.length_drop, List.length_take]; rfl)) ?_; (with_reducible refine (spec_l5in.calls a0_2 1 400 true _ A6.out).mono ?_); rintro e w' ⟨rfl, ⟨nd, rfl⟩⟩; refine ⟨_, rfl, ?_⟩))
                go_ret
                exact ⟨by first | rfl | (simp [errW_none, errW_some] <;> rfl) | (simp [*, errW_none, errW_some] <;> rfl), by repeat (first | (with_reducible first | exact HB.out | apply below_alloc | apply pw_below_drewN | apply below_drew1 | refine below_set ?_ GE125.out) | exact HB.out)⟩
              · replace c37 := Bool.eq_false_iff.mpr c37
                subst c37
                have H1 : (some false) = some r := by rw [if_neg (show ¬ (false = true) by decide)] at H; exact H
                clear H
                have H := H1
                clear H1
                obtain rfl := Option.some.inj H
                go_enter Try.func22, Try.ntmps22
                go_wp2_with (first | ((with_reducible refine gate_dst (N := 1) rfl ?_); refine box_event ?hg (N := 1) ?hd (cs := #[.int .i64 a0_0, .int .i64 a0_1, .int .i64 a0_2, .int .i64 a0_3, .int .i64 a0_4, .slice A0_5 l0_5.length c0_5]) (t := 37) ?hr ?_; (case hd => rfl); (case hg => rfl); (case hr => first | (go_simp; done) | (go_simp; rfl)); intro gb125 hg w40 hbox hb; have n0_ := Aside0.mk (below_step (by repeat (first | (with_reducible first | exact HB.out | apply below_alloc | apply pw_below_drewN | apply below_drew1) | exact HB.out)) hb); have n1_ := Aside0.mk (hbox); have n2_ := Aside0.mk ((by rw [hg]; exact (below_size (by repeat (first | (with_reducible first | exact HB.out | apply below_alloc | apply pw_below_drewN | apply below_drew1) | exact HB.out))) : w.heap.size ≤ gb125)); have n3_ := Aside0.mk ((by rw [hg]; exact (below_size (by repeat (first | (with_reducible first | exact HB.out | apply below_alloc | apply pw_below_drewN | apply below_drew1) | exact HB.out))) : w.heap.size ≤ gb125)); clear HB; have HB := n0_; have BK125 := n1_; have GW125 := n2_; have GE125 := n3_; clear n0_ n1_ n2_ n3_; clear hb hbox hg; have hcz41_0 : w40.cell? ⟨gb125, 0, none⟩ = some (.int .i64 a0_0) := (blk_cell BK125.out 0).trans rfl; have hcz41_1 : w40.cell? ⟨gb125, 1, none⟩ = some (.int .i64 a0_1) := (blk_cell BK125.out 1).trans rfl; have hcz41_2 : w40.cell? ⟨gb125, 2, none⟩ = some (.int .i64 a0_2) := (blk_cell BK125.out 2).trans rfl; have hcz41_3 : w40.cell? ⟨gb125, 3, none⟩ = some (.int .i64 a0_3) := (blk_cell BK125.out 3).trans rfl; have hcz41_4 : w40.cell? ⟨gb125, 4, none⟩ = some (.int .i64 a0_4) := (blk_cell BK125.out 4).trans rfl; have hcz41_5 : w40.cell? ⟨gb125, 5, none⟩ = some (.slice A0_5 l0_5.length c0_5) := (blk_cell BK125.out 5).trans rfl; have hfz41_0 := blk_frozen BK125.out 0; have hfz41_1 := blk_frozen BK125.out 1; have hfz41_2 := blk_frozen BK125.out 2; have hfz41_3 := blk_frozen BK125.out 3; have hfz41_4 := blk_frozen BK125.out 4; have hfz41_5 := blk_frozen BK125.out 5) | ((with_reducible refine gate_callee (f := 49) rfl ?_); refine goesL_ (some 9) rfl rfl Try.func49 (by kernel_rfl) rfl #[.int .i64 a0_1, .int .i64 1, .int .i64 1000000] rfl (by (try simp only [List.map_toArray, List.map_cons, List.map_nil]); first | done | rfl | (simp only [List.length_drop, List.length_take]; rfl)) ?_; (with_reducible refine (spec_l5in.calls a0_1 1 1000000 true _ A2.out).mono ?_); rintro e w' ⟨rfl, ⟨nd, rfl⟩⟩; refine ⟨_, rfl, ?_⟩) | ((with_reducible refine gate_callee (f := 49) rfl ?_); refine goesL_ (some 13) rfl rfl Try.func49 (by kernel_rfl) rfl #[.int .i64 a0_3, .int .i64 0, .int .i64 15] rfl (by (try simp only [List.map_toArray, List.map_cons, List.map_nil]); first | done | rfl | (simp only [List.length_drop, List.length_take]; rfl)) ?_; (with_reducible refine (spec_l5in.calls a0_3 0 15 true _ A4.out).mono ?_); rintro e w' ⟨rfl, ⟨nd, rfl⟩⟩; refine ⟨_, rfl, ?_⟩) | ((with_reducible refine gate_callee (f := 49) rfl ?_); refine goesL_ (some 16) rfl rfl Try.func49 (by kernel_rfl) rfl #[.int .i64 a0_4, .int .i64 0, .int .i64 15] rfl (by (try simp only [List.map_toArray, List.map_cons, List.map_nil]); first | done | rfl | (simp only [List.length_drop, List.length_take]; rfl)) ?_; (with_reducible refine (spec_l5in.calls a0_4 0 15 true _ A5.out).mono ?_); rintro e w' ⟨rfl, ⟨nd, rfl⟩⟩; refine ⟨_, rfl, ?_⟩) | ((with_reducible refine gate_callee (f := 49) rfl ?_); refine goesL_ (some 19) rfl rfl Try.func49 (by kernel_rfl) rfl #[.int .i64 a0_2, .int .i64 1, .int .i64 400] rfl (by (try simp only [List.map_toArray, List.map_cons, List.map_nil]); first | done | rfl | (simp only [List.length_drop, List.length_take]; rfl)) ?_; (with_reducible refine (spec_l5in.calls a0_2 1 400 false _ A6.out).mono ?_); rintro e w' ⟨rfl, ⟨nd, rfl⟩⟩; refine ⟨_, rfl, ?_⟩))
                go_ret
                exact ⟨by first | rfl | (simp [errW_none, errW_some] <;> rfl) | (simp [*, errW_none, errW_some] <;> rfl), by repeat (first | (with_reducible first | exact HB.out | apply below_alloc | apply pw_below_drewN | apply below_drew1 | refine below_set ?_ GE125.out) | exact HB.out)⟩
            · replace c36 := Bool.eq_false_iff.mpr c36
              subst c36
              have H1 : (some false) = some r := by rw [if_neg (show ¬ (false = true) by decide)] at H; exact H
              clear H
              have H := H1
              clear H1
              obtain rfl := Option.some.inj H
              go_enter Try.func22, Try.ntmps22
              go_wp2_with (first | ((with_reducible refine gate_dst (N := 1) rfl ?_); refine box_event ?hg (N := 1) ?hd (cs := #[.int .i64 a0_0, .int .i64 a0_1, .int .i64 a0_2, .int .i64 a0_3, .int .i64 a0_4, .slice A0_5 l0_5.length c0_5]) (t := 37) ?hr ?_; (case hd => rfl); (case hg => rfl); (case hr => first | (go_simp; done) | (go_simp; rfl)); intro gb125 hg w42 hbox hb; have n0_ := Aside0.mk (below_step (by repeat (first | (with_reducible first | exact HB.out | apply below_alloc | apply pw_below_drewN | apply below_drew1) | exact HB.out)) hb); have n1_ := Aside0.mk (hbox); have n2_ := Aside0.mk ((by rw [hg]; exact (below_size (by repeat (first | (with_reducible first | exact HB.out | apply below_alloc | apply pw_below_drewN | apply below_drew1) | exact HB.out))) : w.heap.size ≤ gb125)); have n3_ := Aside0.mk ((by rw [hg]; exact (below_size (by repeat (first | (with_reducible first | exact HB.out | apply below_alloc | apply pw_below_drewN | apply below_drew1) | exact HB.out))) : w.heap.size ≤ gb125)); clear HB; have HB := n0_; have BK125 := n1_; have GW125 := n2_; have GE125 := n3_; clear n0_ n1_ n2_ n3_; clear hb hbox hg; have hcz43_0 : w42.cell? ⟨gb125, 0, none⟩ = some (.int .i64 a0_0) := (blk_cell BK125.out 0).trans rfl; have hcz43_1 : w42.cell? ⟨gb125, 1, none⟩ = some (.int .i64 a0_1) := (blk_cell BK125.out 1).trans rfl; have hcz43_2 : w42.cell? ⟨gb125, 2, none⟩ = some (.int .i64 a0_2) := (blk_cell BK125.out 2).trans rfl; have hcz43_3 : w42.cell? ⟨gb125, 3, none⟩ = some (.int .i64 a0_3) := (blk_cell BK125.out 3).trans rfl; have hcz43_4 : w42.cell? ⟨gb125, 4, none⟩ = some (.int .i64 a0_4) := (blk_cell BK125.out 4).trans rfl; have hcz43_5 : w42.cell? ⟨gb125, 5, none⟩ = some (.slice A0_5 l0_5.length c0_5) := (blk_cell BK125.out 5).trans rfl; have hfz43_0 := blk_frozen BK125.out 0; have hfz43_1 := blk_frozen BK125.out 1; have hfz43_2 := blk_frozen BK125.out 2; have hfz43_3 := blk_frozen BK125.out 3; have hfz43_4 := blk_frozen BK125.out 4; have hfz43_5 := blk_frozen BK125.out 5) | ((with_reducible refine gate_callee (f := 49) rfl ?_); refine goesL_ (some 9) rfl rfl Try.func49 (by kernel_rfl) rfl #[.int .i64 a0_1, .int .i64 1, .int .i64 1000000] rfl (by (try simp only [List.map_toArray, List.map_cons, List.map_nil]); first | done | rfl | (simp only [List.length_drop, List.length_take]; rfl)) ?_; (with_reducible refine (spec_l5in.calls a0_1 1 1000000 true _ A2.out).mono ?_); rintro e w' ⟨rfl, ⟨nd, rfl⟩⟩; refine ⟨_, rfl, ?_⟩) | ((with_reducible refine gate_callee (f := 49) rfl ?_); refine goesL_ (some 13) rfl rfl Try.func49 (by kernel_rfl) rfl #[.int .i64 a0_3, .int .i64 0, .int .i64 15] rfl (by (try simp only [List.map_toArray, List.map_cons, List.map_nil]); first | done | rfl | (simp only [List.length_drop, List.length_take]; rfl)) ?_; (with_reducible refine (spec_l5in.calls a0_3 0 15 true _ A4.out).mono ?_); rintro e w' ⟨rfl, ⟨nd, rfl⟩⟩; refine ⟨_, rfl, ?_⟩) | ((with_reducible refine gate_callee (f := 49) rfl ?_); refine goesL_ (some 16) rfl rfl Try.func49 (by kernel_rfl) rfl #[.int .i64 a0_4, .int .i64 0, .int .i64 15] rfl (by (try simp only [List.map_toArray, List.map_cons, List.map_nil]); first | done | rfl | (simp only [List.length_drop, List.length_take]; rfl)) ?_; (with_reducible refine (spec_l5in.calls a0_4 0 15 false _ A5.out).mono ?_); rintro e w' ⟨rfl, ⟨nd, rfl⟩⟩; refine ⟨_, rfl, ?_⟩) | ((with_reducible refine gate_callee (f := 49) rfl ?_); refine goesL_ (some 19) rfl rfl Try.func49 (by kernel_rfl) rfl #[.int .i64 a0_2, .int .i64 1, .int .i64 400] rfl (by (try simp only [List.map_toArray, List.map_cons, List.map_nil]); first | done | rfl | (simp only [List.length_drop, List.length_take]; rfl)) ?_; (with_reducible refine (spec_l5in.calls a0_2 1 400 t129 _ A6.out).mono ?_); rintro e w' ⟨rfl, ⟨nd, rfl⟩⟩; refine ⟨_, rfl, ?_⟩))
              go_ret
              exact ⟨by first | rfl | (simp [errW_none, errW_some] <;> rfl) | (simp [*, errW_none, errW_some] <;> rfl), by repeat (first | (with_reducible first | exact HB.out | apply below_alloc | apply pw_below_drewN | apply below_drew1 | refine below_set ?_ GE125.out) | exact HB.out)⟩
          · replace c35 := Bool.eq_false_iff.mpr c35
            subst c35
            have H1 : (some false) = some r := by rw [if_neg (show ¬ (false = true) by decide)] at H; exact H
            clear H
            have H := H1
            clear H1
            obtain rfl := Option.some.inj H
            go_enter Try.func22, Try.ntmps22
            go_wp2_with (first | ((with_reducible refine gate_dst (N := 1) rfl ?_); refine box_event ?hg (N := 1) ?hd (cs := #[.int .i64 a0_0, .int .i64 a0_1, .int .i64 a0_2, .int .i64 a0_3, .int .i64 a0_4, .slice A0_5 l0_5.length c0_5]) (t := 37) ?hr ?_; (case hd => rfl); (case hg => rfl); (case hr => first | (go_simp; done) | (go_simp; rfl)); intro gb125 hg w44 hbox hb; have n0_ := Aside0.mk (below_step (by repeat (first | (with_reducible first | exact HB.out | apply below_alloc | apply pw_below_drewN | apply below_drew1) | exact HB.out)) hb); have n1_ := Aside0.mk (hbox); have n2_ := Aside0.mk ((by rw [hg]; exact (below_size (by repeat (first | (with_reducible first | exact HB.out | apply below_alloc | apply pw_below_drewN | apply below_drew1) | exact HB.out))) : w.heap.size ≤ gb125)); have n3_ := Aside0.mk ((by rw [hg]; exact (below_size (by repeat (first | (with_reducible first | exact HB.out | apply below_alloc | apply pw_below_drewN | apply below_drew1) | exact HB.out))) : w.heap.size ≤ gb125)); clear HB; have HB := n0_; have BK125 := n1_; have GW125 := n2_; have GE125 := n3_; clear n0_ n1_ n2_ n3_; clear hb hbox hg; have hcz45_0 : w44.cell? ⟨gb125, 0, none⟩ = some (.int .i64 a0_0) := (blk_cell BK125.out 0).trans rfl; have hcz45_1 : w44.cell? ⟨gb125, 1, none⟩ = some (.int .i64 a0_1) := (blk_cell BK125.out 1).trans rfl; have hcz45_2 : w44.cell? ⟨gb125, 2, none⟩ = some (.int .i64 a0_2) := (blk_cell BK125.out 2).trans rfl; have hcz45_3 : w44.cell? ⟨gb125, 3, none⟩ = some (.int .i64 a0_3) := (blk_cell BK125.out 3).trans rfl; have hcz45_4 : w44.cell? ⟨gb125, 4, none⟩ = some (.int .i64 a0_4) := (blk_cell BK125.out 4).trans rfl; have hcz45_5 : w44.cell? ⟨gb125, 5, none⟩ = some (.slice A0_5 l0_5.length c0_5) := (blk_cell BK125.out 5).trans rfl; have hfz45_0 := blk_frozen BK125.out 0; have hfz45_1 := blk_frozen BK125.out 1; have hfz45_2 := blk_frozen BK125.out 2; have hfz45_3 := blk_frozen BK125.out 3; have hfz45_4 := blk_frozen BK125.out 4; have hfz45_5 := blk_frozen BK125.out 5) | ((with_reducible refine gate_callee (f := 49) rfl ?_); refine goesL_ (some 9) rfl rfl Try.func49 (by kernel_rfl) rfl #[.int .i64 a0_1, .int .i64 1, .int .i64 1000000] rfl (by (try simp only [List.map_toArray, List.map_cons, List.map_nil]); first | done | rfl | (simp only [List.length_drop, List.length_take]; rfl)) ?_; (with_reducible refine (spec_l5in.calls a0_1 1 1000000 true _ A2.out).mono ?_); rintro e w' ⟨rfl, ⟨nd, rfl⟩⟩; refine ⟨_, rfl, ?_⟩) | ((with_reducible refine gate_callee (f := 49) rfl ?_); refine goesL_ (some 13) rfl rfl Try.func49 (by kernel_rfl) rfl #[.int .i64 a0_3, .int .i64 0, .int .i64 15] rfl (by (try simp only [List.map_toArray, List.map_cons, List.map_nil]); first | done | rfl | (simp only [List.length_drop, List.length_take]; rfl)) ?_; (with_reducible refine (spec_l5in.calls a0_3 0 15 false _ A4.out).mono ?_); rintro e w' ⟨rfl, ⟨nd, rfl⟩⟩; refine ⟨_, rfl, ?_⟩) | ((with_reducible refine gate_callee (f := 49) rfl ?_); refine goesL_ (some 16) rfl rfl Try.func49 (by kernel_rfl) rfl #[.int .i64 a0_4, .int .i64 0, .int .i64 15] rfl (by (try simp only [List.map_toArray, List.map_cons, List.map_nil]); first | done | rfl | (simp only [List.length_drop, List.length_take]; rfl)) ?_; (with_reducible refine (spec_l5in.calls a0_4 0 15 t128 _ A5.out).mono ?_); rintro e w' ⟨rfl, ⟨nd, rfl⟩⟩; refine ⟨_, rfl, ?_⟩) | ((with_reducible refine gate_callee (f := 49) rfl ?_); refine goesL_ (some 19) rfl rfl Try.func49 (by kernel_rfl) rfl #[.int .i64 a0_2, .int .i64 1, .int .i64 400] rfl (by (try simp only [List.map_toArray, List.map_cons, List.map_nil]); first | done | rfl | (simp only [List.length_drop, List.length_take]; rfl)) ?_; (with_reducible refine (spec_l5in.calls a0_2 1 400 t129 _ A6.out).mono ?_); rintro e w' ⟨rfl, ⟨nd, rfl⟩⟩; refine ⟨_, rfl, ?_⟩))
            go_ret
            exact ⟨by first | rfl | (simp [errW_none, errW_some] <;> rfl) | (simp [*, errW_none, errW_some] <;> rfl), by repeat (first | (with_reducible first | exact HB.out | apply below_alloc | apply pw_below_drewN | apply below_drew1 | refine below_set ?_ GE125.out) | exact HB.out)⟩
        · rw [if_neg c34] at H
          have c34b0 : (a0_0 == 3) = false := beq_eq_false_iff_ne.mpr c34
          have c34b1 : (a0_0 != 3) = true := bne_iff_ne.mpr c34
          by_cases c46 : a0_0 = 4
          · rw [if_pos c46] at H
            have c46b0 : (a0_0 == 4) = true := beq_iff_eq.mpr c46
            have c46b1 : (a0_0 != 4) = false := bne_eq_false_iff_eq.mpr c46
            clear c46
            by_cases c47 : t127 = true
            · subst c47
              have H1 : (if t128 = true then (if a0_2 = 0 then (some ((l0_5.length : Int) == 0)) else (some false)) else (some false)) = some r := by rw [if_pos rfl] at H; exact H
              clear H
              have H := H1
              clear H1
              by_cases c48 : t128 = true
              · subst c48
                have H1 : (if a0_2 = 0 then (some ((l0_5.length : Int) == 0)) else (some false)) = some r := by rw [if_pos rfl] at H; exact H
                clear H
                have H := H1
                clear H1
                by_cases c49 : a0_2 = 0
                · rw [if_pos c49] at H
                  have c49b0 : (a0_2 == 0) = true := beq_iff_eq.mpr c49
                  have c49b1 : (a0_2 != 0) = false := bne_eq_false_iff_eq.mpr c49
                  clear c49
                  obtain rfl := Option.some.inj H
                  go_enter Try.func22, Try.ntmps22
                  go_wp2_with (first | ((with_reducible refine gate_dst (N := 1) rfl ?_); refine box_event ?hg (N := 1) ?hd (cs := #[.int .i64 a0_0, .int .i64 a0_1, .int .i64 a0_2, .int .i64 a0_3, .int .i64 a0_4, .slice A0_5 l0_5.length c0_5]) (t := 37) ?hr ?_; (case hd => rfl); (case hg => rfl); (case hr => first | (go_simp; done) | (go_simp; rfl)); intro gb125 hg w50 hbox hb; have n0_ := Aside0.mk (below_step (by repeat (first | (with_reducible first | exact HB.out | apply below_alloc | apply pw_below_drewN | apply below_drew1) | exact HB.out)) hb); have n1_ := Aside0.mk (hbox); have n2_ := Aside0.mk ((by rw [hg]; exact (below_size (by repeat (first | (with_reducible first | exact HB.out | apply below_alloc | apply pw_below_drewN | apply below_drew1) | exact HB.out))) : w.heap.size ≤ gb125)); have n3_ := Aside0.mk ((by rw [hg]; exact (below_size (by repeat (first | (with_reducible first | exact HB.out | apply below_alloc | apply pw_below_drewN | apply below_drew1) | exact HB.out))) : w.heap.size ≤ gb125)); clear HB; have HB := n0_; have BK125 := n1_; have GW125 := n2_; have GE125 := n3_; clear n0_ n1_ n2_ n3_; clear hb hbox hg; have hcz51_0 : w50.cell? ⟨gb125, 0, none⟩ = some (.int .i64 a0_0) := (blk_cell BK125.out 0).trans rfl; have hcz51_1 : w50.cell? ⟨gb125, 1, none⟩ = some (.int .i64 a0_1) := (blk_cell BK125.out 1).trans rfl; have hcz51_2 : w50.cell? ⟨gb125, 2, none⟩ = some (.int .i64 a0_2) := (blk_cell BK125.out 2).trans rfl; have hcz51_3 : w50.cell? ⟨gb125, 3, none⟩ = some (.int .i64 a0_3) := (blk_cell BK125.out 3).trans rfl; have hcz51_4 : w50.cell? ⟨gb125, 4, none⟩ = some (.int .i64 a0_4) := (blk_cell BK125.out 4).trans rfl; have hcz51_5 : w50.cell? ⟨gb125, 5, none⟩ = some (.slice A0_5 l0_5.length c0_5) := (blk_cell BK125.out 5).trans rfl; have hfz51_0 := blk_frozen BK125.out 0; have hfz51_1 := blk_frozen BK125.out 1; have hfz51_2 := blk_frozen BK125.out 2; have hfz51_3 := blk_frozen BK125.out 3; have hfz51_4 := blk_frozen BK125.out 4; have hfz51_5 := blk_frozen BK125.out 5) | ((with_reducible refine gate_callee (f := 49) rfl ?_); refine goesL_ (some 9) rfl rfl Try.func49 (by kernel_rfl) rfl #[.int .i64 a0_1, .int .i64 1, .int .i64 1000000] rfl (by (try simp only [List.map_toArray, List.map_cons, List.map_nil]); first | done | rfl | (simp only [List.length_drop, List.length_take]; rfl)) ?_; (with_reducible refine (spec_l5in.calls a0_1 1 1000000 true _ A2.out).mono ?_); rintro e w' ⟨rfl, ⟨nd, rfl⟩⟩; refine ⟨_, rfl, ?_⟩) | ((with_reducible refine gate_callee (f := 49) rfl ?_); refine goesL_ (some 13) rfl rfl Try.func49 (by kernel_rfl) rfl #[.int .i64 a0_3, .int .i64 0, .int .i64 15] rfl (by (try simp only [List.map_toArray, List.map_cons, List.map_nil]); first | done | rfl | (simp only [List.length_drop, List.length_take]; rfl)) ?_; (with_reducible refine (spec_l5in.calls a0_3 0 15 true _ A4.out).mono ?_); rintro e w' ⟨rfl, ⟨nd, rfl⟩⟩; refine ⟨_, rfl, ?_⟩) | ((with_reducible refine gate_callee (f := 49) rfl ?_); refine goesL_ (some 16) rfl rfl Try.func49 (by kernel_rfl) rfl #[.int .i64 a0_4, .int .i64 0, .int .i64 15] rfl (by (try simp only [List.map_toArray, List.map_cons, List.map_nil]); first | done | rfl | (simp only [List.length_drop, List.length_take]; rfl)) ?_; (with_reducible refine (spec_l5in.calls a0_4 0 15 true _ A5.out).mono ?_); rintro e w' ⟨rfl, ⟨nd, rfl⟩⟩; refine ⟨_, rfl, ?_⟩) | ((with_reducible refine gate_callee (f := 49) rfl ?_); refine goesL_ (some 19) rfl rfl Try.func49 (by kernel_rfl) rfl #[.int .i64 a0_2, .int .i64 1, .int .i64 400] rfl (by (try simp only [List.map_toArray, List.map_cons, List.map_nil]); first | done | rfl | (simp only [List.length_drop, List.length_take]; rfl)) ?_; (with_reducible refine (spec_l5in.calls a0_2 1 400 t129 _ A6.out).mono ?_); rintro e w' ⟨rfl, ⟨nd, rfl⟩⟩; refine ⟨_, rfl, ?_⟩))
                  go_ret
                  exact ⟨by first | rfl | (simp [errW_none, errW_some] <;> rfl) | (simp [*, errW_none, errW_some] <;> rfl), by repeat (first | (with_reducible first | exact HB.out | apply below_alloc | apply pw_below_drewN | apply below_drew1 | refine below_set ?_ GE125.out) | exact HB.out)⟩
                · rw [if_neg c49] at H
                  have c49b0 : (a0_2 == 0) = false := beq_eq_false_iff_ne.mpr c49
                  have c49b1 : (a0_2 != 0) = true := bne_iff_ne.mpr c49
                  obtain rfl := Option.some.inj H
                  go_enter Try.func22, Try.ntmps22
                  go_wp2_with (first | ((with_reducible refine gate_dst (N := 1) rfl ?_); refine box_event ?hg (N := 1) ?hd (cs := #[.int .i64 a0_0, .int .i64 a0_1, .int .i64 a0_2, .int .i64 a0_3, .int .i64 a0_4, .slice A0_5 l0_5.length c0_5]) (t := 37) ?hr ?_; (case hd => rfl); (case hg => rfl); (case hr => first | (go_simp; done) | (go_simp; rfl)); intro gb125 hg w52 hbox hb; have n0_ := Aside0.mk (below_step (by repeat (first | (with_reducible first | exact HB.out | apply below_alloc | apply pw_below_drewN | apply below_drew1) | exact HB.out)) hb); have n1_ := Aside0.mk (hbox); have n2_ := Aside0.mk ((by rw [hg]; exact (below_size (by repeat (first | (with_reducible first | exact HB.out | apply below_alloc | apply pw_below_drewN | apply below_drew1) | exact HB.out))) : w.heap.size ≤ gb125)); have n3_ := Aside0.mk ((by rw [hg]; exact (below_size (by repeat (first | (with_reducible first | exact HB.out | apply below_alloc | apply pw_below_drewN | apply below_drew1) | exact HB.out))) : w.heap.size ≤ gb125)); clear HB; have HB := n0_; have BK125 := n1_; have GW125 := n2_; have GE125 := n3_; clear n0_ n1_ n2_ n3_; clear hb hbox hg; have hcz53_0 : w52.cell? ⟨gb125, 0, none⟩ = some (.int .i64 a0_0) := (blk_cell BK125.out 0).trans rfl; have hcz53_1 : w52.cell? ⟨gb125, 1, none⟩ = some (.int .i64 a0_1) := (blk_cell BK125.out 1).trans rfl; have hcz53_2 : w52.cell? ⟨gb125, 2, none⟩ = some (.int .i64 a0_2) := (blk_cell BK125.out 2).trans rfl; have hcz53_3 : w52.cell? ⟨gb125, 3, none⟩ = some (.int .i64 a0_3) := (blk_cell BK125.out 3).trans rfl; have hcz53_4 : w52.cell? ⟨gb125, 4, none⟩ = some (.int .i64 a0_4) := (blk_cell BK125.out 4).trans rfl; have hcz53_5 : w52.cell? ⟨gb125, 5, none⟩ = some (.slice A0_5 l0_5.length c0_5) := (blk_cell BK125.out 5).trans rfl; have hfz53_0 := blk_frozen BK125.out 0; have hfz53_1 := blk_frozen BK125.out 1; have hfz53_2 := blk_frozen BK125.out 2; have hfz53_3 := blk_frozen BK125.out 3; have hfz53_4 := blk_frozen BK125.out 4; have hfz53_5 := blk_frozen BK125.out 5) | ((with_reducible refine gate_callee (f := 49) rfl ?_); refine goesL_ (some 9) rfl rfl Try.func49 (by kernel_rfl) rfl #[.int .i64 a0_1, .int .i64 1, .int .i64 1000000] rfl (by (try simp only [List.map_toArray, List.map_cons, List.map_nil]); first | done | rfl | (simp only [List.length_drop, List.length_take]; rfl)) ?_; (with_reducible refine (spec_l5in.calls a0_1 1 1000000 true _ A2.out).mono ?_); rintro e w' ⟨rfl, ⟨nd, rfl⟩⟩; refine ⟨_, rfl, ?_⟩) | ((with_reducible refine gate_callee (f := 49) rfl ?_); refine goesL_ (some 13) rfl rfl Try.func49 (by kernel_rfl) rfl #[.int .i64 a0_3, .int .i64 0, .int .i64 15] rfl (by (try simp only [List.map_toArray, List.map_cons, List.map_nil]); first | done | rfl | (simp only [List.length_drop, List.length_take]; rfl)) ?_; (with_reducible refine (spec_l5in.calls a0_3 0 15 true _ A4.out).mono ?_); rintro e w' ⟨rfl, ⟨nd, rfl⟩⟩; refine ⟨_, rfl, ?_⟩) | ((with_reducible refine gate_callee (f := 49) rfl ?_); refine goesL_ (some 16) rfl rfl Try.func49 (by kernel_rfl) rfl #[.int .i64 a0_4, .int .i64 0, .int .i64 15] rfl (by (try simp only [List.map_toArray, List.map_cons, List.map_nil]); first | done | rfl | (simp only [List.length_drop, List.length_take]; rfl)) ?_; (with_reducible refine (spec_l5in.calls a0_4 0 15 true _ A5.out).mono ?_); rintro e w' ⟨rfl, ⟨nd, rfl⟩⟩; refine ⟨_, rfl, ?_⟩) | ((with_reducible refine gate_callee (f := 49) rfl ?_); refine goesL_ (some 19) rfl rfl Try.func49 (by kernel_rfl) rfl #[.int .i64 a0_2, .int .i64 1, .int .i64 400] rfl (by (try simp only [List.map_toArray, List.map_cons, List.map_nil]); first | done | rfl | (simp only [List.length_drop, List.length_take]; rfl)) ?_; (with_reducible refine (spec_l5in.calls a0_2 1 400 t129 _ A6.out).mono ?_); rintro e w' ⟨rfl, ⟨nd, rfl⟩⟩; refine ⟨_, rfl, ?_⟩))
                  go_ret
                  exact ⟨by first | rfl | (simp [errW_none, errW_some] <;> rfl) | (simp [*, errW_none, errW_some] <;> rfl), by repeat (first | (with_reducible first | exact HB.out | apply below_alloc | apply pw_below_drewN | apply below_drew1 | refine below_set ?_ GE125.out) | exact HB.out)⟩
              · replace c48 := Bool.eq_false_iff.mpr c48
                subst c48
                have H1 : (some false) = some r := by rw [if_neg (show ¬ (false = true) by decide)] at H; exact H
                clear H
                have H := H1
                clear H1
                obtain rfl := Option.some.inj H
                go_enter Try.func22, Try.ntmps22
                go_wp2_with (first | ((with_reducible refine gate_dst (N := 1) rfl ?_); refine box_event ?hg (N := 1) ?hd (cs := #[.int .i64 a0_0, .int .i64 a0_1, .int .i64 a0_2, .int .i64 a0_3, .int .i64 a0_4, .slice A0_5 l0_5.length c0_5]) (t := 37) ?hr ?_; (case hd => rfl); (case hg => rfl); (case hr => first | (go_simp; done) | (go_simp; rfl)); intro gb125 hg w54 hbox hb; have n0_ := Aside0.mk (below_step (by repeat (first | (with_reducible first | exact HB.out | apply below_alloc | apply pw_below_drewN | apply below_drew1) | exact HB.out)) hb); have n1_ := Aside0.mk (hbox); have n2_ := Aside0.mk ((by rw [hg]; exact (below_size (by repeat (first | (with_reducible first | exact HB.out | apply below_alloc | apply pw_below_drewN | apply below_drew1) | exact HB.out))) : w.heap.size ≤ gb125)); have n3_ := Aside0.mk ((by rw [hg]; exact (below_size (by repeat (first | (with_reducible first | exact HB.out | apply below_alloc | apply pw_below_drewN | apply below_drew1) | exact HB.out))) : w.heap.size ≤ gb125)); clear HB; have HB := n0_; have BK125 := n1_; have GW125 := n2_; have GE125 := n3_; clear n0_ n1_ n2_ n3_; clear hb hbox hg; have hcz55_0 : w54.cell? ⟨gb125, 0, none⟩ = some (.int .i64 a0_0) := (blk_cell BK125.out 0).trans rfl; have hcz55_1 : w54.cell? ⟨gb125, 1, none⟩ = some (.int .i64 a0_1) := (blk_cell BK125.out 1).trans rfl; have hcz55_2 : w54.cell? ⟨gb125, 2, none⟩ = some (.int .i64 a0_2) := (blk_cell BK125.out 2).trans rfl; have hcz55_3 : w54.cell? ⟨gb125, 3, none⟩ = some (.int .i64 a0_3) := (blk_cell BK125.out 3).trans rfl; have hcz55_4 : w54.cell? ⟨gb125, 4, none⟩ = some (.int .i64 a0_4) := (blk_cell BK125.out 4).trans rfl; have hcz55_5 : w54.cell? ⟨gb125, 5, none⟩ = some (.slice A0_5 l0_5.length c0_5) := (blk_cell BK125.out 5).trans rfl; have hfz55_0 := blk_frozen BK125.out 0; have hfz55_1 := blk_frozen BK125.out 1; have hfz55_2 := blk_frozen BK125.out 2; have hfz55_3 := blk_frozen BK125.out 3; have hfz55_4 := blk_frozen BK125.out 4; have hfz55_5 := blk_frozen BK125.out 5) | ((with_reducible refine gate_callee (f := 49) rfl ?_); refine goesL_ (some 9) rfl rfl Try.func49 (by kernel_rfl) rfl #[.int .i64 a0_1, .int .i64 1, .int .i64 1000000] rfl (by (try simp only [List.map_toArray, List.map_cons, List.map_nil]); first | done | rfl | (simp only [List.length_drop, List.length_take]; rfl)) ?_; (with_reducible refine (spec_l5in.calls a0_1 1 1000000 true _ A2.out).mono ?_); rintro e w' ⟨rfl, ⟨nd, rfl⟩⟩; refine ⟨_, rfl, ?_⟩) | ((with_reducible refine gate_callee (f := 49) rfl ?_); refine goesL_ (some 13) rfl rfl Try.func49 (by kernel_rfl) rfl #[.int .i64 a0_3, .int .i64 0, .int .i64 15] rfl (by (try simp only [List.map_toArray, List.map_cons, List.map_nil]); first | done | rfl | (simp only [List.length_drop, List.length_take]; rfl)) ?_; (with_reducible refine (spec_l5in.calls a0_3 0 15 true _ A4.out).mono ?_); rintro e w' ⟨rfl, ⟨nd, rfl⟩⟩; refine ⟨_, rfl, ?_⟩) | ((with_reducible refine gate_callee (f := 49) rfl ?_); refine goesL_ (some 16) rfl rfl Try.func49 (by kernel_rfl) rfl #[.int .i64 a0_4, .int .i64 0, .int .i64 15] rfl (by (try simp only [List.map_toArray, List.map_cons, List.map_nil]); first | done | rfl | (simp only [List.length_drop, List.length_take]; rfl)) ?_; (with_reducible refine (spec_l5in.calls a0_4 0 15 false _ A5.out).mono ?_); rintro e w' ⟨rfl, ⟨nd, rfl⟩⟩; refine ⟨_, rfl, ?_⟩) | ((with_reducible refine gate_callee (f := 49) rfl ?_); refine goesL_ (some 19) rfl rfl Try.func49 (by kernel_rfl) rfl #[.int .i64 a0_2, .int .i64 1, .int .i64 400] rfl (by (try simp only [List.map_toArray, List.map_cons, List.map_nil]); first | done | rfl | (simp only [List.length_drop, List.length_take]; rfl)) ?_; (with_reducible refine (spec_l5in.calls a0_2 1 400 t129 _ A6.out).mono ?_); rintro e w' ⟨rfl, ⟨nd, rfl⟩⟩; refine ⟨_, rfl, ?_⟩))
                go_ret
                exact ⟨by first | rfl | (simp [errW_none, errW_some] <;> rfl) | (simp [*, errW_none, errW_some] <;> rfl), by repeat (first | (with_reducible first | exact HB.out | apply below_alloc | apply pw_below_drewN | apply below_drew1 | refine below_set ?_ GE125.out) | exact HB.out)⟩
            · replace c47 := Bool.eq_false_iff.mpr c47
              subst c47
              have H1 : (some false) = some r := by rw [if_neg (show ¬ (false = true) by decide)] at H; exact H
              clear H
              have H := H1
              clear H1
              obtain rfl := Option.some.inj H
              go_enter Try.func22, Try.ntmps22
              go_wp2_with (first | ((with_reducible refine gate_dst (N := 1) rfl ?_); refine box_event ?hg (N := 1) ?hd (cs := #[.int .i64 a0_0, .int .i64 a0_1, .int .i64 a0_2, .int .i64 a0_3, .int .i64 a0_4, .slice A0_5 l0_5.length c0_5]) (t := 37) ?hr ?_; (case hd => rfl); (case hg => rfl); (case hr => first | (go_simp; done) | (go_simp; rfl)); intro gb125 hg w56 hbox hb; have n0_ := Aside0.mk (below_step (by repeat (first | (with_reducible first | exact HB.out | apply below_alloc | apply pw_below_drewN | apply below_drew1) | exact HB.out)) hb); have n1_ := Aside0.mk (hbox); have n2_ := Aside0.mk ((by rw [hg]; exact (below_size (by repeat (first | (with_reducible first | exact HB.out | apply below_alloc | apply pw_below_drewN | apply below_drew1) | exact HB.out))) : w.heap.size ≤ gb125)); have n3_ := Aside0.mk ((by rw [hg]; exact (below_size (by repeat (first | (with_reducible first | exact HB.out | apply below_alloc | apply pw_below_drewN | apply below_drew1) | exact HB.out))) : w.heap.size ≤ gb125)); clear HB; have HB := n0_; have BK125 := n1_; have GW125 := n2_; have GE125 := n3_; clear n0_ n1_ n2_ n3_; clear hb hbox hg; have hcz57_0 : w56.cell? ⟨gb125, 0, none⟩ = some (.int .i64 a0_0) := (blk_cell BK125.out 0).trans rfl; have hcz57_1 : w56.cell? ⟨gb125, 1, none⟩ = some (.int .i64 a0_1) := (blk_cell BK125.out 1).trans rfl; have hcz57_2 : w56.cell? ⟨gb125, 2, none⟩ = some (.int .i64 a0_2) := (blk_cell BK125.out 2).trans rfl; have hcz57_3 : w56.cell? ⟨gb125, 3, none⟩ = some (.int .i64 a0_3) := (blk_cell BK125.out 3).trans rfl; have hcz57_4 : w56.cell? ⟨gb125, 4, none⟩ = some (.int .i64 a0_4) := (blk_cell BK125.out 4).trans rfl; have hcz57_5 : w56.cell? ⟨gb125, 5, none⟩ = some (.slice A0_5 l0_5.length c0_5) := (blk_cell BK125.out 5).trans rfl; have hfz57_0 := blk_frozen BK125.out 0; have hfz57_1 := blk_frozen BK125.out 1; have hfz57_2 := blk_frozen BK125.out 2; have hfz57_3 := blk_frozen BK125.out 3; have hfz57_4 := blk_frozen BK125.out 4; have hfz57_5 := blk_frozen BK125.out 5) | ((with_reducible refine gate_callee (f := 49) rfl ?_); refine goesL_ (some 9) rfl rfl Try.func49 (by kernel_rfl) rfl #[.int .i64 a0_1, .int .i64 1, .int .i64 1000000] rfl (by (try simp only [List.map_toArray, List.map_cons, List.map_nil]); first | done | rfl | (simp only [List.length_drop, List.length_take]; rfl)) ?_; (with_reducible refine (spec_l5in.calls a0_1 1 1000000 true _ A2.out).mono ?_); rintro e w' ⟨rfl, ⟨nd, rfl⟩⟩; refine ⟨_, rfl, ?_⟩) | ((with_reducible refine gate_callee (f := 49) rfl ?_); refine goesL_ (some 13) rfl rfl Try.func49 (by kernel_rfl) rfl #[.int .i64 a0_3, .int .i64 0, .int .i64 15] rfl (by (try simp only [List.map_toArray, List.map_cons, List.map_nil]); first | done | rfl | (simp only [List.length_drop, List.length_take]; rfl)) ?_; (with_reducible refine (spec_l5in.calls a0_3 0 15 false _ A4.out).mono ?_); rintro e w' ⟨rfl, ⟨nd, rfl⟩⟩; refine ⟨_, rfl, ?_⟩) | ((with_reducible refine gate_callee (f := 49) rfl ?_); refine goesL_ (some 16) rfl rfl Try.func49 (by kernel_rfl) rfl #[.int .i64 a0_4, .int .i64 0, .int .i64 15] rfl (by (try simp only [List.map_toArray, List.map_cons, List.map_nil]); first | done | rfl | (simp only [List.length_drop, List.length_take]; rfl)) ?_; (with_reducible refine (spec_l5in.calls a0_4 0 15 t128 _ A5.out).mono ?_); rintro e w' ⟨rfl, ⟨nd, rfl⟩⟩; refine ⟨_, rfl, ?_⟩) | ((with_reducible refine gate_callee (f := 49) rfl ?_); refine goesL_ (some 19) rfl rfl Try.func49 (by kernel_rfl) rfl #[.int .i64 a0_2, .int .i64 1, .int .i64 400] rfl (by (try simp only [List.map_toArray, List.map_cons, List.map_nil]); first | done | rfl | (simp only [List.length_drop, List.length_take]; rfl)) ?_; (with_reducible refine (spec_l5in.calls a0_2 1 400 t129 _ A6.out).mono ?_); rintro e w' ⟨rfl, ⟨nd, rfl⟩⟩; refine ⟨_, rfl, ?_⟩))
              go_ret
              exact ⟨by first | rfl | (simp [errW_none, errW_some] <;> rfl) | (simp [*, errW_none, errW_some] <;> rfl), by repeat (first | (with_reducible first | exact HB.out | apply below_alloc | apply pw_below_drewN | apply below_drew1 | refine below_set ?_ GE125.out) | exact HB.out)⟩
          · rw [if_neg c46] at H
            have c46b0 : (a0_0 == 4) = false := beq_eq_false_iff_ne.mpr c46
            have c46b1 : (a0_0 != 4) = true := bne_iff_ne.mpr c46
            by_cases c58 : a0_0 = 5
            · rw [if_pos c58] at H
              have c58b0 : (a0_0 == 5) = true := beq_iff_eq.mpr c58
              have c58b1 : (a0_0 != 5) = false := bne_eq_false_iff_eq.mpr c58
              clear c58
              by_cases c59 : t129 = true
              · subst c59
                have H1 : (if a0_3 = 0 then (if a0_4 = 0 then (some ((l0_5.length : Int) == 0)) else (some false)) else (some false)) = some r := by rw [if_pos rfl] at H; exact H
                clear H
                have H := H1
                clear H1
                by_cases c60 : a0_3 = 0
                · rw [if_pos c60] at H
                  have c60b0 : (a0_3 == 0) = true := beq_iff_eq.mpr c60
                  have c60b1 : (a0_3 != 0) = false := bne_eq_false_iff_eq.mpr c60
                  clear c60
                  by_cases c61 : a0_4 = 0
                  · rw [if_pos c61] at H
                    have c61b0 : (a0_4 == 0) = true := beq_iff_eq.mpr c61
                    have c61b1 : (a0_4 != 0) = false := bne_eq_false_iff_eq.mpr c61
                    clear c61
                    obtain rfl := Option.some.inj H
                    go_enter Try.func22, Try.ntmps22
                    go_wp2_with (first | ((with_reducible refine gate_dst (N := 1) rfl ?_); refine box_event ?hg (N := 1) ?hd (cs := #[.int .i64 a0_0, .int .i64 a0_1, .int .i64 a0_2, .int .i64 a0_3, .int .i64 a0_4, .slice A0_5 l0_5.length c0_5]) (t := 37) ?hr ?_; (case hd => rfl); (case hg => rfl); (case hr => first | (go_simp; done) | (go_simp; rfl)); intro gb125 hg w62 hbox hb; have n0_ := Aside0.mk (below_step (by repeat (first | (with_reducible first | exact HB.out | apply below_alloc | apply pw_below_drewN | apply below_drew1) | exact HB.out)) hb); have n1_ := Aside0.mk (hbox); have n2_ := Aside0.mk ((by rw [hg]; exact (below_size (by repeat (first | (with_reducible first | exact HB.out | apply below_alloc | apply pw_below_drewN | apply below_drew1) | exact HB.out))) : w.heap.size ≤ gb125)); have n3_ := Aside0.mk ((by rw [hg]; exact (below_size (by repeat (first | (with_reducible first | exact HB.out | apply below_alloc | apply pw_below_drewN | apply below_drew1) | exact HB.out))) : w.heap.size ≤ gb125)); clear HB; have HB := n0_; have BK125 := n1_; have GW125 := n2_; have GE125 := n3_; clear n0_ n1_ n2_ n3_; clear hb hbox hg; have hcz63_0 : w62.cell? ⟨gb125, 0, none⟩ = some (.int .i64 a0_0) := (blk_cell BK125.out 0).trans rfl; have hcz63_1 : w62.cell? ⟨gb125, 1, none⟩ = some (.int .i64 a0_1) := (blk_cell BK125.out 1).trans rfl; have hcz63_2 : w62.cell? ⟨gb125, 2, none⟩ = some (.int .i64 a0_2) := (blk_cell BK125.out 2).trans rfl; have hcz63_3 : w62.cell? ⟨gb125, 3, none⟩ = some (.int .i64 a0_3) := (blk_cell BK125.out 3).trans rfl; have hcz63_4 : w62.cell? ⟨gb125, 4, none⟩ = some (.int .i64 a0_4) := (blk_cell BK125.out 4).trans rfl; have hcz63_5 : w62.cell? ⟨gb125, 5, none⟩ = some (.slice A0_5 l0_5.length c0_5) := (blk_cell BK125.out 5).trans rfl; have hfz63_0 := blk_frozen BK125.out 0; have hfz63_1 := blk_frozen BK125.out 1; have hfz63_2 := blk_frozen BK125.out 2; have hfz63_3 := blk_frozen BK125.out 3; have hfz63_4 := blk_frozen BK125.out 4; have hfz63_5 := blk_frozen BK125.out 5) | ((with_reducible refine gate_callee (f := 49) rfl ?_); refine goesL_ (some 9) rfl rfl Try.func49 (by kernel_rfl) rfl #[.int .i64 a0_1, .int .i64 1, .int .i64 1000000] rfl (by (try simp only [List.map_toArray, List.map_cons, List.map_nil]); first | done | rfl | (simp only [List.length_drop, List.length_take]; rfl)) ?_; (with_reducible refine (spec_l5in.calls a0_1 1 1000000 true _ A2.out).mono ?_); rintro e w' ⟨rfl, ⟨nd, rfl⟩⟩; refine ⟨_, rfl, ?_⟩) | ((with_reducible refine gate_callee (f := 49) rfl ?_); refine goesL_ (some 13) rfl rfl Try.func49 (by kernel_rfl) rfl #[.int .i64 a0_3, .int .i64 0, .int .i64 15] rfl (by (try simp only [List.map_toArray, List.map_cons, List.map_nil]); first | done | rfl | (simp only [List.length_drop, List.length_take]; rfl)) ?_; (with_reducible refine (spec_l5in.calls a0_3 0 15 t127 _ A4.out).mono ?_); rintro e w' ⟨rfl, ⟨nd, rfl⟩⟩; refine ⟨_, rfl, ?_⟩) | ((with_reducible refine gate_callee (f := 49) rfl ?_); refine goesL_ (some 16) rfl rfl Try.func49 (by kernel_rfl) rfl #[.int .i64 a0_4, .int .i64 0, .int .i64 15] rfl (by (try simp only [List.map_toArray, List.map_cons, List.map_nil]); first | done | rfl | (simp only [List.length_drop, List.length_take]; rfl)) ?_; (with_reducible refine (spec_l5in.calls a0_4 0 15 t128 _ A5.out).mono ?_); rintro e w' ⟨rfl, ⟨nd, rfl⟩⟩; refine ⟨_, rfl, ?_⟩) | ((with_reducible refine gate_callee (f := 49) rfl ?_); refine goesL_ (some 19) rfl rfl Try.func49 (by kernel_rfl) rfl #[.int .i64 a0_2, .int .i64 1, .int .i64 400] rfl (by (try simp only [List.map_toArray, List.map_cons, List.map_nil]); first | done | rfl | (simp only [List.length_drop, List.length_take]; rfl)) ?_; (with_reducible refine (spec_l5in.calls a0_2 1 400 true _ A6.out).mono ?_); rintro e w' ⟨rfl, ⟨nd, rfl⟩⟩; refine ⟨_, rfl, ?_⟩))
                    go_ret
                    exact ⟨by first | rfl | (simp [errW_none, errW_some] <;> rfl) | (simp [*, errW_none, errW_some] <;> rfl), by repeat (first | (with_reducible first | exact HB.out | apply below_alloc | apply pw_below_drewN | apply below_drew1 | refine below_set ?_ GE125.out) | exact HB.out)⟩
                  · rw [if_neg c61] at H
                    have c61b0 : (a0_4 == 0) = false := beq_eq_false_iff_ne.mpr c61
                    have c61b1 : (a0_4 != 0) = true := bne_iff_ne.mpr c61
                    obtain rfl := Option.some.inj H
                    go_enter Try.func22, Try.ntmps22
                    go_wp2_with (first | ((with_reducible refine gate_dst (N := 1) rfl ?_); refine box_event ?hg (N := 1) ?hd (cs := #[.int .i64 a0_0, .int .i64 a0_1, .int .i64 a0_2, .int .i64 a0_3, .int .i64 a0_4, .slice A0_5 l0_5.length c0_5]) (t := 37) ?hr ?_; (case hd => rfl); (case hg => rfl); (case hr => first | (go_simp; done) | (go_simp; rfl)); intro gb125 hg w64 hbox hb; have n0_ := Aside0.mk (below_step (by repeat (first | (with_reducible first | exact HB.out | apply below_alloc | apply pw_below_drewN | apply below_drew1) | exact HB.out)) hb); have n1_ := Aside0.mk (hbox); have n2_ := Aside0.mk ((by rw [hg]; exact (below_size (by repeat (first | (with_reducible first | exact HB.out | apply below_alloc | apply pw_below_drewN | apply below_drew1) | exact HB.out))) : w.heap.size ≤ gb125)); have n3_ := Aside0.mk ((by rw [hg]; exact (below_size (by repeat (first | (with_reducible first | exact HB.out | apply below_alloc | apply pw_below_drewN | apply below_drew1) | exact HB.out))) : w.heap.size ≤ gb125)); clear HB; have HB := n0_; have BK125 := n1_; have GW125 := n2_; have GE125 := n3_; clear n0_ n1_ n2_ n3_; clear hb hbox hg; have hcz65_0 : w64.cell? ⟨gb125, 0, none⟩ = some (.int .i64 a0_0) := (blk_cell BK125.out 0).trans rfl; have hcz65_1 : w64.cell? ⟨gb125, 1, none⟩ = some (.int .i64 a0_1) := (blk_cell BK125.out 1).trans rfl; have hcz65_2 : w64.cell? ⟨gb125, 2, none⟩ = some (.int .i64 a0_2) := (blk_cell BK125.out 2).trans rfl; have hcz65_3 : w64.cell? ⟨gb125, 3, none⟩ = some (.int .i64 a0_3) := (blk_cell BK125.out 3).trans rfl; have hcz65_4 : w64.cell? ⟨gb125, 4, none⟩ = some (.int .i64 a0_4) := (blk_cell BK125.out 4).trans rfl; have hcz65_5 : w64.cell? ⟨gb125, 5, none⟩ = some (.slice A0_5 l0_5.length c0_5) := (blk_cell BK125.out 5).trans rfl; have hfz65_0 := blk_frozen BK125.out 0; have hfz65_1 := blk_frozen BK125.out 1; have hfz65_2 := blk_frozen BK125.out 2; have hfz65_3 := blk_frozen BK125.out 3; have hfz65_4 := blk_frozen BK125.out 4; have hfz65_5 := blk_frozen BK125.out 5) | ((with_reducible refine gate_callee (f := 49) rfl ?_); refine goesL_ (some 9) rfl rfl Try.func49 (by kernel_rfl) rfl #[.int .i64 a0_1, .int .i64 1, .int .i64 1000000] rfl (by (try simp only [List.map_toArray, List.map_cons, List.map_nil]); first | done | rfl | (simp only [List.length_drop, List.length_take]; rfl)) ?_; (with_reducible refine (spec_l5in.calls a0_1 1 1000000 true _ A2.out).mono ?_); rintro e w' ⟨rfl, ⟨nd, rfl⟩⟩; refine ⟨_, rfl, ?_⟩) | ((with_reducible refine gate_callee (f := 49) rfl ?_); refine goesL_ (some 13) rfl rfl Try.func49 (by kernel_rfl) rfl #[.int .i64 a0_3, .int .i64 0, .int .i64 15] rfl (by (try simp only [List.map_toArray, List.map_cons, List.map_nil]); first | done | rfl | (simp only [List.length_drop, List.length_take]; rfl)) ?_; (with_reducible refine (spec_l5in.calls a0_3 0 15 t127 _ A4.out).mono ?_); rintro e w' ⟨rfl, ⟨nd, rfl⟩⟩; refine ⟨_, rfl, ?_⟩) | ((with_reducible refine gate_callee (f := 49) rfl ?_); refine goesL_ (some 16) rfl rfl Try.func49 (by kernel_rfl) rfl #[.int .i64 a0_4, .int .i64 0, .int .i64 15] rfl (by (try simp only [List.map_toArray, List.map_cons, List.map_nil]); first | done | rfl | (simp only [List.length_drop, List.length_take]; rfl)) ?_; (with_reducible refine (spec_l5in.calls a0_4 0 15 t128 _ A5.out).mono ?_); rintro e w' ⟨rfl, ⟨nd, rfl⟩⟩; refine ⟨_, rfl, ?_⟩) | ((with_reducible refine gate_callee (f := 49) rfl ?_); refine goesL_ (some 19) rfl rfl Try.func49 (by kernel_rfl) rfl #[.int .i64 a0_2, .int .i64 1, .int .i64 400] rfl (by (try simp only [List.map_toArray, List.map_cons, List.map_nil]); first | done | rfl | (simp only [List.length_drop, List.length_take]; rfl)) ?_; (with_reducible refine (spec_l5in.calls a0_2 1 400 true _ A6.out).mono ?_); rintro e w' ⟨rfl, ⟨nd, rfl⟩⟩; refine ⟨_, rfl, ?_⟩))
                    go_ret
                    exact ⟨by first | rfl | (simp [errW_none, errW_some] <;> rfl) | (simp [*, errW_none, errW_some] <;> rfl), by repeat (first | (with_reducible first | exact HB.out | apply below_alloc | apply pw_below_drewN | apply below_drew1 | refine below_set ?_ GE125.out) | exact HB.out)⟩
                · rw [if_neg c60] at H
                  have c60b0 : (a0_3 == 0) = false := beq_eq_false_iff_ne.mpr c60
                  have c60b1 : (a0_3 != 0) = true := bne_iff_ne.mpr c60
                  obtain rfl := Option.some.inj H
                  go_enter Try.func22, Try.ntmps22
                  go_wp2_with (first | ((with_reducible refine gate_dst (N := 1) rfl ?_); refine box_event ?hg (N := 1) ?hd (cs := #[.int .i64 a0_0, .int .i64 a0_1, .int .i64 a0_2, .int .i64 a0_3, .int .i64 a0_4, .slice A0_5 l0_5.length c0_5]) (t := 37) ?hr ?_; (case hd => rfl); (case hg => rfl); (case hr => first | (go_simp; done) | (go_simp; rfl)); intro gb125 hg w66 hbox hb; have n0_ := Aside0.mk (below_step (by repeat (first | (with_reducible first | exact HB.out | apply below_alloc | apply pw_below_drewN | apply below_drew1) | exact HB.out)) hb); have n1_ := Aside0.mk (hbox); have n2_ := Aside0.mk ((by rw [hg]; exact (below_size (by repeat (first | (with_reducible first | exact HB.out | apply below_alloc | apply pw_below_drewN | apply below_drew1) | exact HB.out))) : w.heap.size ≤ gb125)); have n3_ := Aside0.mk ((by rw [hg]; exact (below_size (by repeat (first | (with_reducible first | exact HB.out | apply below_alloc | apply pw_below_drewN | apply below_drew1) | exact HB.out))) : w.heap.size ≤ gb125)); clear HB; have HB := n0_; have BK125 := n1_; have GW125 := n2_; have GE125 := n3_; clear n0_ n1_ n2_ n3_; clear hb hbox hg; have hcz67_0 : w66.cell? ⟨gb125, 0, none⟩ = some (.int .i64 a0_0) := (blk_cell BK125.out 0).trans rfl; have hcz67_1 : w66.cell? ⟨gb125, 1, none⟩ = some (.int .i64 a0_1) := (blk_cell BK125.out 1).trans rfl; have hcz67_2 : w66.cell? ⟨gb125, 2, none⟩ = some (.int .i64 a0_2) := (blk_cell BK125.out 2).trans rfl; have hcz67_3 : w66.cell? ⟨gb125, 3, none⟩ = some (.int .i64 a0_3) := (blk_cell BK125.out 3).trans rfl; have hcz67_4 : w66.cell? ⟨gb125, 4, none⟩ = some (.int .i64 a0_4) := (blk_cell BK125.out 4).trans rfl; have hcz67_5 : w66.cell? ⟨gb125, 5, none⟩ = some (.slice A0_5 l0_5.length c0_5) := (blk_cell BK125.out 5).trans rfl; have hfz67_0 := blk_frozen BK125.out 0; have hfz67_1 := blk_frozen BK125.out 1; have hfz67_2 := blk_frozen BK125.out 2; have hfz67_3 := blk_frozen BK125.out 3; have hfz67_4 := blk_frozen BK125.out 4; have hfz67_5 := blk_frozen BK125.out 5) | ((with_reducible refine gate_callee (f := 49) rfl ?_); refine goesL_ (some 9) rfl rfl Try.func49 (by kernel_rfl) rfl #[.int .i64 a0_1, .int .i64 1, .int .i64 1000000] rfl (by (try simp only [List.map_toArray, List.map_cons, List.map_nil]); first | done | rfl | (simp only [List.length_drop, List.length_take]; rfl)) ?_; (with_reducible refine (spec_l5in.calls a0_1 1 1000000 true _ A2.out).mono ?_); rintro e w' ⟨rfl, ⟨nd, rfl⟩⟩; refine ⟨_, rfl, ?_⟩) | ((with_reducible refine gate_callee (f := 49) rfl ?_); refine goesL_ (some 13) rfl rfl Try.func49 (by kernel_rfl) rfl #[.int .i64 a0_3, .int .i64 0, .int .i64 15] rfl (by (try simp only [List.map_toArray, List.map_cons, List.map_nil]); first | done | rfl | (simp only [List.length_drop, List.length_take]; rfl)) ?_; (with_reducible refine (spec_l5in.calls a0_3 0 15 t127 _ A4.out).mono ?_); rintro e w' ⟨rfl, ⟨nd, rfl⟩⟩; refine ⟨_, rfl, ?_⟩) | ((with_reducible refine gate_callee (f := 49) rfl ?_); refine goesL_ (some 16) rfl rfl Try.func49 (by kernel_rfl) rfl #[.int .i64 a0_4, .int .i64 0, .int .i64 15] rfl (by (try simp only [List.map_toArray, List.map_cons, List.map_nil]); first | done | rfl | (simp only [List.length_drop, List.length_take]; rfl)) ?_; (with_reducible refine (spec_l5in.calls a0_4 0 15 t128 _ A5.out).mono ?_); rintro e w' ⟨rfl, ⟨nd, rfl⟩⟩; refine ⟨_, rfl, ?_⟩) | ((with_reducible refine gate_callee (f := 49) rfl ?_); refine goesL_ (some 19) rfl rfl Try.func49 (by kernel_rfl) rfl #[.int .i64 a0_2, .int .i64 1, .int .i64 400] rfl (by (try simp only [List.map_toArray, List.map_cons, List.map_nil]); first | done | rfl | (simp only [List.length_drop, List.length_take]; rfl)) ?_; (with_reducible refine (spec_l5in.calls a0_2 1 400 true _ A6.out).mono ?_); rintro e w' ⟨rfl, ⟨nd, rfl⟩⟩; refine ⟨_, rfl, ?_⟩))
                  go_ret
                  exact ⟨by first | rfl | (simp [errW_none, errW_some] <;> rfl) | (simp [*, errW_none, errW_some] <;> rfl), by repeat (first | (with_reducible first | exact HB.out | apply below_alloc | apply pw_below_drewN | apply below_drew1 | refine below_set ?_ GE125.out) | exact HB.out)⟩
              · replace c59 := Bool.eq_false_iff.mpr c59
                subst c59
                have H1 : (some false) = some r := by rw [if_neg (show ¬ (false = true) by decide)] at H; exact H
                clear H
                have H := H1
                clear H1
                obtain rfl := Option.some.inj H
                go_enter Try.func22, Try.ntmps22
                go_wp2_with (first | ((with_reducible refine gate_dst (N := 1) rfl ?_); refine box_event ?hg (N := 1) ?hd (cs := #[.int .i64 a0_0, .int .i64 a0_1, .int .i64 a0_2, .int .i64 a0_3, .int .i64 a0_4, .slice A0_5 l0_5.length c0_5]) (t := 37) ?hr ?_; (case hd => rfl); (case hg => rfl); (case hr => first | (go_simp; done) | (go_simp; rfl)); intro gb125 hg w68 hbox hb; have n0_ := Aside0.mk (below_step (by repeat (first | (with_reducible first | exact HB.out | apply below_alloc | apply pw_below_drewN | apply below_drew1) | exact HB.out)) hb); have n1_ := Aside0.mk (hbox); have n2_ := Aside0.mk ((by rw [hg]; exact (below_size (by repeat (first | (with_reducible first | exact HB.out | apply below_alloc | apply pw_below_drewN | apply below_drew1) | exact HB.out))) : w.heap.size ≤ gb125)); have n3_ := Aside0.mk ((by rw [hg]; exact (below_size (by repeat (first | (with_reducible first | exact HB.out | apply below_alloc | apply pw_below_drewN | apply below_drew1) | exact HB.out))) : w.heap.size ≤ gb125)); clear HB; have HB := n0_; have BK125 := n1_; have GW125 := n2_; have GE125 := n3_; clear n0_ n1_ n2_ n3_; clear hb hbox hg; have hcz69_0 : w68.cell? ⟨gb125, 0, none⟩ = some (.int .i64 a0_0) := (blk_cell BK125.out 0).trans rfl; have hcz69_1 : w68.cell? ⟨gb125, 1, none⟩ = some (.int .i64 a0_1) := (blk_cell BK125.out 1).trans rfl; have hcz69_2 : w68.cell? ⟨gb125, 2, none⟩ = some (.int .i64 a0_2) := (blk_cell BK125.out 2).trans rfl; have hcz69_3 : w68.cell? ⟨gb125, 3, none⟩ = some (.int .i64 a0_3) := (blk_cell BK125.out 3).trans rfl; have hcz69_4 : w68.cell? ⟨gb125, 4, none⟩ = some (.int .i64 a0_4) := (blk_cell BK125.out 4).trans rfl; have hcz69_5 : w68.cell? ⟨gb125, 5, none⟩ = some (.slice A0_5 l0_5.length c0_5) := (blk_cell BK125.out 5).trans rfl; have hfz69_0 := blk_frozen BK125.out 0; have hfz69_1 := blk_frozen BK125.out 1; have hfz69_2 := blk_frozen BK125.out 2; have hfz69_3 := blk_frozen BK125.out 3; have hfz69_4 := blk_frozen BK125.out 4; have hfz69_5 := blk_frozen BK125.out 5) | ((with_reducible refine gate_callee (f := 49) rfl ?_); refine goesL_ (some 9) rfl rfl Try.func49 (by kernel_rfl) rfl #[.int .i64 a0_1, .int .i64 1, .int .i64 1000000] rfl (by (try simp only [List.map_toArray, List.map_cons, List.map_nil]); first | done | rfl | (simp only [List.length_drop, List.length_take]; rfl)) ?_; (with_reducible refine (spec_l5in.calls a0_1 1 1000000 true _ A2.out).mono ?_); rintro e w' ⟨rfl, ⟨nd, rfl⟩⟩; refine ⟨_, rfl, ?_⟩) | ((with_reducible refine gate_callee (f := 49) rfl ?_); refine goesL_ (some 13) rfl rfl Try.func49 (by kernel_rfl) rfl #[.int .i64 a0_3, .int .i64 0, .int .i64 15] rfl (by (try simp only [List.map_toArray, List.map_cons, List.map_nil]); first | done | rfl | (simp only [List.length_drop, List.length_take]; rfl)) ?_; (with_reducible refine (spec_l5in.calls a0_3 0 15 t127 _ A4.out).mono ?_); rintro e w' ⟨rfl, ⟨nd, rfl⟩⟩; refine ⟨_, rfl, ?_⟩) | ((with_reducible refine gate_callee (f := 49) rfl ?_); refine goesL_ (some 16) rfl rfl Try.func49 (by kernel_rfl) rfl #[.int .i64 a0_4, .int .i64 0, .int .i64 15] rfl (by (try simp only [List.map_toArray, List.map_cons, List.map_nil]); first | done | rfl | (simp only [List.length_drop, List.length_take]; rfl)) ?_; (with_reducible refine (spec_l5in.calls a0_4 0 15 t128 _ A5.out).mono ?_); rintro e w' ⟨rfl, ⟨nd, rfl⟩⟩; refine ⟨_, rfl, ?_⟩) | ((with_reducible refine gate_callee (f := 49) rfl ?_); refine goesL_ (some 19) rfl rfl Try.func49 (by kernel_rfl) rfl #[.int .i64 a0_2, .int .i64 1, .int .i64 400] rfl (by (try simp only [List.map_toArray, List.map_cons, List.map_nil]); first | done | rfl | (simp only [List.length_drop, List.length_take]; rfl)) ?_; (with_reducible refine (spec_l5in.calls a0_2 1 400 false _ A6.out).mono ?_); rintro e w' ⟨rfl, ⟨nd, rfl⟩⟩; refine ⟨_, rfl, ?_⟩))
                go_ret
                exact ⟨by first | rfl | (simp [errW_none, errW_some] <;> rfl) | (simp [*, errW_none, errW_some] <;> rfl), by repeat (first | (with_reducible first | exact HB.out | apply below_alloc | apply pw_below_drewN | apply below_drew1 | refine below_set ?_ GE125.out) | exact HB.out)⟩
            · rw [if_neg c58] at H
              have c58b0 : (a0_0 == 5) = false := beq_eq_false_iff_ne.mpr c58
              have c58b1 : (a0_0 != 5) = true := bne_iff_ne.mpr c58
              obtain rfl := Option.some.inj H
              go_enter Try.func22, Try.ntmps22
              go_wp2_with (first | ((with_reducible refine gate_dst (N := 1) rfl ?_); refine box_event ?hg (N := 1) ?hd (cs := #[.int .i64 a0_0, .int .i64 a0_1, .int .i64 a0_2, .int .i64 a0_3, .int .i64 a0_4, .slice A0_5 l0_5.length c0_5]) (t := 37) ?hr ?_; (case hd => rfl); (case hg => rfl); (case hr => first | (go_simp; done) | (go_simp; rfl)); intro gb125 hg w70 hbox hb; have n0_ := Aside0.mk (below_step (by repeat (first | (with_reducible first | exact HB.out | apply below_alloc | apply pw_below_drewN | apply below_drew1) | exact HB.out)) hb); have n1_ := Aside0.mk (hbox); have n2_ := Aside0.mk ((by rw [hg]; exact (below_size (by repeat (first | (with_reducible first | exact HB.out | apply below_alloc | apply pw_below_drewN | apply below_drew1) | exact HB.out))) : w.heap.size ≤ gb125)); have n3_ := Aside0.mk ((by rw [hg]; exact (below_size (by repeat (first | (with_reducible first | exact HB.out | apply below_alloc | apply pw_below_drewN | apply below_drew1) | exact HB.out))) : w.heap.size ≤ gb125)); clear HB; have HB := n0_; have BK125 := n1_; have GW125 := n2_; have GE125 := n3_; clear n0_ n1_ n2_ n3_; clear hb hbox hg; have hcz71_0 : w70.cell? ⟨gb125, 0, none⟩ = some (.int .i64 a0_0) := (blk_cell BK125.out 0).trans rfl; have hcz71_1 : w70.cell? ⟨gb125, 1, none⟩ = some (.int .i64 a0_1) := (blk_cell BK125.out 1).trans rfl; have hcz71_2 : w70.cell? ⟨gb125, 2, none⟩ = some (.int .i64 a0_2) := (blk_cell BK125.out 2).trans rfl; have hcz71_3 : w70.cell? ⟨gb125, 3, none⟩ = some (.int .i64 a0_3) := (blk_cell BK125.out 3).trans rfl; have hcz71_4 : w70.cell? ⟨gb125, 4, none⟩ = some (.int .i64 a0_4) := (blk_cell BK125.out 4).trans rfl; have hcz71_5 : w70.cell? ⟨gb125, 5, none⟩ = some (.slice A0_5 l0_5.length c0_5) := (blk_cell BK125.out 5).trans rfl; have hfz71_0 := blk_frozen BK125.out 0; have hfz71_1 := blk_frozen BK125.out 1; have hfz71_2 := blk_frozen BK125.out 2; have hfz71_3 := blk_frozen BK125.out 3; have hfz71_4 := blk_frozen BK125.out 4; have hfz71_5 := blk_frozen BK125.out 5) | ((with_reducible refine gate_callee (f := 49) rfl ?_); refine goesL_ (some 9) rfl rfl Try.func49 (by kernel_rfl) rfl #[.int .i64 a0_1, .int .i64 1, .int .i64 1000000] rfl (by (try simp only [List.map_toArray, List.map_cons, List.map_nil]); first | done | rfl | (simp only [List.length_drop, List.length_take]; rfl)) ?_; (with_reducible refine (spec_l5in.calls a0_1 1 1000000 true _ A2.out).mono ?_); rintro e w' ⟨rfl, ⟨nd, rfl⟩⟩; refine ⟨_, rfl, ?_⟩) | ((with_reducible refine gate_callee (f := 49) rfl ?_); refine goesL_ (some 13) rfl rfl Try.func49 (by kernel_rfl) rfl #[.int .i64 a0_3, .int .i64 0, .int .i64 15] rfl (by (try simp only [List.map_toArray, List.map_cons, List.map_nil]); first | done | rfl | (simp only [List.length_drop, List.length_take]; rfl)) ?_; (with_reducible refine (spec_l5in.calls a0_3 0 15 t127 _ A4.out).mono ?_); rintro e w' ⟨rfl, ⟨nd, rfl⟩⟩; refine ⟨_, rfl, ?_⟩) | ((with_reducible refine gate_callee (f := 49) rfl ?_); refine goesL_ (some 16) rfl rfl Try.func49 (by kernel_rfl) rfl #[.int .i64 a0_4, .int .i64 0, .int .i64 15] rfl (by (try simp only [List.map_toArray, List.map_cons, List.map_nil]); first | done | rfl | (simp only [List.length_drop, List.length_take]; rfl)) ?_; (with_reducible refine (spec_l5in.calls a0_4 0 15 t128 _ A5.out).mono ?_); rintro e w' ⟨rfl, ⟨nd, rfl⟩⟩; refine ⟨_, rfl, ?_⟩) | ((with_reducible refine gate_callee (f := 49) rfl ?_); refine goesL_ (some 19) rfl rfl Try.func49 (by kernel_rfl) rfl #[.int .i64 a0_2, .int .i64 1, .int .i64 400] rfl (by (try simp only [List.map_toArray, List.map_cons, List.map_nil]); first | done | rfl | (simp only [List.length_drop, List.length_take]; rfl)) ?_; (with_reducible refine (spec_l5in.calls a0_2 1 400 t129 _ A6.out).mono ?_); rintro e w' ⟨rfl, ⟨nd, rfl⟩⟩; refine ⟨_, rfl, ?_⟩))
              go_ret
              exact ⟨by first | rfl | (simp [errW_none, errW_some] <;> rfl) | (simp [*, errW_none, errW_some] <;> rfl), by repeat (first | (with_reducible first | exact HB.out | apply below_alloc | apply pw_below_drewN | apply below_drew1 | refine below_set ?_ GE125.out) | exact HB.out)⟩
  · replace c3 := Bool.eq_false_iff.mpr c3
    subst c3
    have H1 : (some false) = some r := by rw [if_neg (show ¬ (false = true) by decide)] at H; exact H
    clear H
    have H := H1
    clear H1
    obtain rfl := Option.some.inj H
    go_enter Try.func22, Try.ntmps22
    go_wp2_with (first | ((with_reducible refine gate_dst (N := 1) rfl ?_); refine box_event ?hg (N := 1) ?hd (cs := #[.int .i64 a0_0, .int .i64 a0_1, .int .i64 a0_2, .int .i64 a0_3, .int .i64 a0_4, .slice A0_5 l0_5.length c0_5]) (t := 37) ?hr ?_; (case hd => rfl); (case hg => rfl); (case hr => first | (go_simp; done) | (go_simp; rfl)); intro gb125 hg w72 hbox hb; have n0_ := Aside0.mk (below_step (by repeat (first | (with_reducible first | exact HB.out | apply below_alloc | apply pw_below_drewN | apply below_drew1) | exact HB.out)) hb); have n1_ := Aside0.mk (hbox); have n2_ := Aside0.mk ((by rw [hg]; exact (below_size (by repeat (first | (with_reducible first | exact HB.out | apply below_alloc | apply pw_below_drewN | apply below_drew1) | exact HB.out))) : w.heap.size ≤ gb125)); have n3_ := Aside0.mk ((by rw [hg]; exact (below_size (by repeat (first | (with_reducible first | exact HB.out | apply below_alloc | apply pw_below_drewN | apply below_drew1) | exact HB.out))) : w.heap.size ≤ gb125)); clear HB; have HB := n0_; have BK125 := n1_; have GW125 := n2_; have GE125 := n3_; clear n0_ n1_ n2_ n3_; clear hb hbox hg; have hcz73_0 : w72.cell? ⟨gb125, 0, none⟩ = some (.int .i64 a0_0) := (blk_cell BK125.out 0).trans rfl; have hcz73_1 : w72.cell? ⟨gb125, 1, none⟩ = some (.int .i64 a0_1) := (blk_cell BK125.out 1).trans rfl; have hcz73_2 : w72.cell? ⟨gb125, 2, none⟩ = some (.int .i64 a0_2) := (blk_cell BK125.out 2).trans rfl; have hcz73_3 : w72.cell? ⟨gb125, 3, none⟩ = some (.int .i64 a0_3) := (blk_cell BK125.out 3).trans rfl; have hcz73_4 : w72.cell? ⟨gb125, 4, none⟩ = some (.int .i64 a0_4) := (blk_cell BK125.out 4).trans rfl; have hcz73_5 : w72.cell? ⟨gb125, 5, none⟩ = some (.slice A0_5 l0_5.length c0_5) := (blk_cell BK125.out 5).trans rfl; have hfz73_0 := blk_frozen BK125.out 0; have hfz73_1 := blk_frozen BK125.out 1; have hfz73_2 := blk_frozen BK125.out 2; have hfz73_3 := blk_frozen BK125.out 3; have hfz73_4 := blk_frozen BK125.out 4; have hfz73_5 := blk_frozen BK125.out 5) | ((with_reducible refine gate_callee (f := 49) rfl ?_); refine goesL_ (some 9) rfl rfl Try.func49 (by kernel_rfl) rfl #[.int .i64 a0_1, .int .i64 1, .int .i64 1000000] rfl (by (try simp only [List.map_toArray, List.map_cons, List.map_nil]); first | done | rfl | (simp only [List.length_drop, List.length_take]; rfl)) ?_; (with_reducible refine (spec_l5in.calls a0_1 1 1000000 false _ A2.out).mono ?_); rintro e w' ⟨rfl, ⟨nd, rfl⟩⟩; refine ⟨_, rfl, ?_⟩))
    go_ret
    exact ⟨by first | rfl | (simp [errW_none, errW_some] <;> rfl) | (simp [*, errW_none, errW_some] <;> rfl), by repeat (first | (with_reducible first | exact HB.out | apply below_alloc | apply pw_below_drewN | apply below_drew1 | refine below_set ?_ GE125.out) | exact HB.out)⟩

end Go.Proofs.Ytkbclccnnllddaa.PFnExactLogScan
