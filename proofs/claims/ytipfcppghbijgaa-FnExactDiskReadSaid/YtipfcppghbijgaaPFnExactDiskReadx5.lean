-- By this session's own program (wip/xprint.py), over the kit's print.
import Derived.Test.YtipfcppghbijgaaPFnExactDiskReadx0
import Derived.Test.YtipfcppghbijgaaPFnExactDiskReadx4
namespace Go.Proofs.Ytipfcppghbijgaa.PFnExactDiskRead
open Go.RowKit Go.Proofs.YtipfcppghbijgaaW.PrintWords Go.Proofs.YtipfcppghbijgaaW.PrintLast Go.Proofs.YtipfcppghbijgaaW.PrintMore
attribute [local go_sem] max2_int min2_int max_two min_two max_three min_three max_four min_four   -- for this text's walks alone
attribute [local go_sem high] fl_eql fl_neq fl_lss fl_leq fl_gtr fl_geq fl_add fl_sub fl_mul fl_quo fl_neg fl_ofInt fl_toInt fl_store ext_bits
set_option linter.unusedVariables false
set_option linter.unusedSimpArgs false

/-! ### spec_DiskRead: function 18 -/
mutual
def spec_DiskRead.j0 : Nat → Int → Bool → List (List Int) → List (S68) → Int → Bool → Option (List Int × Bool)
  | 0, _, _, _, _, _, _ => none
  | k + 1, x1, x20, x168000, x168001, x168002, x168003 => if x20 = true then (some (([] : List Int), false)) else (spec_DiskRead.l0 k x1 (wrap64 ((x168001.length : Int) - 1)) x168000 x168001 x168002 x168003)
def spec_DiskRead.l0 : Nat → Int → Int → List (List Int) → List (S68) → Int → Bool → Option (List Int × Bool)
  | 0, _, _, _, _, _, _ => none
  | k + 1, x1, x6, x168000, x168001, x168002, x168003 => if x6 ≥ 0 then (if 0 ≤ x6 then (if x6 < (x168001.length : Int) then (if ((rd_T68 x168001 x6).f0) = x1 then ((some (([] : List Int) : List Int)).bind fun y170 => (if y170.length + ((rd_T68 x168001 x6).f1).length < 140737488355328 then (some ((y170 ++ ((rd_T68 x168001 x6).f1)), true)) else (none))) else (spec_DiskRead.l0 k x1 (wrap64 (x6 - 1)) x168000 x168001 x168002 x168003)) else (none)) else (none)) else ((some (([] : List Int) : List Int)).bind fun y177 => (if 0 ≤ x1 then (if x1 < (x168000.length : Int) then (if y177.length + (rd_L1 x168000 x1).length < 140737488355328 then (some ((y177 ++ (rd_L1 x168000 x1)), true)) else (none)) else (none)) else (none)))
end
def spec_DiskRead.f (k : Nat) (l0_0 : List (List Int)) (l0_1 : List (S68)) (a0_2 : Int) (a0_3 : Bool) (a1 : Int) : Option (List Int × Bool) := (spec_DiskOk.f k l0_0 l0_1 a0_2 a0_3).bind fun t168 => (if t168 = true then (if a1 < 0 then (spec_DiskRead.j0 k a1 true l0_0 l0_1 a0_2 a0_3) else (spec_DiskRead.j0 k a1 (decide (a1 ≥ (l0_0.length : Int))) l0_0 l0_1 a0_2 a0_3)) else (spec_DiskRead.j0 k a1 true l0_0 l0_1 a0_2 a0_3))
theorem spec_DiskRead.mono_l : ∀ k, (∀ y0 y1 y2 y3 y4 y5, LeO (spec_DiskRead.j0 k y0 y1 y2 y3 y4 y5) (spec_DiskRead.j0 (k + 1) y0 y1 y2 y3 y4 y5)) ∧ (∀ y0 y1 y2 y3 y4 y5, LeO (spec_DiskRead.l0 k y0 y1 y2 y3 y4 y5) (spec_DiskRead.l0 (k + 1) y0 y1 y2 y3 y4 y5))
  | 0 => ⟨fun _ _ _ _ _ _ r h => by simp [spec_DiskRead.j0] at h, fun _ _ _ _ _ _ r h => by simp [spec_DiskRead.l0] at h⟩
  | k + 1 => by
    obtain ⟨ih0, ih1⟩ := spec_DiskRead.mono_l k
    refine ⟨?_, ?_⟩
    · intro y0 y1 y2 y3 y4 y5
      unfold spec_DiskRead.j0
      repeat' first
      | (with_reducible exact ih0 _ _ _ _ _ _)
      | (with_reducible exact ih1 _ _ _ _ _ _)
      | (with_reducible exact spec_DiskOk.mono _ _ _ _ _)
      | (with_reducible exact LeO.refl _)
      | (with_reducible exact LeO.none _)
      | (with_reducible refine LeO.ite ?_ ?_)
      | (with_reducible refine LeO.bind ?_ (fun _ => ?_))
      | exact ih0 _ _ _ _ _ _
      | exact ih1 _ _ _ _ _ _
      | exact spec_DiskOk.mono _ _ _ _ _
      | exact LeO.none _
      | refine LeO.ite ?_ ?_
      | refine LeO.bind ?_ (fun _ => ?_)
    · intro y0 y1 y2 y3 y4 y5
      unfold spec_DiskRead.l0
      repeat' first
      | (with_reducible exact ih0 _ _ _ _ _ _)
      | (with_reducible exact ih1 _ _ _ _ _ _)
      | (with_reducible exact spec_DiskOk.mono _ _ _ _ _)
      | (with_reducible exact LeO.refl _)
      | (with_reducible exact LeO.none _)
      | (with_reducible refine LeO.ite ?_ ?_)
      | (with_reducible refine LeO.bind ?_ (fun _ => ?_))
      | exact ih0 _ _ _ _ _ _
      | exact ih1 _ _ _ _ _ _
      | exact spec_DiskOk.mono _ _ _ _ _
      | exact LeO.none _
      | refine LeO.ite ?_ ?_
      | refine LeO.bind ?_ (fun _ => ?_)
theorem spec_DiskRead.mono : ∀ a0 a1 a2 a3 a4 k, LeO (spec_DiskRead.f k a0 a1 a2 a3 a4) (spec_DiskRead.f (k + 1) a0 a1 a2 a3 a4) := by
  intro a0 a1 a2 a3 a4 k
  obtain ⟨ih0, ih1⟩ := spec_DiskRead.mono_l k
  unfold spec_DiskRead.f
  repeat' first
      | (with_reducible exact ih0 _ _ _ _ _ _)
      | (with_reducible exact ih1 _ _ _ _ _ _)
      | (with_reducible exact spec_DiskOk.mono _ _ _ _ _)
      | (with_reducible exact LeO.refl _)
      | (with_reducible exact LeO.none _)
      | (with_reducible refine LeO.ite ?_ ?_)
      | (with_reducible refine LeO.bind ?_ (fun _ => ?_))
      | exact ih0 _ _ _ _ _ _
      | exact ih1 _ _ _ _ _ _
      | exact spec_DiskOk.mono _ _ _ _ _
      | exact LeO.none _
      | refine LeO.ite ?_ ?_
      | refine LeO.bind ?_ (fun _ => ?_)
set_option maxHeartbeats 8000000 in
set_option maxRecDepth 100000 in
theorem spec_DiskRead.calls (k : Nat) (A0_0 : Option Addr) (c0_0 : Nat) (l0_0 : List (List Int)) (A0_1 : Option Addr) (c0_1 : Nat) (l0_1 : List (S68)) (a0_2 : Int) (a0_3 : Bool) (a1 : Int) (r1 : List Int) (r2 : Bool) (w : World) (hr0_0 : Kd.C (Kd.slice 5 (Kd.int .u8)) w A0_0 l0_0.length l0_0) (hc0_0 : l0_0.length ≤ c0_0) (hr0_1 : Kd.C k68 w A0_1 l0_1.length l0_1) (hc0_1 : l0_1.length ≤ c0_1) (h : spec_DiskRead.f k l0_0 l0_1 a0_2 a0_3 a1 = some (r1, r2)) :
    Calls Try.prog 18 #[.agg #[.slice A0_0 l0_0.length c0_0, .slice A0_1 l0_1.length c0_1, .int .i64 a0_2, .bool a0_3], .int .i64 a1] w fun e w' => ∃ v0_ : Value, e = .returned (.tuple #[v0_, .bool r2]) ∧ Kd.R (Kd.int .u8) 5 w' w.heap.size (fun _ => True) v0_ r1 ∧ Below w.heap.size w w' := by
  have hu25 := Try.underlying25
  have HR0_0 := Aside0.mk hr0_0
  have HC0_0 := Aside0.mk hc0_0
  clear hr0_0 hc0_0
  have HR0_1 := Aside0.mk hr0_1
  have HC0_1 := Aside0.mk hc0_1
  clear hr0_1 hc0_1
  have HB := Aside0.mk (Below.refl w.heap.size w)
  have H : ((spec_DiskOk.f k l0_0 l0_1 a0_2 a0_3).bind fun t168 => (if t168 = true then (if a1 < 0 then (spec_DiskRead.j0 k a1 true l0_0 l0_1 a0_2 a0_3) else (spec_DiskRead.j0 k a1 (decide (a1 ≥ (l0_0.length : Int))) l0_0 l0_1 a0_2 a0_3)) else (spec_DiskRead.j0 k a1 true l0_0 l0_1 a0_2 a0_3))) = some (r1, r2) := h
  clear h
  have HC3 := Aside0.mk H
  clear H
  go_enter Try.func18, Try.ntmps18
  go_upto_region 1 with (first | ((with_reducible refine gate_dst (N := 2) rfl ?_); (try (refine gate_guard (by rfl) ?_; dsimp only)); refine box_event ?hg (N := 2) ?hd (cs := #[.slice A0_0 l0_0.length c0_0, .slice A0_1 l0_1.length c0_1, .int .i64 a0_2, .bool a0_3]) (t := 25) ?hr ?_; (case hd => rfl); (case hg => rfl); (case hr => first | (go_simp; done) | (go_simp; rfl)); intro gb167 hg w4 hbox hb; have n0_ := Aside0.mk (below_step (by repeat (first | (with_reducible first | exact HB.out | apply below_alloc | apply pw_below_drewN | apply below_drew1) | exact HB.out)) hb); have n1_ := Aside0.mk (hbox); have n2_ := Aside0.mk ((by rw [hg]; exact (below_size (by repeat (first | (with_reducible first | exact HB.out | apply below_alloc | apply pw_below_drewN | apply below_drew1) | exact HB.out))) : w.heap.size ≤ gb167)); have n3_ := Aside0.mk ((by rw [hg]; exact (below_size (by repeat (first | (with_reducible first | exact HB.out | apply below_alloc | apply pw_below_drewN | apply below_drew1) | exact HB.out))) : w.heap.size ≤ gb167)); clear HB; have HB := n0_; have BK167 := n1_; have GW167 := n2_; have GE167 := n3_; clear n0_ n1_ n2_ n3_; clear hb hbox hg))
  (try simp only [Act.put, List.setIfInBounds_toArray, List.set_cons_zero, List.set_cons_succ])
  go_cut [20] (fun v20 wc => ∃ (kq : Nat) (x20_2 : Bool), v20 = .bool x20_2 ∧ Aside0 (spec_DiskRead.j0 kq a1 x20_2 l0_0 l0_1 a0_2 a0_3 = some (r1, r2)) ∧ Aside0 (kq ≤ k) ∧ Aside0 (wc.heap[gb167]? = some (.cells #[(.slice A0_0 l0_0.length c0_0), (.slice A0_1 l0_1.length c0_1), .int .i64 a0_2, .bool a0_3] 25 (0, 0))) ∧ Aside0 (Below w.heap.size w wc))
  case first =>
    have H := HC3.out
    clear HC3
    replace H := Option.bind_eq_some_iff.mp H
    obtain ⟨t168, A50, H⟩ := H
    replace H : (if t168 = true then (if a1 < 0 then (spec_DiskRead.j0 k a1 true l0_0 l0_1 a0_2 a0_3) else (spec_DiskRead.j0 k a1 (decide (a1 ≥ (l0_0.length : Int))) l0_0 l0_1 a0_2 a0_3)) else (spec_DiskRead.j0 k a1 true l0_0 l0_1 a0_2 a0_3)) = some (r1, r2) := H
    have A5 := Aside0.mk A50
    clear A50
    by_cases c6 : t168 = true
    · subst c6
      have H1 : (if a1 < 0 then (spec_DiskRead.j0 k a1 true l0_0 l0_1 a0_2 a0_3) else (spec_DiskRead.j0 k a1 (decide (a1 ≥ (l0_0.length : Int))) l0_0 l0_1 a0_2 a0_3)) = some (r1, r2) := by rw [if_pos rfl] at H; exact H
      clear H
      have H := H1
      clear H1
      by_cases c7 : a1 < 0
      · rw [if_pos c7] at H
        have c7b0 : decide (a1 < 0) = true := decide_eq_true c7
        clear c7
        (first | rw [c7b0] | (simp only [i64_w, i32_w]; rw [c7b0]) | skip)
        have H' := Aside0.mk H
        clear H
        have hcz8_0 : w4.cell? ⟨gb167, 0, none⟩ = some (.slice A0_0 l0_0.length c0_0) := (blk_cell BK167.out 0).trans rfl
        have hcz8_1 : w4.cell? ⟨gb167, 1, none⟩ = some (.slice A0_1 l0_1.length c0_1) := (blk_cell BK167.out 1).trans rfl
        have hcz8_2 : w4.cell? ⟨gb167, 2, none⟩ = some (.int .i64 a0_2) := (blk_cell BK167.out 2).trans rfl
        have hcz8_3 : w4.cell? ⟨gb167, 3, none⟩ = some (.bool a0_3) := (blk_cell BK167.out 3).trans rfl
        have hfz8_0 := blk_frozen BK167.out 0
        have hfz8_1 := blk_frozen BK167.out 1
        have hfz8_2 := blk_frozen BK167.out 2
        have hfz8_3 := blk_frozen BK167.out 3
        go_wp2_with (first | ((with_reducible refine gate_callee (f := 15) rfl ?_); refine goesL_ (some 8) rfl rfl Try.func15 (by kernel_rfl) rfl #[.agg #[.slice A0_0 l0_0.length c0_0, .slice A0_1 l0_1.length c0_1, .int .i64 a0_2, .bool a0_3]] rfl (by (try simp only [List.map_toArray, List.map_cons, List.map_nil]); first | done | rfl | (simp only [List.length_drop, List.length_take]; rfl)) ?_; (with_reducible refine (spec_DiskOk.calls k _ _ l0_0 _ _ l0_1 a0_2 a0_3 true _ ?side1 ?side2 ?side3 ?side4 A5.out).mono ?_); (case side1 => repeat (first | exact (Kd.C_below HR0_0.out HB.out) | (with_reducible refine Kd.C_alloc ?_ _) | (with_reducible refine Kd.C_drewN ?_ _) | (with_reducible refine Kd.C_drew ?_))); (case side2 => exact HC0_0.out); (case side3 => repeat (first | exact (Kd.C_below HR0_1.out HB.out) | (with_reducible refine Kd.C_alloc ?_ _) | (with_reducible refine Kd.C_drewN ?_ _) | (with_reducible refine Kd.C_drew ?_))); (case side4 => exact HC0_1.out); rintro e w9 ⟨rfl, hb⟩; refine ⟨_, rfl, ?_⟩; have n0_ := Aside0.mk (blk_below (g := gb167) (o := .cells #[.slice A0_0 l0_0.length c0_0, .slice A0_1 l0_1.length c0_1, .int .i64 a0_2, .bool a0_3] 25 (0, 0)) (by (with_reducible repeat (first | refine blk_drewN ?_ _ | refine blk_drew ?_ | refine blk_alloc ?_ _)); exact BK167.out) hb); have n1_ := Aside0.mk (below_step (by repeat (first | (with_reducible first | exact HB.out | apply below_alloc | apply pw_below_drewN | apply below_drew1 | refine below_set ?_ GE167.out) | exact HB.out)) hb); clear BK167; clear HB; have BK167 := n0_; have HB := n1_; clear n0_ n1_; (try clear hb); (try clear hb2); (try clear hk); (try clear hi)))
        go_meet
        case rel => exact ⟨_, (true), (by first | rfl | (simp; done) | (simp [*]; done)), H', ⟨by first | omega | exact Nat.le_refl _⟩, ⟨by (with_reducible repeat (first | refine blk_drewN ?_ _ | refine blk_drew ?_ | refine blk_alloc ?_ _)); exact BK167.out⟩, ⟨by repeat (first | (with_reducible first | exact HB.out | apply below_alloc | apply pw_below_drewN | apply below_drew1 | refine below_set ?_ GE167.out) | exact HB.out)⟩⟩
      · rw [if_neg c7] at H
        have c7b0 : decide (a1 < 0) = false := decide_eq_false c7
        clear c7
        (first | rw [c7b0] | (simp only [i64_w, i32_w]; rw [c7b0]) | skip)
        have H' := Aside0.mk H
        clear H
        have hcz10_0 : w4.cell? ⟨gb167, 0, none⟩ = some (.slice A0_0 l0_0.length c0_0) := (blk_cell BK167.out 0).trans rfl
        have hcz10_1 : w4.cell? ⟨gb167, 1, none⟩ = some (.slice A0_1 l0_1.length c0_1) := (blk_cell BK167.out 1).trans rfl
        have hcz10_2 : w4.cell? ⟨gb167, 2, none⟩ = some (.int .i64 a0_2) := (blk_cell BK167.out 2).trans rfl
        have hcz10_3 : w4.cell? ⟨gb167, 3, none⟩ = some (.bool a0_3) := (blk_cell BK167.out 3).trans rfl
        have hfz10_0 := blk_frozen BK167.out 0
        have hfz10_1 := blk_frozen BK167.out 1
        have hfz10_2 := blk_frozen BK167.out 2
        have hfz10_3 := blk_frozen BK167.out 3
        go_wp2_with (first | ((with_reducible refine gate_callee (f := 15) rfl ?_); refine goesL_ (some 8) rfl rfl Try.func15 (by kernel_rfl) rfl #[.agg #[.slice A0_0 l0_0.length c0_0, .slice A0_1 l0_1.length c0_1, .int .i64 a0_2, .bool a0_3]] rfl (by (try simp only [List.map_toArray, List.map_cons, List.map_nil]); first | done | rfl | (simp only [List.length_drop, List.length_take]; rfl)) ?_; (with_reducible refine (spec_DiskOk.calls k _ _ l0_0 _ _ l0_1 a0_2 a0_3 true _ ?side1 ?side2 ?side3 ?side4 A5.out).mono ?_); (case side1 => repeat (first | exact (Kd.C_below HR0_0.out HB.out) | (with_reducible refine Kd.C_alloc ?_ _) | (with_reducible refine Kd.C_drewN ?_ _) | (with_reducible refine Kd.C_drew ?_))); (case side2 => exact HC0_0.out); (case side3 => repeat (first | exact (Kd.C_below HR0_1.out HB.out) | (with_reducible refine Kd.C_alloc ?_ _) | (with_reducible refine Kd.C_drewN ?_ _) | (with_reducible refine Kd.C_drew ?_))); (case side4 => exact HC0_1.out); rintro e w11 ⟨rfl, hb⟩; refine ⟨_, rfl, ?_⟩; have n0_ := Aside0.mk (blk_below (g := gb167) (o := .cells #[.slice A0_0 l0_0.length c0_0, .slice A0_1 l0_1.length c0_1, .int .i64 a0_2, .bool a0_3] 25 (0, 0)) (by (with_reducible repeat (first | refine blk_drewN ?_ _ | refine blk_drew ?_ | refine blk_alloc ?_ _)); exact BK167.out) hb); have n1_ := Aside0.mk (below_step (by repeat (first | (with_reducible first | exact HB.out | apply below_alloc | apply pw_below_drewN | apply below_drew1 | refine below_set ?_ GE167.out) | exact HB.out)) hb); clear BK167; clear HB; have BK167 := n0_; have HB := n1_; clear n0_ n1_; (try clear hb); (try clear hb2); (try clear hk); (try clear hi); have hcz12_0 : w11.cell? ⟨gb167, 0, none⟩ = some (.slice A0_0 l0_0.length c0_0) := (blk_cell BK167.out 0).trans rfl; have hcz12_1 : w11.cell? ⟨gb167, 1, none⟩ = some (.slice A0_1 l0_1.length c0_1) := (blk_cell BK167.out 1).trans rfl; have hcz12_2 : w11.cell? ⟨gb167, 2, none⟩ = some (.int .i64 a0_2) := (blk_cell BK167.out 2).trans rfl; have hcz12_3 : w11.cell? ⟨gb167, 3, none⟩ = some (.bool a0_3) := (blk_cell BK167.out 3).trans rfl; have hfz12_0 := blk_frozen BK167.out 0; have hfz12_1 := blk_frozen BK167.out 1; have hfz12_2 := blk_frozen BK167.out 2; have hfz12_3 := blk_frozen BK167.out 3))
        go_meet
        case rel => exact ⟨_, (decide (a1 ≥ (l0_0.length : Int))), (by first | rfl | (simp; done) | (simp [*]; done)), H', ⟨by first | omega | exact Nat.le_refl _⟩, ⟨by (with_reducible repeat (first | refine blk_drewN ?_ _ | refine blk_drew ?_ | refine blk_alloc ?_ _)); exact BK167.out⟩, ⟨by repeat (first | (with_reducible first | exact HB.out | apply below_alloc | apply pw_below_drewN | apply below_drew1 | refine below_set ?_ GE167.out) | exact HB.out)⟩⟩
    · replace c6 := Bool.eq_false_iff.mpr c6
      subst c6
      have H1 : (spec_DiskRead.j0 k a1 true l0_0 l0_1 a0_2 a0_3) = some (r1, r2) := by rw [if_neg (show ¬ (false = true) by decide)] at H; exact H
      clear H
      have H := H1
      clear H1
      have H' := Aside0.mk H
      clear H
      have hcz13_0 : w4.cell? ⟨gb167, 0, none⟩ = some (.slice A0_0 l0_0.length c0_0) := (blk_cell BK167.out 0).trans rfl
      have hcz13_1 : w4.cell? ⟨gb167, 1, none⟩ = some (.slice A0_1 l0_1.length c0_1) := (blk_cell BK167.out 1).trans rfl
      have hcz13_2 : w4.cell? ⟨gb167, 2, none⟩ = some (.int .i64 a0_2) := (blk_cell BK167.out 2).trans rfl
      have hcz13_3 : w4.cell? ⟨gb167, 3, none⟩ = some (.bool a0_3) := (blk_cell BK167.out 3).trans rfl
      have hfz13_0 := blk_frozen BK167.out 0
      have hfz13_1 := blk_frozen BK167.out 1
      have hfz13_2 := blk_frozen BK167.out 2
      have hfz13_3 := blk_frozen BK167.out 3
      go_wp2_with (first | ((with_reducible refine gate_callee (f := 15) rfl ?_); refine goesL_ (some 8) rfl rfl Try.func15 (by kernel_rfl) rfl #[.agg #[.slice A0_0 l0_0.length c0_0, .slice A0_1 l0_1.length c0_1, .int .i64 a0_2, .bool a0_3]] rfl (by (try simp only [List.map_toArray, List.map_cons, List.map_nil]); first | done | rfl | (simp only [List.length_drop, List.length_take]; rfl)) ?_; (with_reducible refine (spec_DiskOk.calls k _ _ l0_0 _ _ l0_1 a0_2 a0_3 false _ ?side1 ?side2 ?side3 ?side4 A5.out).mono ?_); (case side1 => repeat (first | exact (Kd.C_below HR0_0.out HB.out) | (with_reducible refine Kd.C_alloc ?_ _) | (with_reducible refine Kd.C_drewN ?_ _) | (with_reducible refine Kd.C_drew ?_))); (case side2 => exact HC0_0.out); (case side3 => repeat (first | exact (Kd.C_below HR0_1.out HB.out) | (with_reducible refine Kd.C_alloc ?_ _) | (with_reducible refine Kd.C_drewN ?_ _) | (with_reducible refine Kd.C_drew ?_))); (case side4 => exact HC0_1.out); rintro e w14 ⟨rfl, hb⟩; refine ⟨_, rfl, ?_⟩; have n0_ := Aside0.mk (blk_below (g := gb167) (o := .cells #[.slice A0_0 l0_0.length c0_0, .slice A0_1 l0_1.length c0_1, .int .i64 a0_2, .bool a0_3] 25 (0, 0)) (by (with_reducible repeat (first | refine blk_drewN ?_ _ | refine blk_drew ?_ | refine blk_alloc ?_ _)); exact BK167.out) hb); have n1_ := Aside0.mk (below_step (by repeat (first | (with_reducible first | exact HB.out | apply below_alloc | apply pw_below_drewN | apply below_drew1 | refine below_set ?_ GE167.out) | exact HB.out)) hb); clear BK167; clear HB; have BK167 := n0_; have HB := n1_; clear n0_ n1_; (try clear hb); (try clear hb2); (try clear hk); (try clear hi)))
      go_meet
      case rel => exact ⟨_, (true), (by first | rfl | (simp; done) | (simp [*]; done)), H', ⟨by first | omega | exact Nat.le_refl _⟩, ⟨by (with_reducible repeat (first | refine blk_drewN ?_ _ | refine blk_drew ?_ | refine blk_alloc ?_ _)); exact BK167.out⟩, ⟨by repeat (first | (with_reducible first | exact HB.out | apply below_alloc | apply pw_below_drewN | apply below_drew1 | refine below_set ?_ GE167.out) | exact HB.out)⟩⟩
  case rest =>
    clear HC3
    try clear c1
    try clear p2
    try clear c6
    try clear c7
    try clear c7b0
    try clear hcz10_0
    try clear hcz10_1
    try clear hcz10_2
    try clear hcz10_3
    try clear hcz12_0
    try clear hcz12_1
    try clear hcz12_2
    try clear hcz12_3
    try clear hcz13_0
    try clear hcz13_1
    try clear hcz13_2
    try clear hcz13_3
    try clear hcz8_0
    try clear hcz8_1
    try clear hcz8_2
    try clear hcz8_3
    try clear hfz10_0
    try clear hfz10_1
    try clear hfz10_2
    try clear hfz10_3
    try clear hfz12_0
    try clear hfz12_1
    try clear hfz12_2
    try clear hfz12_3
    try clear hfz13_0
    try clear hfz13_1
    try clear hfz13_2
    try clear hfz13_3
    try clear hfz8_0
    try clear hfz8_1
    try clear hfz8_2
    try clear hfz8_3
    obtain ⟨kq, x20_2, rfl, HA, HJ2, BK167, HB⟩ := hcut
    cases kq with
    | zero => exact absurd HA.out (by simp [spec_DiskRead.j0])
    | succ kj2 =>
      have H := HA.out
      clear HA
      simp only [spec_DiskRead.j0] at H
      by_cases c15 : x20_2 = true
      · subst c15
        have H1 : (some (([] : List Int), false)) = some (r1, r2) := by rw [if_pos rfl] at H; exact H
        clear H
        have H := H1
        clear H1
        simp only [Option.some.injEq, Prod.mk.injEq] at H
        obtain ⟨rfl, rfl⟩ := H
        go_wp2
        go_ret2
        exact ⟨_, by first | rfl | (simp [errW_none, errW_some] <;> rfl) | (simp [*, errW_none, errW_some] <;> rfl), by first | exact Kd.R_nil _ _ _ _ _ | exact Kd.N_nil _ _ _ _ _ | exact Kd.V_nil _ _ _ _ _ | exact Kd.Q_nil _ _ _ _ _ | exact Kd.S_nil _ _ _ _ _, by repeat (first | (with_reducible first | exact HB.out | apply below_alloc | apply pw_below_drewN | apply below_drew1 | refine below_set ?_ GE167.out) | exact HB.out)⟩
      · replace c15 := Bool.eq_false_iff.mpr c15
        subst c15
        have H1 : (spec_DiskRead.l0 kj2 a1 (wrap64 ((l0_1.length : Int) - 1)) l0_0 l0_1 a0_2 a0_3) = some (r1, r2) := by rw [if_neg (show ¬ (false = true) by decide)] at H; exact H
        clear H
        have H := H1
        clear H1
        have H' := Aside0.mk H
        clear H
        have hcz16_0 : wc.cell? ⟨gb167, 0, none⟩ = some (.slice A0_0 l0_0.length c0_0) := (blk_cell BK167.out 0).trans rfl
        have hcz16_1 : wc.cell? ⟨gb167, 1, none⟩ = some (.slice A0_1 l0_1.length c0_1) := (blk_cell BK167.out 1).trans rfl
        have hcz16_2 : wc.cell? ⟨gb167, 2, none⟩ = some (.int .i64 a0_2) := (blk_cell BK167.out 2).trans rfl
        have hcz16_3 : wc.cell? ⟨gb167, 3, none⟩ = some (.bool a0_3) := (blk_cell BK167.out 3).trans rfl
        have hfz16_0 := blk_frozen BK167.out 0
        have hfz16_1 := blk_frozen BK167.out 1
        have hfz16_2 := blk_frozen BK167.out 2
        have hfz16_3 := blk_frozen BK167.out 3
        go_wp2
        go_loopg [6] kj2 (fun kq v6 w' => ∃ (x6_2 : Int), v6 = .int .i64 x6_2 ∧ Aside0 (spec_DiskRead.l0 kq a1 x6_2 l0_0 l0_1 a0_2 a0_3 = some (r1, r2)) ∧ Aside0 (kq ≤ kj2) ∧ Aside0 (w'.heap[gb167]? = some (.cells #[(.slice A0_0 l0_0.length c0_0), (.slice A0_1 l0_1.length c0_1), .int .i64 a0_2, .bool a0_3] 25 (0, 0))) ∧ Aside0 (Below w.heap.size w w'))
        case atStart => exact ⟨(wrap64 ((l0_1.length : Int) - 1)), (by first | rfl | (simp; done) | (simp [*]; done)), H', ⟨Nat.le_refl _⟩, ⟨by (with_reducible repeat (first | refine blk_drewN ?_ _ | refine blk_drew ?_ | refine blk_alloc ?_ _)); exact BK167.out⟩, ⟨by repeat (first | (with_reducible first | exact HB.out | apply below_alloc | apply pw_below_drewN | apply below_drew1 | refine below_set ?_ GE167.out) | exact HB.out)⟩⟩
        case round =>
          clear H'
          try clear c1
          try clear p2
          try clear c6
          try clear p6
          try clear c7
          try clear c7b0
          try clear c15
          try clear hcz10_0
          try clear hcz10_1
          try clear hcz10_2
          try clear hcz10_3
          try clear hcz12_0
          try clear hcz12_1
          try clear hcz12_2
          try clear hcz12_3
          try clear hcz13_0
          try clear hcz13_1
          try clear hcz13_2
          try clear hcz13_3
          try clear hcz16_0
          try clear hcz16_1
          try clear hcz16_2
          try clear hcz16_3
          try clear hcz8_0
          try clear hcz8_1
          try clear hcz8_2
          try clear hcz8_3
          try clear hfz10_0
          try clear hfz10_1
          try clear hfz10_2
          try clear hfz10_3
          try clear hfz12_0
          try clear hfz12_1
          try clear hfz12_2
          try clear hfz12_3
          try clear hfz13_0
          try clear hfz13_1
          try clear hfz13_2
          try clear hfz13_3
          try clear hfz16_0
          try clear hfz16_1
          try clear hfz16_2
          try clear hfz16_3
          try clear hfz8_0
          try clear hfz8_1
          try clear hfz8_2
          try clear hfz8_3
          try clear p2
          obtain ⟨x6_2, rfl, HA, HK2, BK167, HB⟩ := hrel
          cases gk with
          | zero => exact absurd HA.out (by simp [spec_DiskRead.l0])
          | succ k2 =>
            have H := HA.out
            clear HA
            simp only [spec_DiskRead.l0] at H
            by_cases c17 : x6_2 ≥ 0
            · rw [if_pos c17] at H
              have c17b0 : decide (0 ≤ x6_2) = true := decide_eq_true c17
              clear c17
              by_cases c18 : 0 ≤ x6_2
              · rw [if_pos c18] at H
                have c18b0 : decide (0 ≤ x6_2) = true := decide_eq_true c18
                clear c18
                by_cases c19 : x6_2 < (l0_1.length : Int)
                · rw [if_pos c19] at H
                  have c19b0 : decide (x6_2 < (l0_1.length : Int)) = true := decide_eq_true c19
                  clear c19
                  by_cases c20 : ((rd_T68 l0_1 x6_2).f0) = a1
                  · rw [if_pos c20] at H
                    have c20b0 : (((rd_T68 l0_1 x6_2).f0) == a1) = true := beq_iff_eq.mpr c20
                    have c20b1 : (((rd_T68 l0_1 x6_2).f0) != a1) = false := bne_eq_false_iff_eq.mpr c20
                    clear c20
                    obtain ⟨y170, hy170⟩ : ∃ y_ : List Int, y_ = (([] : List Int)) := ⟨_, rfl⟩
                    replace H : (if y170.length + ((rd_T68 l0_1 x6_2).f1).length < 140737488355328 then (some ((y170 ++ ((rd_T68 l0_1 x6_2).f1)), true)) else (none)) = some (r1, r2) := by first | (rw [hy170]; with_reducible exact H) | (have H2_ := (Option.bind_some _ _).symm.trans H; rw [hy170]; with_reducible exact H2_) | (have H2_ := (Option.bind_some _ _).symm.trans H; with_reducible exact H2_) | with_reducible exact H | (rw [hy170]; exact H) | exact H
                    have Ny170 := Aside0.mk hy170
                    clear hy170
                    by_cases c21 : y170.length + ((rd_T68 l0_1 x6_2).f1).length < 140737488355328
                    · rw [if_pos c21] at H
                      have LMc21 := Aside0.mk c21
                      clear c21
                      obtain ⟨y174, hy174⟩ : ∃ y_ : List Int, y_ = (y170 ++ ((rd_T68 l0_1 x6_2).f1)) := ⟨_, rfl⟩
                      replace H : (some (y174, true)) = some (r1, r2) := by first | (rw [hy174]; with_reducible exact H) | (have H2_ := (Option.bind_some _ _).symm.trans H; rw [hy174]; with_reducible exact H2_) | (have H2_ := (Option.bind_some _ _).symm.trans H; with_reducible exact H2_) | with_reducible exact H | (rw [hy174]; exact H) | exact H
                      have Ny174 := Aside0.mk hy174
                      clear hy174
                      simp only [Option.some.injEq, Prod.mk.injEq] at H
                      obtain ⟨rfl, rfl⟩ := H
                      have hcz22_0 : wr.cell? ⟨gb167, 0, none⟩ = some (.slice A0_0 l0_0.length c0_0) := (blk_cell BK167.out 0).trans rfl
                      have hcz22_1 : wr.cell? ⟨gb167, 1, none⟩ = some (.slice A0_1 l0_1.length c0_1) := (blk_cell BK167.out 1).trans rfl
                      have hcz22_2 : wr.cell? ⟨gb167, 2, none⟩ = some (.int .i64 a0_2) := (blk_cell BK167.out 2).trans rfl
                      have hcz22_3 : wr.cell? ⟨gb167, 3, none⟩ = some (.bool a0_3) := (blk_cell BK167.out 3).trans rfl
                      have hfz22_0 := blk_frozen BK167.out 0
                      have hfz22_1 := blk_frozen BK167.out 1
                      have hfz22_2 := blk_frozen BK167.out 2
                      have hfz22_3 := blk_frozen BK167.out 3
                      have p169 : 0 ≤ (x6_2 : Int) := of_decide_eq_true (by first | (with_reducible assumption) | assumption)
                      have q169 : x6_2 < (l0_1.length : Int) := of_decide_eq_true (by first | (with_reducible assumption) | assumption)
                      obtain ⟨ad169, A169_1, c169_1, e169, hx169_0, hx169_1, hl169_1, hi169_1⟩ := at_T68 HR0_1.out x6_2 p169 q169
                      cases e169
                      replace hx169_0 := (HB.out.cell (World.block_lt_of_cell? w _ hx169_0)).trans hx169_0
                      replace hx169_1 := (HB.out.cell (World.block_lt_of_cell? w _ hx169_1)).trans hx169_1
                      have HR169_1 := Aside0.mk hi169_1
                      have HC169_1 := Aside0.mk hl169_1
                      clear hi169_1 hl169_1
                      replace p169 := eq_true p169
                      replace q169 := eq_true q169
                      go_wp2_with (first | ((with_reducible refine gate_dst (N := 37) rfl ?_); (try (refine gate_guard (by rfl) ?_; dsimp only)); refine Kd.R_lit (Kd.int .u8) _ 5 ?hg (N := 37) ?hd (xs := ([] : List Int)) (inner := []) (ok := fun _ => True) (okp := fun _ => True) ?hr ?hp (fun _ hk => hk) trivial (Below.refl _ _) (Nat.le_refl _) (by simp) ?_; (case hd => rfl); (case hg => rfl); (case hr => first | (go_simp; done) | (go_simp; rfl)); (case hp => exact (Reps.none _ _)); intro v171 w23 ho24 hb hg_ hnew_; clear hg_ hnew_; (first | rw [← Ny170.out] at ho24 | (simp only [Int.reduceToNat] at ho24; rw [← Ny170.out] at ho24)); have n0_ := Aside0.mk (Kd.R_lower ho24 (below_size (by repeat (first | (with_reducible first | exact HB.out | apply below_alloc | apply pw_below_drewN | apply below_drew1 | refine below_set ?_ GE167.out) | exact HB.out)))); have n1_ := Aside0.mk (blk_below (g := gb167) (o := .cells #[.slice A0_0 l0_0.length c0_0, .slice (some ad169) l0_1.length c0_1, .int .i64 a0_2, .bool a0_3] 25 (0, 0)) (by (with_reducible repeat (first | refine blk_drewN ?_ _ | refine blk_drew ?_ | refine blk_alloc ?_ _)); exact BK167.out) hb); have n2_ := Aside0.mk (below_step (by repeat (first | (with_reducible first | exact HB.out | apply below_alloc | apply pw_below_drewN | apply below_drew1 | refine below_set ?_ GE167.out) | exact HB.out)) hb); clear BK167; clear HB; have HO172 := n0_; have BK167 := n1_; have HB := n2_; clear n0_ n1_ n2_; clear hb ho24; have hcz25_0 : w23.cell? ⟨gb167, 0, none⟩ = some (.slice A0_0 l0_0.length c0_0) := (blk_cell BK167.out 0).trans rfl; have hcz25_1 : w23.cell? ⟨gb167, 1, none⟩ = some (.slice (some ad169) l0_1.length c0_1) := (blk_cell BK167.out 1).trans rfl; have hcz25_2 : w23.cell? ⟨gb167, 2, none⟩ = some (.int .i64 a0_2) := (blk_cell BK167.out 2).trans rfl; have hcz25_3 : w23.cell? ⟨gb167, 3, none⟩ = some (.bool a0_3) := (blk_cell BK167.out 3).trans rfl; have hfz25_0 := blk_frozen BK167.out 0; have hfz25_1 := blk_frozen BK167.out 1; have hfz25_2 := blk_frozen BK167.out 2; have hfz25_3 := blk_frozen BK167.out 3; have p173 : 0 ≤ (x6_2 : Int) := of_decide_eq_true (by first | (with_reducible assumption) | assumption); have q173 : x6_2 < (l0_1.length : Int) := of_decide_eq_true (by first | (with_reducible assumption) | assumption); obtain ⟨ad173, A173_1, c173_1, e173, hx173_0, hx173_1, hl173_1, hi173_1⟩ := at_T68 HR0_1.out x6_2 p173 q173; obtain rfl : ad169 = ad173 := (by injection e173); replace hx173_0 := (HB.out.cell (World.block_lt_of_cell? w _ hx173_0)).trans hx173_0; replace hx173_1 := (HB.out.cell (World.block_lt_of_cell? w _ hx173_1)).trans hx173_1; have HR173_1 := Aside0.mk hi173_1; have HC173_1 := Aside0.mk hl173_1; clear hi173_1 hl173_1; replace p173 := eq_true p173; replace q173 := eq_true q173) | ((with_reducible refine gate_builtin (b := .append) (xs := #[.tmp 37, .tmp 43]) rfl ?_); (try (refine gate_guard (by rfl) ?_; dsimp only)); at_builtin; refine Kd.R_append_rows (Kd.int .u8) (w0 := w) w.heap.size rfl (.tmp 37) (.tmp 43) 37 5 (.int .u8 0) 1 rfl Try.underlying37 info5 rfl (by decide) (by omega) v171 y170 ((rd_T68 l0_1 x6_2).f1) _ _ _ (fun _ => True) (fun _ => False) rfl rfl ?aO ?aR (fun _ _ h => h) (fun _ h => h.elim) ?aF ?aB ?aS ?aL ?_; (case aR => repeat (first | exact (Kd.C_below HR173_1.out HB.out) | (with_reducible refine Kd.C_alloc ?_ _) | (with_reducible refine Kd.C_drewN ?_ _) | (with_reducible refine Kd.C_drew ?_))); (case aB => exact (by repeat (first | (with_reducible first | exact HB.out | apply below_alloc | apply pw_below_drewN | apply below_drew1 | refine below_set ?_ GE167.out) | exact HB.out))); (case aF => exact (fun _ _ => trivial)); (case aO => exact (by (with_reducible repeat (first | apply Kd.R_alloc | apply Kd.R_drewN | apply Kd.R_drew)); exact HO172.out)); (case aS => exact (below_size (by repeat (first | (with_reducible first | exact HB.out | apply below_alloc | apply pw_below_drewN | apply below_drew1 | refine below_set ?_ GE167.out) | exact HB.out)))); (case aL => have := LMc21.out; omega); intro v175 w26 ho hb hg hat; rw [← Ny174.out] at ho; have n0_ := Aside0.mk (blk_grown (g := gb167) (o := .cells #[.slice A0_0 l0_0.length c0_0, .slice (some ad169) l0_1.length c0_1, .int .i64 a0_2, .bool a0_3] 25 (0, 0)) (by (with_reducible repeat (first | refine blk_drewN ?_ _ | refine blk_drew ?_ | refine blk_alloc ?_ _)); exact BK167.out) hg (Kd.R_ne HO172.out BK167.out (by decide))); have n1_ := Aside0.mk (hb); have n2_ := Aside0.mk (ho); clear BK167; clear HB; clear HO172; have BK167 := n0_; have HB := n1_; have HO176 := n2_; clear n0_ n1_ n2_; clear ho hb hg hat))
                      go_ret2
                      exact ⟨_, by first | rfl | (simp [errW_none, errW_some] <;> rfl) | (simp [*, errW_none, errW_some] <;> rfl), by (with_reducible repeat (first | apply Kd.R_alloc | apply Kd.R_drewN | apply Kd.R_drew)); exact HO176.out, by repeat (first | (with_reducible first | exact HB.out | apply below_alloc | apply pw_below_drewN | apply below_drew1 | refine below_set ?_ GE167.out) | exact HB.out)⟩
                    · rw [if_neg c21] at H
                      exact absurd H (by simp)
                  · rw [if_neg c20] at H
                    have c20b0 : (((rd_T68 l0_1 x6_2).f0) == a1) = false := beq_eq_false_iff_ne.mpr c20
                    have c20b1 : (((rd_T68 l0_1 x6_2).f0) != a1) = true := bne_iff_ne.mpr c20
                    have H' := Aside0.mk H
                    clear H
                    have hcz27_0 : wr.cell? ⟨gb167, 0, none⟩ = some (.slice A0_0 l0_0.length c0_0) := (blk_cell BK167.out 0).trans rfl
                    have hcz27_1 : wr.cell? ⟨gb167, 1, none⟩ = some (.slice A0_1 l0_1.length c0_1) := (blk_cell BK167.out 1).trans rfl
                    have hcz27_2 : wr.cell? ⟨gb167, 2, none⟩ = some (.int .i64 a0_2) := (blk_cell BK167.out 2).trans rfl
                    have hcz27_3 : wr.cell? ⟨gb167, 3, none⟩ = some (.bool a0_3) := (blk_cell BK167.out 3).trans rfl
                    have hfz27_0 := blk_frozen BK167.out 0
                    have hfz27_1 := blk_frozen BK167.out 1
                    have hfz27_2 := blk_frozen BK167.out 2
                    have hfz27_3 := blk_frozen BK167.out 3
                    have p169 : 0 ≤ (x6_2 : Int) := of_decide_eq_true (by first | (with_reducible assumption) | assumption)
                    have q169 : x6_2 < (l0_1.length : Int) := of_decide_eq_true (by first | (with_reducible assumption) | assumption)
                    obtain ⟨ad169, A169_1, c169_1, e169, hx169_0, hx169_1, hl169_1, hi169_1⟩ := at_T68 HR0_1.out x6_2 p169 q169
                    cases e169
                    replace hx169_0 := (HB.out.cell (World.block_lt_of_cell? w _ hx169_0)).trans hx169_0
                    replace hx169_1 := (HB.out.cell (World.block_lt_of_cell? w _ hx169_1)).trans hx169_1
                    have HR169_1 := Aside0.mk hi169_1
                    have HC169_1 := Aside0.mk hl169_1
                    clear hi169_1 hl169_1
                    replace p169 := eq_true p169
                    replace q169 := eq_true q169
                    go_wp2
                    go_roundg k2
                    case measure => have := HJ2.out; have := HK2.out; omega
                    case rel => exact ⟨(wrap64 (x6_2 - 1)), (by first | rfl | (simp; done) | (simp [*]; done)), H', ⟨by have := HJ2.out; have := HK2.out; omega⟩, ⟨by (with_reducible repeat (first | refine blk_drewN ?_ _ | refine blk_drew ?_ | refine blk_alloc ?_ _)); exact BK167.out⟩, ⟨by repeat (first | (with_reducible first | exact HB.out | apply below_alloc | apply pw_below_drewN | apply below_drew1 | refine below_set ?_ GE167.out) | exact HB.out)⟩⟩
                · rw [if_neg c19] at H
                  exact absurd H (by simp)
              · rw [if_neg c18] at H
                exact absurd H (by simp)
            · rw [if_neg c17] at H
              have c17b0 : decide (0 ≤ x6_2) = false := decide_eq_false c17
              clear c17
              obtain ⟨y177, hy177⟩ : ∃ y_ : List Int, y_ = (([] : List Int)) := ⟨_, rfl⟩
              replace H : (if 0 ≤ a1 then (if a1 < (l0_0.length : Int) then (if y177.length + (rd_L1 l0_0 a1).length < 140737488355328 then (some ((y177 ++ (rd_L1 l0_0 a1)), true)) else (none)) else (none)) else (none)) = some (r1, r2) := by first | (rw [hy177]; with_reducible exact H) | (have H2_ := (Option.bind_some _ _).symm.trans H; rw [hy177]; with_reducible exact H2_) | (have H2_ := (Option.bind_some _ _).symm.trans H; with_reducible exact H2_) | with_reducible exact H | (rw [hy177]; exact H) | exact H
              have Ny177 := Aside0.mk hy177
              clear hy177
              by_cases c28 : 0 ≤ a1
              · rw [if_pos c28] at H
                have c28b0 : decide (0 ≤ a1) = true := decide_eq_true c28
                clear c28
                by_cases c29 : a1 < (l0_0.length : Int)
                · rw [if_pos c29] at H
                  have c29b0 : decide (a1 < (l0_0.length : Int)) = true := decide_eq_true c29
                  clear c29
                  by_cases c30 : y177.length + (rd_L1 l0_0 a1).length < 140737488355328
                  · rw [if_pos c30] at H
                    have LMc30 := Aside0.mk c30
                    clear c30
                    obtain ⟨y181, hy181⟩ : ∃ y_ : List Int, y_ = (y177 ++ (rd_L1 l0_0 a1)) := ⟨_, rfl⟩
                    replace H : (some (y181, true)) = some (r1, r2) := by first | (rw [hy181]; with_reducible exact H) | (have H2_ := (Option.bind_some _ _).symm.trans H; rw [hy181]; with_reducible exact H2_) | (have H2_ := (Option.bind_some _ _).symm.trans H; with_reducible exact H2_) | with_reducible exact H | (rw [hy181]; exact H) | exact H
                    have Ny181 := Aside0.mk hy181
                    clear hy181
                    simp only [Option.some.injEq, Prod.mk.injEq] at H
                    obtain ⟨rfl, rfl⟩ := H
                    go_wp2_with (first | ((with_reducible refine gate_dst (N := 45) rfl ?_); (try (refine gate_guard (by rfl) ?_; dsimp only)); refine Kd.R_lit (Kd.int .u8) _ 5 ?hg (N := 45) ?hd (xs := ([] : List Int)) (inner := []) (ok := fun _ => True) (okp := fun _ => True) ?hr ?hp (fun _ hk => hk) trivial (Below.refl _ _) (Nat.le_refl _) (by simp) ?_; (case hd => rfl); (case hg => rfl); (case hr => first | (go_simp; done) | (go_simp; rfl)); (case hp => exact (Reps.none _ _)); intro v178 w31 ho32 hb hg_ hnew_; clear hg_ hnew_; (first | rw [← Ny177.out] at ho32 | (simp only [Int.reduceToNat] at ho32; rw [← Ny177.out] at ho32)); have n0_ := Aside0.mk (Kd.R_lower ho32 (below_size (by repeat (first | (with_reducible first | exact HB.out | apply below_alloc | apply pw_below_drewN | apply below_drew1 | refine below_set ?_ GE167.out) | exact HB.out)))); have n1_ := Aside0.mk (blk_below (g := gb167) (o := .cells #[.slice A0_0 l0_0.length c0_0, .slice A0_1 l0_1.length c0_1, .int .i64 a0_2, .bool a0_3] 25 (0, 0)) (by (with_reducible repeat (first | refine blk_drewN ?_ _ | refine blk_drew ?_ | refine blk_alloc ?_ _)); exact BK167.out) hb); have n2_ := Aside0.mk (below_step (by repeat (first | (with_reducible first | exact HB.out | apply below_alloc | apply pw_below_drewN | apply below_drew1 | refine below_set ?_ GE167.out) | exact HB.out)) hb); clear BK167; clear HB; have HO179 := n0_; have BK167 := n1_; have HB := n2_; clear n0_ n1_ n2_; clear hb ho32; have hcz33_0 : w31.cell? ⟨gb167, 0, none⟩ = some (.slice A0_0 l0_0.length c0_0) := (blk_cell BK167.out 0).trans rfl; have hcz33_1 : w31.cell? ⟨gb167, 1, none⟩ = some (.slice A0_1 l0_1.length c0_1) := (blk_cell BK167.out 1).trans rfl; have hcz33_2 : w31.cell? ⟨gb167, 2, none⟩ = some (.int .i64 a0_2) := (blk_cell BK167.out 2).trans rfl; have hcz33_3 : w31.cell? ⟨gb167, 3, none⟩ = some (.bool a0_3) := (blk_cell BK167.out 3).trans rfl; have hfz33_0 := blk_frozen BK167.out 0; have hfz33_1 := blk_frozen BK167.out 1; have hfz33_2 := blk_frozen BK167.out 2; have hfz33_3 := blk_frozen BK167.out 3; have p180 : 0 ≤ (a1 : Int) := of_decide_eq_true (by first | (with_reducible assumption) | assumption); have q180 : a1 < (l0_0.length : Int) := of_decide_eq_true (by first | (with_reducible assumption) | assumption); obtain ⟨ad180, A180_0, c180_0, e180, hx180_0, hl180_0, hi180_0⟩ := at_L1 HR0_0.out a1 p180 q180; cases e180; replace hx180_0 := (HB.out.cell (World.block_lt_of_cell? w _ hx180_0)).trans hx180_0; have HR180_0 := Aside0.mk hi180_0; have HC180_0 := Aside0.mk hl180_0; clear hi180_0 hl180_0; replace p180 := eq_true p180; replace q180 := eq_true q180) | ((with_reducible refine gate_builtin (b := .append) (xs := #[.tmp 45, .tmp 50]) rfl ?_); (try (refine gate_guard (by rfl) ?_; dsimp only)); at_builtin; refine Kd.R_append_rows (Kd.int .u8) (w0 := w) w.heap.size rfl (.tmp 45) (.tmp 50) 37 5 (.int .u8 0) 1 rfl Try.underlying37 info5 rfl (by decide) (by omega) v178 y177 (rd_L1 l0_0 a1) _ _ _ (fun _ => True) (fun _ => False) rfl rfl ?aO ?aR (fun _ _ h => h) (fun _ h => h.elim) ?aF ?aB ?aS ?aL ?_; (case aR => repeat (first | exact (Kd.C_below HR180_0.out HB.out) | (with_reducible refine Kd.C_alloc ?_ _) | (with_reducible refine Kd.C_drewN ?_ _) | (with_reducible refine Kd.C_drew ?_))); (case aB => exact (by repeat (first | (with_reducible first | exact HB.out | apply below_alloc | apply pw_below_drewN | apply below_drew1 | refine below_set ?_ GE167.out) | exact HB.out))); (case aF => exact (fun _ _ => trivial)); (case aO => exact (by (with_reducible repeat (first | apply Kd.R_alloc | apply Kd.R_drewN | apply Kd.R_drew)); exact HO179.out)); (case aS => exact (below_size (by repeat (first | (with_reducible first | exact HB.out | apply below_alloc | apply pw_below_drewN | apply below_drew1 | refine below_set ?_ GE167.out) | exact HB.out)))); (case aL => have := LMc30.out; omega); intro v182 w34 ho hb hg hat; rw [← Ny181.out] at ho; have n0_ := Aside0.mk (blk_grown (g := gb167) (o := .cells #[.slice (some ad180) l0_0.length c0_0, .slice A0_1 l0_1.length c0_1, .int .i64 a0_2, .bool a0_3] 25 (0, 0)) (by (with_reducible repeat (first | refine blk_drewN ?_ _ | refine blk_drew ?_ | refine blk_alloc ?_ _)); exact BK167.out) hg (Kd.R_ne HO179.out BK167.out (by decide))); have n1_ := Aside0.mk (hb); have n2_ := Aside0.mk (ho); clear BK167; clear HB; clear HO179; have BK167 := n0_; have HB := n1_; have HO183 := n2_; clear n0_ n1_ n2_; clear ho hb hg hat))
                    go_ret2
                    exact ⟨_, by first | rfl | (simp [errW_none, errW_some] <;> rfl) | (simp [*, errW_none, errW_some] <;> rfl), by (with_reducible repeat (first | apply Kd.R_alloc | apply Kd.R_drewN | apply Kd.R_drew)); exact HO183.out, by repeat (first | (with_reducible first | exact HB.out | apply below_alloc | apply pw_below_drewN | apply below_drew1 | refine below_set ?_ GE167.out) | exact HB.out)⟩
                  · rw [if_neg c30] at H
                    exact absurd H (by simp)
                · rw [if_neg c29] at H
                  exact absurd H (by simp)
              · rw [if_neg c28] at H
                exact absurd H (by simp)

/-! ### impl_within: function 35 -/
def impl_within.f (a0 : Int) (a1 : Int) (a2 : Int) : Option (Bool) := if a1 ≤ a0 then (some (decide (a0 ≤ a2))) else (some false)
set_option maxHeartbeats 8000000 in
set_option maxRecDepth 100000 in
theorem impl_within.calls (a0 : Int) (a1 : Int) (a2 : Int) (r : Bool) (w : World) (h : impl_within.f a0 a1 a2 = some r) :
    Calls Try.prog 35 #[.int .i64 a0, .int .i64 a1, .int .i64 a2] w fun e w' => e = .returned (.bool r) ∧ Drawn0 w w' := by
  have H : (if a1 ≤ a0 then (some (decide (a0 ≤ a2))) else (some false)) = some r := h
  clear h
  by_cases c4 : a1 ≤ a0
  · rw [if_pos c4] at H
    have c4b0 : decide (a1 ≤ a0) = true := decide_eq_true c4
    clear c4
    obtain rfl := Option.some.inj H
    go_enter Try.func35, Try.ntmps35
    go_wp2
    go_ret
    exact ⟨by first | rfl | (simp; done) | (simp [*]; done), by repeat (first | exact Drawn0.refl _ | apply Drawn0.step)⟩
  · rw [if_neg c4] at H
    have c4b0 : decide (a1 ≤ a0) = false := decide_eq_false c4
    clear c4
    obtain rfl := Option.some.inj H
    go_enter Try.func35, Try.ntmps35
    go_wp2
    go_ret
    exact ⟨by first | rfl | (simp; done) | (simp [*]; done), by repeat (first | exact Drawn0.refl _ | apply Drawn0.step)⟩

/-! ### impl_DiskOk_1: function 47 -/
def impl_DiskOk_1.f (l0 : List Int) : Option (Bool) := some ((l0.length : Int) == 64)
set_option maxHeartbeats 8000000 in
set_option maxRecDepth 100000 in
theorem impl_DiskOk_1.calls (A0 : Option Addr) (c0 : Nat) (l0 : List Int) (r : Bool) (w : World) (hr0 : Kd.C (Kd.int .u8) w A0 l0.length l0) (hc0 : l0.length ≤ c0) (h : impl_DiskOk_1.f l0 = some r) :
    Calls Try.prog 47 #[.slice A0 l0.length c0] w fun e w' => e = .returned (.bool r) ∧ Drawn0 w w' := by
  have HR0 := Aside0.mk hr0
  have HC0 := Aside0.mk hc0
  clear hr0 hc0
  have H : (some ((l0.length : Int) == 64)) = some r := h
  clear h
  obtain rfl := Option.some.inj H
  go_enter Try.func47, Try.ntmps47
  go_wp2
  go_ret
  exact ⟨by first | rfl | (simp; done) | (simp [*]; done), by repeat (first | exact Drawn0.refl _ | apply Drawn0.step)⟩

/-! ### impl_Disk_isWrite: function 50 -/
def impl_Disk_isWrite.f (l0_0 : List (List Int)) (l0_1 : List (S68)) (a0_2 : Int) (a0_3 : Bool) (a1 : Int) (l2 : List Int) : Option (Bool) := (impl_within.f a1 0 (wrap64 ((l0_0.length : Int) - 1))).bind fun t185 => (if t185 = true then (some ((l2.length : Int) == 64)) else (some false))
set_option maxHeartbeats 8000000 in
set_option maxRecDepth 100000 in
theorem impl_Disk_isWrite.calls (A0_0 : Option Addr) (c0_0 : Nat) (l0_0 : List (List Int)) (A0_1 : Option Addr) (c0_1 : Nat) (l0_1 : List (S68)) (a0_2 : Int) (a0_3 : Bool) (a1 : Int) (A2 : Option Addr) (c2 : Nat) (l2 : List Int) (r : Bool) (w : World) (hr0_0 : Kd.C (Kd.slice 5 (Kd.int .u8)) w A0_0 l0_0.length l0_0) (hc0_0 : l0_0.length ≤ c0_0) (hr0_1 : Kd.C k68 w A0_1 l0_1.length l0_1) (hc0_1 : l0_1.length ≤ c0_1) (hr2 : Kd.C (Kd.int .u8) w A2 l2.length l2) (hc2 : l2.length ≤ c2) (h : impl_Disk_isWrite.f l0_0 l0_1 a0_2 a0_3 a1 l2 = some r) :
    Calls Try.prog 50 #[.agg #[.slice A0_0 l0_0.length c0_0, .slice A0_1 l0_1.length c0_1, .int .i64 a0_2, .bool a0_3], .int .i64 a1, .slice A2 l2.length c2] w fun e w' => e = .returned (.bool r) ∧ Below w.heap.size w w' := by
  have hu25 := Try.underlying25
  have HR0_0 := Aside0.mk hr0_0
  have HC0_0 := Aside0.mk hc0_0
  clear hr0_0 hc0_0
  have HR0_1 := Aside0.mk hr0_1
  have HC0_1 := Aside0.mk hc0_1
  clear hr0_1 hc0_1
  have HR2 := Aside0.mk hr2
  have HC2 := Aside0.mk hc2
  clear hr2 hc2
  have HB := Aside0.mk (Below.refl w.heap.size w)
  have H : ((impl_within.f a1 0 (wrap64 ((l0_0.length : Int) - 1))).bind fun t185 => (if t185 = true then (some ((l2.length : Int) == 64)) else (some false))) = some r := h
  clear h
  replace H := Option.bind_eq_some_iff.mp H
  obtain ⟨t185, A40, H⟩ := H
  replace H : (if t185 = true then (some ((l2.length : Int) == 64)) else (some false)) = some r := H
  have A4 := Aside0.mk A40
  clear A40
  by_cases c5 : t185 = true
  · subst c5
    have H1 : (some ((l2.length : Int) == 64)) = some r := by rw [if_pos rfl] at H; exact H
    clear H
    have H := H1
    clear H1
    obtain rfl := Option.some.inj H
    go_enter Try.func50, Try.ntmps50
    go_wp2_with (first | ((with_reducible refine gate_dst (N := 3) rfl ?_); (try (refine gate_guard (by rfl) ?_; dsimp only)); refine box_event ?hg (N := 3) ?hd (cs := #[.slice A0_0 l0_0.length c0_0, .slice A0_1 l0_1.length c0_1, .int .i64 a0_2, .bool a0_3]) (t := 25) ?hr ?_; (case hd => rfl); (case hg => rfl); (case hr => first | (go_simp; done) | (go_simp; rfl)); intro gb184 hg w6 hbox hb; have n0_ := Aside0.mk (below_step (by repeat (first | (with_reducible first | exact HB.out | apply below_alloc | apply pw_below_drewN | apply below_drew1) | exact HB.out)) hb); have n1_ := Aside0.mk (hbox); have n2_ := Aside0.mk ((by rw [hg]; exact (below_size (by repeat (first | (with_reducible first | exact HB.out | apply below_alloc | apply pw_below_drewN | apply below_drew1) | exact HB.out))) : w.heap.size ≤ gb184)); have n3_ := Aside0.mk ((by rw [hg]; exact (below_size (by repeat (first | (with_reducible first | exact HB.out | apply below_alloc | apply pw_below_drewN | apply below_drew1) | exact HB.out))) : w.heap.size ≤ gb184)); clear HB; have HB := n0_; have BK184 := n1_; have GW184 := n2_; have GE184 := n3_; clear n0_ n1_ n2_ n3_; clear hb hbox hg; have hcz7_0 : w6.cell? ⟨gb184, 0, none⟩ = some (.slice A0_0 l0_0.length c0_0) := (blk_cell BK184.out 0).trans rfl; have hcz7_1 : w6.cell? ⟨gb184, 1, none⟩ = some (.slice A0_1 l0_1.length c0_1) := (blk_cell BK184.out 1).trans rfl; have hcz7_2 : w6.cell? ⟨gb184, 2, none⟩ = some (.int .i64 a0_2) := (blk_cell BK184.out 2).trans rfl; have hcz7_3 : w6.cell? ⟨gb184, 3, none⟩ = some (.bool a0_3) := (blk_cell BK184.out 3).trans rfl; have hfz7_0 := blk_frozen BK184.out 0; have hfz7_1 := blk_frozen BK184.out 1; have hfz7_2 := blk_frozen BK184.out 2; have hfz7_3 := blk_frozen BK184.out 3) | ((with_reducible refine gate_callee (f := 35) rfl ?_); refine goesL_ (some 12) rfl rfl Try.func35 (by kernel_rfl) rfl #[.int .i64 a1, .int .i64 0, .int .i64 (wrap64 ((l0_0.length : Int) - 1))] rfl (by (try simp only [List.map_toArray, List.map_cons, List.map_nil]); first | done | rfl | (simp only [List.length_drop, List.length_take]; rfl)) ?_; (with_reducible refine (impl_within.calls a1 0 (wrap64 ((l0_0.length : Int) - 1)) true _ A4.out).mono ?_); rintro e w' ⟨rfl, ⟨nd, rfl⟩⟩; refine ⟨_, rfl, ?_⟩))
    go_ret
    exact ⟨by first | rfl | (simp [errW_none, errW_some] <;> rfl) | (simp [*, errW_none, errW_some] <;> rfl), by repeat (first | (with_reducible first | exact HB.out | apply below_alloc | apply pw_below_drewN | apply below_drew1 | refine below_set ?_ GE184.out) | exact HB.out)⟩
  · replace c5 := Bool.eq_false_iff.mpr c5
    subst c5
    have H1 : (some false) = some r := by rw [if_neg (show ¬ (false = true) by decide)] at H; exact H
    clear H
    have H := H1
    clear H1
    obtain rfl := Option.some.inj H
    go_enter Try.func50, Try.ntmps50
    go_wp2_with (first | ((with_reducible refine gate_dst (N := 3) rfl ?_); (try (refine gate_guard (by rfl) ?_; dsimp only)); refine box_event ?hg (N := 3) ?hd (cs := #[.slice A0_0 l0_0.length c0_0, .slice A0_1 l0_1.length c0_1, .int .i64 a0_2, .bool a0_3]) (t := 25) ?hr ?_; (case hd => rfl); (case hg => rfl); (case hr => first | (go_simp; done) | (go_simp; rfl)); intro gb184 hg w8 hbox hb; have n0_ := Aside0.mk (below_step (by repeat (first | (with_reducible first | exact HB.out | apply below_alloc | apply pw_below_drewN | apply below_drew1) | exact HB.out)) hb); have n1_ := Aside0.mk (hbox); have n2_ := Aside0.mk ((by rw [hg]; exact (below_size (by repeat (first | (with_reducible first | exact HB.out | apply below_alloc | apply pw_below_drewN | apply below_drew1) | exact HB.out))) : w.heap.size ≤ gb184)); have n3_ := Aside0.mk ((by rw [hg]; exact (below_size (by repeat (first | (with_reducible first | exact HB.out | apply below_alloc | apply pw_below_drewN | apply below_drew1) | exact HB.out))) : w.heap.size ≤ gb184)); clear HB; have HB := n0_; have BK184 := n1_; have GW184 := n2_; have GE184 := n3_; clear n0_ n1_ n2_ n3_; clear hb hbox hg; have hcz9_0 : w8.cell? ⟨gb184, 0, none⟩ = some (.slice A0_0 l0_0.length c0_0) := (blk_cell BK184.out 0).trans rfl; have hcz9_1 : w8.cell? ⟨gb184, 1, none⟩ = some (.slice A0_1 l0_1.length c0_1) := (blk_cell BK184.out 1).trans rfl; have hcz9_2 : w8.cell? ⟨gb184, 2, none⟩ = some (.int .i64 a0_2) := (blk_cell BK184.out 2).trans rfl; have hcz9_3 : w8.cell? ⟨gb184, 3, none⟩ = some (.bool a0_3) := (blk_cell BK184.out 3).trans rfl; have hfz9_0 := blk_frozen BK184.out 0; have hfz9_1 := blk_frozen BK184.out 1; have hfz9_2 := blk_frozen BK184.out 2; have hfz9_3 := blk_frozen BK184.out 3) | ((with_reducible refine gate_callee (f := 35) rfl ?_); refine goesL_ (some 12) rfl rfl Try.func35 (by kernel_rfl) rfl #[.int .i64 a1, .int .i64 0, .int .i64 (wrap64 ((l0_0.length : Int) - 1))] rfl (by (try simp only [List.map_toArray, List.map_cons, List.map_nil]); first | done | rfl | (simp only [List.length_drop, List.length_take]; rfl)) ?_; (with_reducible refine (impl_within.calls a1 0 (wrap64 ((l0_0.length : Int) - 1)) false _ A4.out).mono ?_); rintro e w' ⟨rfl, ⟨nd, rfl⟩⟩; refine ⟨_, rfl, ?_⟩))
    go_ret
    exact ⟨by first | rfl | (simp [errW_none, errW_some] <;> rfl) | (simp [*, errW_none, errW_some] <;> rfl), by repeat (first | (with_reducible first | exact HB.out | apply below_alloc | apply pw_below_drewN | apply below_drew1 | refine below_set ?_ GE184.out) | exact HB.out)⟩

-- NOT PRINTED: function 49 (impl_DiskOk_2)

-- NOT PRINTED: function 63 (impl_areAll_byte_1)

-- NOT PRINTED: function 67 (slices_IndexFunc_byte_byte)

-- NOT PRINTED: function 62 (slices_ContainsFunc_byte_byte)

/-! ### impl_areAll_byte: function 46 -/
/-- the first element of which p is true, from place i on, or -1 -/
def idxB {α : Type} (p : α → Bool) : List α → Nat → Int
  | [], _ => -1
  | x :: xs, i => if p x = true then (i : Int) else idxB p xs (i + 1)
theorem idxB_end {α : Type} (p : α → Bool) (l : List α) (i : Nat) (h : l.length ≤ i) : idxB p (l.drop i) i = -1 := by
  rw [List.drop_eq_nil_of_le h, idxB]
theorem idxB_step {α : Type} (p : α → Bool) (l : List α) (i : Nat) (h : i < l.length) : idxB p (l.drop i) i = if p (l[i]) = true then (i : Int) else idxB p (l.drop (i + 1)) (i + 1) := by
  rw [List.drop_eq_getElem_cons h, idxB]
theorem idxB_any {α : Type} (p : α → Bool) (l : List α) : ∀ i, decide (0 ≤ idxB p l i) = l.any p := by
  induction l with
  | nil => intro i; rfl
  | cons x l ih =>
    intro i
    rw [idxB, List.any_cons]
    cases hp : p x with
    | true => rw [if_pos rfl]; simp
    | false => rw [if_neg Bool.false_ne_true, ih]; simp
theorem areAllB1 (B : Nat) (w : World) (hB : w.cell? ⟨B, 0, none⟩ = some (.func (.func 47) #[] #[])) (A : Option Addr) (c : Nat) (l : List Int) :
    Calls Try.prog 63 #[.slice A l.length c, .pointer (some ⟨B, 0, none⟩)] w fun e w' => e = .returned (.bool (!((l.length : Int) == 64))) ∧ Drawn0 w w' := by
  go_enter Try.func63, Try.ntmps63
  go_wp2
  go_ret
  exact ⟨rfl, by repeat (first | exact Drawn0.refl _ | apply Drawn0.step)⟩
theorem idxFuncB (B : Nat) (w : World) (hB : w.cell? ⟨B, 0, none⟩ = some (.func (.func 47) #[] #[])) (A0 : Option Addr) (c0 : Nat) (l0 : List (List Int)) (hr0 : Kd.C (Kd.slice 5 (Kd.int .u8)) w A0 l0.length l0) (hlen : l0.length ≤ 9223372036854775807) :
    Calls Try.prog 67 #[.slice A0 l0.length c0, .func (.func 63) #[] #[.pointer (some ⟨B, 0, none⟩)]] w fun e w' => e = .returned (.int .i64 (idxB (fun x => !((x.length : Int) == 64)) l0 0)) ∧ Drawn0 w w' := by
  have HR0 := Aside0.mk hr0
  have hB2 := Aside0.mk hB
  clear hr0 hB
  go_enter Try.func67, Try.ntmps67
  go_wp2
  go_loopw [8] (fun v8 wr => ∃ (i : Nat), v8 = .int .i64 (i : Int) ∧ Aside0 (i ≤ l0.length ∧ idxB (fun x => !((x.length : Int) == 64)) l0 0 = idxB (fun x => !((x.length : Int) == 64)) (l0.drop i) i) ∧ Drawn0 w wr) (fun v _ => l0.length - (intOf v).toNat)
  case atStart => exact ⟨0, rfl, ⟨by omega, rfl⟩, by repeat (first | exact Drawn0.refl _ | apply Drawn0.step)⟩
  case round =>
    obtain ⟨i, rfl, ⟨hi, hx⟩, ⟨m1, rfl⟩⟩ := hrel
    by_cases hlt : i < l0.length
    · have c1 : decide ((i : Int) < (l0.length : Int)) = true := decide_eq_true (by omega)
      obtain ⟨ad, A1, c1', e, hx1, hl1, hi1⟩ := at_L1 HR0.out (i : Int) (by omega) (by omega)
      cases e
      have hrd : rd_L1 l0 (i : Int) = l0[i] := by simp [rd_L1, List.getD_eq_getElem?_getD, List.getElem?_eq_getElem hlt]
      rw [hrd, Int.toNat_natCast] at hx1
      rw [hrd] at hl1 hi1
      rw [idxB_step _ _ _ hlt] at hx
      have p1 : 0 ≤ (i : Int) := by omega
      cases hp : (!(((l0[i]).length : Int) == 64)) with
      | true =>
        rw [if_pos hp] at hx
        go_wp2_with (first | (go_at_call 63; (with_reducible refine (areAllB1 B _ (by first | exact hB2.out | (simpa using hB2.out)) _ _ (l0[i])).mono ?_); rintro e w' ⟨rfl, ⟨nd, rfl⟩⟩; rw [hp]))
        go_ret
        exact ⟨by rw [hx]; rfl, by repeat (first | exact Drawn0.refl _ | apply Drawn0.step)⟩
      | false =>
        rw [if_neg (by rw [hp]; exact Bool.false_ne_true)] at hx
        go_wp2_with (first | (go_at_call 63; (with_reducible refine (areAllB1 B _ (by first | exact hB2.out | (simpa using hB2.out)) _ _ (l0[i])).mono ?_); rintro e w' ⟨rfl, ⟨nd, rfl⟩⟩; rw [hp]))
        go_roundw
        case measure => simp [intOf]; omega
        case rel => exact ⟨i + 1, by rw [Int.natCast_add]; rfl, ⟨by omega, hx⟩, by repeat (first | exact Drawn0.refl _ | apply Drawn0.step)⟩
    · have c1 : decide ((i : Int) < (l0.length : Int)) = false := decide_eq_false (by omega)
      rw [idxB_end _ _ _ (by omega)] at hx
      go_wp2
      go_ret
      exact ⟨by rw [hx]; rfl, by repeat (first | exact Drawn0.refl _ | apply Drawn0.step)⟩
def impl_areAll_byte.f (l0 : List (List Int)) : Option (Bool) := if l0.length ≤ 9223372036854775807 then some (!(l0.any fun x => !((x.length : Int) == 64))) else none
set_option maxHeartbeats 8000000 in
set_option maxRecDepth 100000 in
theorem impl_areAll_byte.calls (A0 : Option Addr) (c0 : Nat) (l0 : List (List Int)) (r : Bool) (w : World) (hr0 : Kd.C (Kd.slice 5 (Kd.int .u8)) w A0 l0.length l0) (hc0 : l0.length ≤ c0) (h : impl_areAll_byte.f l0 = some r) :
    Calls Try.prog 46 #[.slice A0 l0.length c0, .func (.func 47) #[] #[]] w fun e w' => e = .returned (.bool r) ∧ Below w.heap.size w w' := by
  have HR0 := Aside0.mk hr0
  clear hr0
  unfold impl_areAll_byte.f at h
  by_cases hlen : l0.length ≤ 9223372036854775807
  · rw [if_pos hlen] at h
    obtain rfl := Option.some.inj h
    clear h
    have hany := idxB_any (fun x : List Int => !((x.length : Int) == 64)) l0 0
    go_enter Try.func46, Try.ntmps46
    go_wp2_with (first | (go_at_call 67; (with_reducible refine (idxFuncB w.heap.size _ (by simp) A0 c0 l0 (Kd.C_below HR0.out (by repeat (first | exact Below.refl _ _ | apply below_alloc | apply pw_below_drewN | apply below_drew1))) hlen).mono ?_); rintro e w' ⟨rfl, ⟨nd, rfl⟩⟩) | go_in)
    go_ret
    exact ⟨by rw [← hany]; rfl, by repeat (first | exact Below.refl _ _ | apply below_alloc | apply pw_below_drewN | apply below_drew1)⟩
  · rw [if_neg hlen] at h
    cases h

-- NOT PRINTED: function 65 (impl_Write_1)

-- NOT PRINTED: function 68 (impl_Write_68)

-- NOT PRINTED: function 64 (impl_Write_64)

/-! ### impl_Write_48: function 48 -/
def isW (n at_ : Int) (x : List Int) : Bool := decide (0 ≤ at_ ∧ at_ ≤ n - 1) && ((x.length : Int) == 64)
theorem isWrite_f (l1 : List (List Int)) (l2 : List S68) (f : Int) (d : Bool) (at_ : Int) (x : List Int) (h : l1.length ≤ 512) : impl_Disk_isWrite.f l1 l2 f d at_ x = some (isW l1.length at_ x) := by
  unfold impl_Disk_isWrite.f impl_within.f isW
  have hw : wrap64 ((l1.length : Int) - 1) = (l1.length : Int) - 1 := by unfold wrap64; omega
  rw [hw]
  by_cases h0 : 0 ≤ at_
  · rw [if_pos h0, Option.bind_some]
    by_cases h1 : at_ ≤ (l1.length : Int) - 1
    · rw [if_pos (decide_eq_true h1), decide_eq_true ⟨h0, h1⟩]; rfl
    · rw [if_neg (by simpa using h1), decide_eq_false (fun hh => h1 hh.2)]; rfl
  · rw [if_neg h0, Option.bind_some, if_neg Bool.false_ne_true, decide_eq_false (fun hh => h0 hh.1)]; rfl
theorem pred49 (g : Nat) (A1 : Option Addr) (c1 : Nat) (l1 : List (List Int)) (A2 : Option Addr) (c2 : Nat) (l2 : List S68) (f : Int) (d : Bool) (hl1 : l1.length ≤ 512) (W : World)
    (hc0 : W.cell? ⟨g, 0, none⟩ = some (.slice A1 l1.length c1)) (hc1 : W.cell? ⟨g, 1, none⟩ = some (.slice A2 l2.length c2)) (hc2 : W.cell? ⟨g, 2, none⟩ = some (.int .i64 f)) (hc3 : W.cell? ⟨g, 3, none⟩ = some (.bool d))
    (hr1 : Kd.C (Kd.slice 5 (Kd.int .u8)) W A1 l1.length l1) (hk1 : l1.length ≤ c1) (hr2 : Kd.C k68 W A2 l2.length l2) (hk2 : l2.length ≤ c2)
    (at_ : Int) (A : Option Addr) (c : Nat) (x : List Int) (hr : Kd.C (Kd.int .u8) W A x.length x) (hk : x.length ≤ c) :
    Calls Try.prog 49 #[.agg #[.int .i64 at_, .slice A x.length c], .pointer (some ⟨g, 0, none⟩)] W fun e w' => e = .returned (.bool (isW l1.length at_ x)) ∧ Below W.heap.size W w' := by
  have hu25 := Try.underlying25
  have hu68 := Try.underlying68
  have HR1 := Aside0.mk hr1
  have HR2 := Aside0.mk hr2
  have HR := Aside0.mk hr
  clear hr1 hr2 hr
  have b1 : Below W.heap.size W (W.alloc (.cells #[.int .i64 at_, .slice A x.length c] 68)) := below_alloc (Below.refl _ W) _
  have e0 := (b1.cell (World.block_lt_of_cell? W _ hc0)).trans hc0
  have e1 := (b1.cell (World.block_lt_of_cell? W _ hc1)).trans hc1
  have e2 := (b1.cell (World.block_lt_of_cell? W _ hc2)).trans hc2
  have e3 := (b1.cell (World.block_lt_of_cell? W _ hc3)).trans hc3
  have B1 := Aside0.mk b1
  clear b1 hc0 hc1 hc2 hc3
  go_enter Try.func49, Try.ntmps49
  go_wp2_with (first | (go_at_call 50; (with_reducible refine (impl_Disk_isWrite.calls _ _ l1 _ _ l2 f d at_ _ _ x _ _ ?s1 hk1 ?s2 hk2 ?s3 hk (isWrite_f l1 l2 f d at_ x hl1)).mono ?_); (case s1 => exact Kd.C_below HR1.out B1.out); (case s2 => exact Kd.C_below HR2.out B1.out); (case s3 => exact Kd.C_below HR.out B1.out); rintro e w' ⟨rfl, hb⟩))
  go_ret
  exact ⟨rfl, below_step B1.out hb⟩
theorem pred65 (g B : Nat) (A1 : Option Addr) (c1 : Nat) (l1 : List (List Int)) (A2 : Option Addr) (c2 : Nat) (l2 : List S68) (f : Int) (d : Bool) (hl1 : l1.length ≤ 512) (W : World)
    (hB : W.cell? ⟨B, 0, none⟩ = some (.func (.func 49) #[] #[.pointer (some ⟨g, 0, none⟩)]))
    (hc0 : W.cell? ⟨g, 0, none⟩ = some (.slice A1 l1.length c1)) (hc1 : W.cell? ⟨g, 1, none⟩ = some (.slice A2 l2.length c2)) (hc2 : W.cell? ⟨g, 2, none⟩ = some (.int .i64 f)) (hc3 : W.cell? ⟨g, 3, none⟩ = some (.bool d))
    (hr1 : Kd.C (Kd.slice 5 (Kd.int .u8)) W A1 l1.length l1) (hk1 : l1.length ≤ c1) (hr2 : Kd.C k68 W A2 l2.length l2) (hk2 : l2.length ≤ c2)
    (at_ : Int) (A : Option Addr) (c : Nat) (x : List Int) (hr : Kd.C (Kd.int .u8) W A x.length x) (hk : x.length ≤ c) :
    Calls Try.prog 65 #[.agg #[.int .i64 at_, .slice A x.length c], .pointer (some ⟨B, 0, none⟩)] W fun e w' => e = .returned (.bool (!(isW l1.length at_ x))) ∧ Below W.heap.size W w' := by
  have hu68 := Try.underlying68
  have b1 : Below W.heap.size W (W.alloc (.cells #[.int .i64 at_, .slice A x.length c] 68)) := below_alloc (Below.refl _ W) _
  have eB := (b1.cell (World.block_lt_of_cell? W _ hB)).trans hB
  have e0 := (b1.cell (World.block_lt_of_cell? W _ hc0)).trans hc0
  have e1 := (b1.cell (World.block_lt_of_cell? W _ hc1)).trans hc1
  have e2 := (b1.cell (World.block_lt_of_cell? W _ hc2)).trans hc2
  have e3 := (b1.cell (World.block_lt_of_cell? W _ hc3)).trans hc3
  have P := Aside0.mk (pred49 g A1 c1 l1 A2 c2 l2 f d hl1 _ e0 e1 e2 e3 (Kd.C_below hr1 b1) hk1 (Kd.C_below hr2 b1) hk2 at_ A c x (Kd.C_below hr b1) hk)
  have B1 := Aside0.mk b1
  clear b1 hc0 hc1 hc2 hc3 e0 e1 e2 e3 hr1 hr2 hr hB
  go_enter Try.func65, Try.ntmps65
  go_wp2_with (first | (go_at_call 49; refine P.out.mono ?_; rintro e w' ⟨rfl, hb⟩))
  go_ret
  exact ⟨rfl, below_step B1.out hb⟩
theorem idxFuncW (g B : Nat) (A1 : Option Addr) (c1 : Nat) (l1 : List (List Int)) (A2 : Option Addr) (c2 : Nat) (f : Int) (d : Bool) (hl1 : l1.length ≤ 512) (w : World) (A0 : Option Addr) (c0 : Nat) (l0 : List S68)
    (hB : w.cell? ⟨B, 0, none⟩ = some (.func (.func 49) #[] #[.pointer (some ⟨g, 0, none⟩)]))
    (hc0 : w.cell? ⟨g, 0, none⟩ = some (.slice A1 l1.length c1)) (hc1 : w.cell? ⟨g, 1, none⟩ = some (.slice A2 l0.length c2)) (hc2 : w.cell? ⟨g, 2, none⟩ = some (.int .i64 f)) (hc3 : w.cell? ⟨g, 3, none⟩ = some (.bool d))
    (hr1 : Kd.C (Kd.slice 5 (Kd.int .u8)) w A1 l1.length l1) (hk1 : l1.length ≤ c1) (hr2 : Kd.C k68 w A2 l0.length l0) (hk2 : l0.length ≤ c2)
    (hr0 : Kd.C k68 w A0 l0.length l0) (hlen : l0.length ≤ 600) :
    Calls Try.prog 68 #[.slice A0 l0.length c0, .func (.func 65) #[] #[.pointer (some ⟨B, 0, none⟩)]] w fun e w' => e = .returned (.int .i64 (idxB (fun x => !(isW l1.length x.f0 x.f1)) l0 0)) ∧ Below w.heap.size w w' := by
  have hu68 := Try.underlying68
  have HR0 := Aside0.mk hr0
  have P := Aside0.mk (fun (W : World) (b : Below w.heap.size w W) => pred65 g B A1 c1 l1 A2 c2 l0 f d hl1 W ((b.cell (World.block_lt_of_cell? w _ hB)).trans hB) ((b.cell (World.block_lt_of_cell? w _ hc0)).trans hc0) ((b.cell (World.block_lt_of_cell? w _ hc1)).trans hc1) ((b.cell (World.block_lt_of_cell? w _ hc2)).trans hc2) ((b.cell (World.block_lt_of_cell? w _ hc3)).trans hc3) (Kd.C_below hr1 b) hk1 (Kd.C_below hr2 b) hk2)
  clear hr0 hr1 hr2 hB hc0 hc1 hc2 hc3
  go_enter Try.func68, Try.ntmps68
  go_wp2
  go_loopw [8] (fun v8 wr => ∃ (i : Nat), v8 = .int .i64 (i : Int) ∧ Aside0 (i ≤ l0.length ∧ idxB (fun x => !(isW l1.length x.f0 x.f1)) l0 0 = idxB (fun x => !(isW l1.length x.f0 x.f1)) (l0.drop i) i) ∧ Aside0 (Below w.heap.size w wr)) (fun v _ => l0.length - (intOf v).toNat)
  case atStart => exact ⟨0, rfl, ⟨by omega, rfl⟩, ⟨by repeat (first | exact Below.refl _ _ | apply below_alloc | apply pw_below_drewN | apply below_drew1)⟩⟩
  case round =>
    obtain ⟨i, rfl, ⟨hi, hx⟩, HB⟩ := hrel
    by_cases hlt : i < l0.length
    · have cc : decide ((i : Int) < (l0.length : Int)) = true := decide_eq_true (by omega)
      obtain ⟨ad, A3, c3, e, hx0, hx1, hl1', hi1⟩ := at_T68 HR0.out (i : Int) (by omega) (by omega)
      cases e
      have hrd : rd_T68 l0 (i : Int) = l0[i] := by simp [rd_T68, List.getD_eq_getElem?_getD, List.getElem?_eq_getElem hlt]
      rw [hrd, Int.toNat_natCast] at hx0 hx1
      rw [hrd] at hl1' hi1
      replace hx0 := (HB.out.cell (World.block_lt_of_cell? w _ hx0)).trans hx0
      replace hx1 := (HB.out.cell (World.block_lt_of_cell? w _ hx1)).trans hx1
      have HI := Aside0.mk hi1
      clear hi1
      rw [idxB_step _ _ _ hlt] at hx
      have p1 : 0 ≤ (i : Int) := by omega
      cases hp : (!(isW l1.length (l0[i]).f0 (l0[i]).f1)) with
      | true =>
        rw [if_pos hp] at hx
        go_wp2_with (first | (go_at_call 65; (with_reducible refine (P.out _ (by repeat (first | exact HB.out | apply below_alloc | apply pw_below_drewN | apply below_drew1)) (l0[i]).f0 _ _ (l0[i]).f1 ?s1 hl1').mono ?_); (case s1 => exact Kd.C_below HI.out (by repeat (first | exact HB.out | apply below_alloc | apply pw_below_drewN | apply below_drew1))); rintro e w' ⟨rfl, hb⟩; rw [hp]; have HB2 := Aside0.mk (below_step (by repeat (first | exact HB.out | apply below_alloc | apply pw_below_drewN | apply below_drew1)) hb); clear hb))
        go_ret
        exact ⟨by rw [hx]; rfl, by repeat (first | exact HB2.out | apply below_alloc | apply pw_below_drewN | apply below_drew1)⟩
      | false =>
        rw [if_neg (by rw [hp]; exact Bool.false_ne_true)] at hx
        go_wp2_with (first | (go_at_call 65; (with_reducible refine (P.out _ (by repeat (first | exact HB.out | apply below_alloc | apply pw_below_drewN | apply below_drew1)) (l0[i]).f0 _ _ (l0[i]).f1 ?s1 hl1').mono ?_); (case s1 => exact Kd.C_below HI.out (by repeat (first | exact HB.out | apply below_alloc | apply pw_below_drewN | apply below_drew1))); rintro e w' ⟨rfl, hb⟩; rw [hp]; have HB2 := Aside0.mk (below_step (by repeat (first | exact HB.out | apply below_alloc | apply pw_below_drewN | apply below_drew1)) hb); clear hb))
        go_roundw
        case measure => simp [intOf]; omega
        case rel => exact ⟨i + 1, by rw [Int.natCast_add]; rfl, ⟨by omega, hx⟩, ⟨by repeat (first | exact HB2.out | apply below_alloc | apply pw_below_drewN | apply below_drew1)⟩⟩
    · have cc : decide ((i : Int) < (l0.length : Int)) = false := decide_eq_false (by omega)
      rw [idxB_end _ _ _ (by omega)] at hx
      go_wp2
      go_ret
      exact ⟨by rw [hx]; rfl, by repeat (first | exact HB.out | apply below_alloc | apply pw_below_drewN | apply below_drew1)⟩
def impl_Write_48.f (l0 : List (S68)) (a1 : Int) : Option (Bool) := if l0.length ≤ 600 ∧ a1 ≤ 512 then some (!(l0.any fun x => !(isW a1 x.f0 x.f1))) else none
set_option maxHeartbeats 8000000 in
set_option maxRecDepth 100000 in
theorem impl_Write_48.calls (A0 : Option Addr) (c0 : Nat) (l0 : List (S68)) (a1 : Int) (r : Bool) (w : World) (hr0 : Kd.C k68 w A0 l0.length l0) (hc0 : l0.length ≤ c0) (h : impl_Write_48.f l0 a1 = some r)
    {g : Nat} {A1 : Option Addr} {c1 : Nat} {l1 : List (List Int)} {c2 : Nat} {f : Int} {d : Bool} (hg : w.heap[g]? = some (.cells #[.slice A1 l1.length c1, .slice A0 l0.length c2, .int .i64 f, .bool d] 25 (0, 0)))
    (hr1 : Kd.C (Kd.slice 5 (Kd.int .u8)) w A1 l1.length l1) (hk1 : l1.length ≤ c1) (hk2 : l0.length ≤ c2) (hn : a1 = l1.length) :
    Calls Try.prog 48 #[.slice A0 l0.length c0, .func (.func 49) #[] #[.pointer (some ⟨g, 0, none⟩)]] w fun e w' => e = .returned (.bool r) ∧ Below w.heap.size w w' := by
  subst hn
  unfold impl_Write_48.f at h
  by_cases hlen : l0.length ≤ 600 ∧ (l1.length : Int) ≤ 512
  · rw [if_pos hlen] at h
    obtain rfl := Option.some.inj h
    clear h
    have hany := idxB_any (fun x : S68 => !(isW l1.length x.f0 x.f1)) l0 0
    have b1 : Below w.heap.size w (w.alloc (.cells #[.func (.func 49) #[] #[.pointer (some ⟨g, 0, none⟩)]] 75)) := below_alloc (Below.refl _ w) _
    have hc0' : w.cell? ⟨g, 0, none⟩ = some (.slice A1 l1.length c1) := (blk_cell hg 0).trans rfl
    have hc1' : w.cell? ⟨g, 1, none⟩ = some (.slice A0 l0.length c2) := (blk_cell hg 1).trans rfl
    have hc2' : w.cell? ⟨g, 2, none⟩ = some (.int .i64 f) := (blk_cell hg 2).trans rfl
    have hc3' : w.cell? ⟨g, 3, none⟩ = some (.bool d) := (blk_cell hg 3).trans rfl
    have P := Aside0.mk (fun (W : World) (b : Below w.heap.size w W) (hB : W.cell? ⟨w.heap.size, 0, none⟩ = some (.func (.func 49) #[] #[.pointer (some ⟨g, 0, none⟩)])) => idxFuncW g w.heap.size A1 c1 l1 A0 c2 f d (by omega) W A0 c0 l0 hB ((b.cell (World.block_lt_of_cell? w _ hc0')).trans hc0') ((b.cell (World.block_lt_of_cell? w _ hc1')).trans hc1') ((b.cell (World.block_lt_of_cell? w _ hc2')).trans hc2') ((b.cell (World.block_lt_of_cell? w _ hc3')).trans hc3') (Kd.C_below hr1 b) hk1 (Kd.C_below hr0 b) hk2 (Kd.C_below hr0 b) hlen.1)
    have B1 := Aside0.mk b1
    clear b1 hr0 hr1 hc0' hc1' hc2' hc3' hg
    go_enter Try.func48, Try.ntmps48
    go_wp2_with (first | (go_at_call 68; (with_reducible refine (P.out _ (by repeat (first | exact B1.out | apply below_alloc | apply pw_below_drewN | apply below_drew1)) (by simp)).mono ?_); rintro e w' ⟨rfl, hb⟩; have HB2 := Aside0.mk (below_step (by repeat (first | exact B1.out | apply below_alloc | apply pw_below_drewN | apply below_drew1)) hb); clear hb) | go_in)
    go_ret
    exact ⟨by rw [← hany]; rfl, by repeat (first | exact HB2.out | apply below_alloc | apply pw_below_drewN | apply below_drew1)⟩
  · rw [if_neg hlen] at h
    cases h

/-! ### impl_DiskOk: function 17 -/
def impl_DiskOk.f (l0_0 : List (List Int)) (l0_1 : List (S68)) (a0_2 : Int) (a0_3 : Bool) : Option (Bool) := (impl_within.f (l0_0.length : Int) 1 512).bind fun t195 => (if t195 = true then (if (l0_1.length : Int) ≤ 600 then (if a0_2 ≥ (-1) then ((impl_areAll_byte.f l0_0).bind fun t196 => (if t196 = true then ((impl_Write_48.f l0_1 (l0_0.length : Int)).bind fun t197 => (some t197)) else (some false))) else (some false)) else (some false)) else (some false))
set_option maxHeartbeats 8000000 in
set_option maxRecDepth 100000 in
theorem impl_DiskOk.calls (A0_0 : Option Addr) (c0_0 : Nat) (l0_0 : List (List Int)) (A0_1 : Option Addr) (c0_1 : Nat) (l0_1 : List (S68)) (a0_2 : Int) (a0_3 : Bool) (r : Bool) (w : World) (hr0_0 : Kd.C (Kd.slice 5 (Kd.int .u8)) w A0_0 l0_0.length l0_0) (hc0_0 : l0_0.length ≤ c0_0) (hr0_1 : Kd.C k68 w A0_1 l0_1.length l0_1) (hc0_1 : l0_1.length ≤ c0_1) (h : impl_DiskOk.f l0_0 l0_1 a0_2 a0_3 = some r) :
    Calls Try.prog 17 #[.agg #[.slice A0_0 l0_0.length c0_0, .slice A0_1 l0_1.length c0_1, .int .i64 a0_2, .bool a0_3]] w fun e w' => e = .returned (.bool r) ∧ Below w.heap.size w w' := by
  have hu25 := Try.underlying25
  have HR0_0 := Aside0.mk hr0_0
  have HC0_0 := Aside0.mk hc0_0
  clear hr0_0 hc0_0
  have HR0_1 := Aside0.mk hr0_1
  have HC0_1 := Aside0.mk hc0_1
  clear hr0_1 hc0_1
  have HB := Aside0.mk (Below.refl w.heap.size w)
  have H : ((impl_within.f (l0_0.length : Int) 1 512).bind fun t195 => (if t195 = true then (if (l0_1.length : Int) ≤ 600 then (if a0_2 ≥ (-1) then ((impl_areAll_byte.f l0_0).bind fun t196 => (if t196 = true then ((impl_Write_48.f l0_1 (l0_0.length : Int)).bind fun t197 => (some t197)) else (some false))) else (some false)) else (some false)) else (some false))) = some r := h
  clear h
  replace H := Option.bind_eq_some_iff.mp H
  obtain ⟨t195, A20, H⟩ := H
  replace H : (if t195 = true then (if (l0_1.length : Int) ≤ 600 then (if a0_2 ≥ (-1) then ((impl_areAll_byte.f l0_0).bind fun t196 => (if t196 = true then ((impl_Write_48.f l0_1 (l0_0.length : Int)).bind fun t197 => (some t197)) else (some false))) else (some false)) else (some false)) else (some false)) = some r := H
  have A2 := Aside0.mk A20
  clear A20
  by_cases c3 : t195 = true
  · subst c3
    have H1 : (if (l0_1.length : Int) ≤ 600 then (if a0_2 ≥ (-1) then ((impl_areAll_byte.f l0_0).bind fun t196 => (if t196 = true then ((impl_Write_48.f l0_1 (l0_0.length : Int)).bind fun t197 => (some t197)) else (some false))) else (some false)) else (some false)) = some r := by rw [if_pos rfl] at H; exact H
    clear H
    have H := H1
    clear H1
    by_cases c4 : (l0_1.length : Int) ≤ 600
    · rw [if_pos c4] at H
      have c4b0 : decide ((l0_1.length : Int) ≤ 600) = true := decide_eq_true c4
      have c4b1 : decide (l0_1.length ≤ 600) = true := decide_eq_true (by omega)
      clear c4
      by_cases c5 : a0_2 ≥ (-1)
      · rw [if_pos c5] at H
        have c5b0 : decide ((-1) ≤ a0_2) = true := decide_eq_true c5
        clear c5
        replace H := Option.bind_eq_some_iff.mp H
        obtain ⟨t196, A60, H⟩ := H
        replace H : (if t196 = true then ((impl_Write_48.f l0_1 (l0_0.length : Int)).bind fun t197 => (some t197)) else (some false)) = some r := H
        have A6 := Aside0.mk A60
        clear A60
        by_cases c7 : t196 = true
        · subst c7
          have H1 : ((impl_Write_48.f l0_1 (l0_0.length : Int)).bind fun t197 => (some t197)) = some r := by rw [if_pos rfl] at H; exact H
          clear H
          have H := H1
          clear H1
          replace H := Option.bind_eq_some_iff.mp H
          obtain ⟨t197, A80, H⟩ := H
          replace H : (some t197) = some r := H
          have A8 := Aside0.mk A80
          clear A80
          obtain rfl := Option.some.inj H
          go_enter Try.func17, Try.ntmps17
          go_wp2_with (first | ((with_reducible refine gate_dst (N := 1) rfl ?_); (try (refine gate_guard (by rfl) ?_; dsimp only)); refine box_event ?hg (N := 1) ?hd (cs := #[.slice A0_0 l0_0.length c0_0, .slice A0_1 l0_1.length c0_1, .int .i64 a0_2, .bool a0_3]) (t := 25) ?hr ?_; (case hd => rfl); (case hg => rfl); (case hr => first | (go_simp; done) | (go_simp; rfl)); intro gb194 hg w9 hbox hb; have n0_ := Aside0.mk (below_step (by repeat (first | (with_reducible first | exact HB.out | apply below_alloc | apply pw_below_drewN | apply below_drew1) | exact HB.out)) hb); have n1_ := Aside0.mk (hbox); have n2_ := Aside0.mk ((by rw [hg]; exact (below_size (by repeat (first | (with_reducible first | exact HB.out | apply below_alloc | apply pw_below_drewN | apply below_drew1) | exact HB.out))) : w.heap.size ≤ gb194)); have n3_ := Aside0.mk ((by rw [hg]; exact (below_size (by repeat (first | (with_reducible first | exact HB.out | apply below_alloc | apply pw_below_drewN | apply below_drew1) | exact HB.out))) : w.heap.size ≤ gb194)); clear HB; have HB := n0_; have BK194 := n1_; have GW194 := n2_; have GE194 := n3_; clear n0_ n1_ n2_ n3_; clear hb hbox hg; have hcz10_0 : w9.cell? ⟨gb194, 0, none⟩ = some (.slice A0_0 l0_0.length c0_0) := (blk_cell BK194.out 0).trans rfl; have hcz10_1 : w9.cell? ⟨gb194, 1, none⟩ = some (.slice A0_1 l0_1.length c0_1) := (blk_cell BK194.out 1).trans rfl; have hcz10_2 : w9.cell? ⟨gb194, 2, none⟩ = some (.int .i64 a0_2) := (blk_cell BK194.out 2).trans rfl; have hcz10_3 : w9.cell? ⟨gb194, 3, none⟩ = some (.bool a0_3) := (blk_cell BK194.out 3).trans rfl; have hfz10_0 := blk_frozen BK194.out 0; have hfz10_1 := blk_frozen BK194.out 1; have hfz10_2 := blk_frozen BK194.out 2; have hfz10_3 := blk_frozen BK194.out 3) | ((with_reducible refine gate_callee (f := 35) rfl ?_); refine goesL_ (some 6) rfl rfl Try.func35 (by kernel_rfl) rfl #[.int .i64 (l0_0.length : Int), .int .i64 1, .int .i64 512] rfl (by (try simp only [List.map_toArray, List.map_cons, List.map_nil]); first | done | rfl | (simp only [List.length_drop, List.length_take]; rfl)) ?_; (with_reducible refine (impl_within.calls (l0_0.length : Int) 1 512 true _ A2.out).mono ?_); rintro e w' ⟨rfl, ⟨nd, rfl⟩⟩; refine ⟨_, rfl, ?_⟩) | (go_at_call 46; (with_reducible refine (impl_areAll_byte.calls _ _ l0_0 true _ ?side1 ?side2 A6.out).mono ?_); (case side1 => repeat (first | exact (Kd.C_below HR0_0.out (by repeat (first | (with_reducible first | exact HB.out | apply below_alloc | apply pw_below_drewN | apply below_drew1 | refine below_set ?_ GE194.out) | exact HB.out))) | (with_reducible refine Kd.C_alloc ?_ _) | (with_reducible refine Kd.C_drewN ?_ _) | (with_reducible refine Kd.C_drew ?_))); (case side2 => exact HC0_0.out); rintro e w11 ⟨rfl, hb⟩; have n0_ := Aside0.mk (blk_below (g := gb194) (o := .cells #[.slice A0_0 l0_0.length c0_0, .slice A0_1 l0_1.length c0_1, .int .i64 a0_2, .bool a0_3] 25 (0, 0)) (by (with_reducible repeat (first | refine blk_drewN ?_ _ | refine blk_drew ?_ | refine blk_alloc ?_ _)); exact BK194.out) hb); have n1_ := Aside0.mk (below_step (by repeat (first | (with_reducible first | exact HB.out | apply below_alloc | apply pw_below_drewN | apply below_drew1 | refine below_set ?_ GE194.out) | exact HB.out)) hb); clear BK194; clear HB; have BK194 := n0_; have HB := n1_; clear n0_ n1_; (try clear hb); (try clear hb2); (try clear hk); (try clear hi); have hcz12_0 : w11.cell? ⟨gb194, 0, none⟩ = some (.slice A0_0 l0_0.length c0_0) := (blk_cell BK194.out 0).trans rfl; have hcz12_1 : w11.cell? ⟨gb194, 1, none⟩ = some (.slice A0_1 l0_1.length c0_1) := (blk_cell BK194.out 1).trans rfl; have hcz12_2 : w11.cell? ⟨gb194, 2, none⟩ = some (.int .i64 a0_2) := (blk_cell BK194.out 2).trans rfl; have hcz12_3 : w11.cell? ⟨gb194, 3, none⟩ = some (.bool a0_3) := (blk_cell BK194.out 3).trans rfl; have hfz12_0 := blk_frozen BK194.out 0; have hfz12_1 := blk_frozen BK194.out 1; have hfz12_2 := blk_frozen BK194.out 2; have hfz12_3 := blk_frozen BK194.out 3) | (go_at_call 48; (with_reducible refine (impl_Write_48.calls _ _ l0_1 (l0_0.length : Int) t197 _ ?side1 ?side2 A8.out (g := gb194) (A1 := A0_0) (c1 := c0_0) (l1 := l0_0) (c2 := c0_1) (f := a0_2) (d := a0_3) ?sideg ?sideh HC0_0.out HC0_1.out rfl).mono ?_); (case sideg => (with_reducible repeat (first | refine blk_drewN ?_ _ | refine blk_drew ?_ | refine blk_alloc ?_ _)); exact BK194.out); (case sideh => repeat (first | exact (Kd.C_below HR0_0.out HB.out) | (with_reducible refine Kd.C_alloc ?_ _) | (with_reducible refine Kd.C_drewN ?_ _) | (with_reducible refine Kd.C_drew ?_))); (case side1 => repeat (first | exact (Kd.C_below HR0_1.out HB.out) | (with_reducible refine Kd.C_alloc ?_ _) | (with_reducible refine Kd.C_drewN ?_ _) | (with_reducible refine Kd.C_drew ?_))); (case side2 => exact HC0_1.out); rintro e w13 ⟨rfl, hb⟩; have n0_ := Aside0.mk (blk_below (g := gb194) (o := .cells #[.slice A0_0 l0_0.length c0_0, .slice A0_1 l0_1.length c0_1, .int .i64 a0_2, .bool a0_3] 25 (0, 0)) (by (with_reducible repeat (first | refine blk_drewN ?_ _ | refine blk_drew ?_ | refine blk_alloc ?_ _)); exact BK194.out) hb); have n1_ := Aside0.mk (below_step (by repeat (first | (with_reducible first | exact HB.out | apply below_alloc | apply pw_below_drewN | apply below_drew1 | refine below_set ?_ GE194.out) | exact HB.out)) hb); clear BK194; clear HB; have BK194 := n0_; have HB := n1_; clear n0_ n1_; (try clear hb); (try clear hb2); (try clear hk); (try clear hi)))
          go_ret
          exact ⟨by first | rfl | (simp [errW_none, errW_some] <;> rfl) | (simp [*, errW_none, errW_some] <;> rfl), by repeat (first | (with_reducible first | exact HB.out | apply below_alloc | apply pw_below_drewN | apply below_drew1 | refine below_set ?_ GE194.out) | exact HB.out)⟩
        · replace c7 := Bool.eq_false_iff.mpr c7
          subst c7
          have H1 : (some false) = some r := by rw [if_neg (show ¬ (false = true) by decide)] at H; exact H
          clear H
          have H := H1
          clear H1
          obtain rfl := Option.some.inj H
          go_enter Try.func17, Try.ntmps17
          go_wp2_with (first | ((with_reducible refine gate_dst (N := 1) rfl ?_); (try (refine gate_guard (by rfl) ?_; dsimp only)); refine box_event ?hg (N := 1) ?hd (cs := #[.slice A0_0 l0_0.length c0_0, .slice A0_1 l0_1.length c0_1, .int .i64 a0_2, .bool a0_3]) (t := 25) ?hr ?_; (case hd => rfl); (case hg => rfl); (case hr => first | (go_simp; done) | (go_simp; rfl)); intro gb194 hg w14 hbox hb; have n0_ := Aside0.mk (below_step (by repeat (first | (with_reducible first | exact HB.out | apply below_alloc | apply pw_below_drewN | apply below_drew1) | exact HB.out)) hb); have n1_ := Aside0.mk (hbox); have n2_ := Aside0.mk ((by rw [hg]; exact (below_size (by repeat (first | (with_reducible first | exact HB.out | apply below_alloc | apply pw_below_drewN | apply below_drew1) | exact HB.out))) : w.heap.size ≤ gb194)); have n3_ := Aside0.mk ((by rw [hg]; exact (below_size (by repeat (first | (with_reducible first | exact HB.out | apply below_alloc | apply pw_below_drewN | apply below_drew1) | exact HB.out))) : w.heap.size ≤ gb194)); clear HB; have HB := n0_; have BK194 := n1_; have GW194 := n2_; have GE194 := n3_; clear n0_ n1_ n2_ n3_; clear hb hbox hg; have hcz15_0 : w14.cell? ⟨gb194, 0, none⟩ = some (.slice A0_0 l0_0.length c0_0) := (blk_cell BK194.out 0).trans rfl; have hcz15_1 : w14.cell? ⟨gb194, 1, none⟩ = some (.slice A0_1 l0_1.length c0_1) := (blk_cell BK194.out 1).trans rfl; have hcz15_2 : w14.cell? ⟨gb194, 2, none⟩ = some (.int .i64 a0_2) := (blk_cell BK194.out 2).trans rfl; have hcz15_3 : w14.cell? ⟨gb194, 3, none⟩ = some (.bool a0_3) := (blk_cell BK194.out 3).trans rfl; have hfz15_0 := blk_frozen BK194.out 0; have hfz15_1 := blk_frozen BK194.out 1; have hfz15_2 := blk_frozen BK194.out 2; have hfz15_3 := blk_frozen BK194.out 3) | ((with_reducible refine gate_callee (f := 35) rfl ?_); refine goesL_ (some 6) rfl rfl Try.func35 (by kernel_rfl) rfl #[.int .i64 (l0_0.length : Int), .int .i64 1, .int .i64 512] rfl (by (try simp only [List.map_toArray, List.map_cons, List.map_nil]); first | done | rfl | (simp only [List.length_drop, List.length_take]; rfl)) ?_; (with_reducible refine (impl_within.calls (l0_0.length : Int) 1 512 true _ A2.out).mono ?_); rintro e w' ⟨rfl, ⟨nd, rfl⟩⟩; refine ⟨_, rfl, ?_⟩) | (go_at_call 46; (with_reducible refine (impl_areAll_byte.calls _ _ l0_0 false _ ?side1 ?side2 A6.out).mono ?_); (case side1 => repeat (first | exact (Kd.C_below HR0_0.out (by repeat (first | (with_reducible first | exact HB.out | apply below_alloc | apply pw_below_drewN | apply below_drew1 | refine below_set ?_ GE194.out) | exact HB.out))) | (with_reducible refine Kd.C_alloc ?_ _) | (with_reducible refine Kd.C_drewN ?_ _) | (with_reducible refine Kd.C_drew ?_))); (case side2 => exact HC0_0.out); rintro e w16 ⟨rfl, hb⟩; have n0_ := Aside0.mk (blk_below (g := gb194) (o := .cells #[.slice A0_0 l0_0.length c0_0, .slice A0_1 l0_1.length c0_1, .int .i64 a0_2, .bool a0_3] 25 (0, 0)) (by (with_reducible repeat (first | refine blk_drewN ?_ _ | refine blk_drew ?_ | refine blk_alloc ?_ _)); exact BK194.out) hb); have n1_ := Aside0.mk (below_step (by repeat (first | (with_reducible first | exact HB.out | apply below_alloc | apply pw_below_drewN | apply below_drew1 | refine below_set ?_ GE194.out) | exact HB.out)) hb); clear BK194; clear HB; have BK194 := n0_; have HB := n1_; clear n0_ n1_; (try clear hb); (try clear hb2); (try clear hk); (try clear hi)))
          go_ret
          exact ⟨by first | rfl | (simp [errW_none, errW_some] <;> rfl) | (simp [*, errW_none, errW_some] <;> rfl), by repeat (first | (with_reducible first | exact HB.out | apply below_alloc | apply pw_below_drewN | apply below_drew1 | refine below_set ?_ GE194.out) | exact HB.out)⟩
      · rw [if_neg c5] at H
        have c5b0 : decide ((-1) ≤ a0_2) = false := decide_eq_false c5
        clear c5
        obtain rfl := Option.some.inj H
        go_enter Try.func17, Try.ntmps17
        go_wp2_with (first | ((with_reducible refine gate_dst (N := 1) rfl ?_); (try (refine gate_guard (by rfl) ?_; dsimp only)); refine box_event ?hg (N := 1) ?hd (cs := #[.slice A0_0 l0_0.length c0_0, .slice A0_1 l0_1.length c0_1, .int .i64 a0_2, .bool a0_3]) (t := 25) ?hr ?_; (case hd => rfl); (case hg => rfl); (case hr => first | (go_simp; done) | (go_simp; rfl)); intro gb194 hg w17 hbox hb; have n0_ := Aside0.mk (below_step (by repeat (first | (with_reducible first | exact HB.out | apply below_alloc | apply pw_below_drewN | apply below_drew1) | exact HB.out)) hb); have n1_ := Aside0.mk (hbox); have n2_ := Aside0.mk ((by rw [hg]; exact (below_size (by repeat (first | (with_reducible first | exact HB.out | apply below_alloc | apply pw_below_drewN | apply below_drew1) | exact HB.out))) : w.heap.size ≤ gb194)); have n3_ := Aside0.mk ((by rw [hg]; exact (below_size (by repeat (first | (with_reducible first | exact HB.out | apply below_alloc | apply pw_below_drewN | apply below_drew1) | exact HB.out))) : w.heap.size ≤ gb194)); clear HB; have HB := n0_; have BK194 := n1_; have GW194 := n2_; have GE194 := n3_; clear n0_ n1_ n2_ n3_; clear hb hbox hg; have hcz18_0 : w17.cell? ⟨gb194, 0, none⟩ = some (.slice A0_0 l0_0.length c0_0) := (blk_cell BK194.out 0).trans rfl; have hcz18_1 : w17.cell? ⟨gb194, 1, none⟩ = some (.slice A0_1 l0_1.length c0_1) := (blk_cell BK194.out 1).trans rfl; have hcz18_2 : w17.cell? ⟨gb194, 2, none⟩ = some (.int .i64 a0_2) := (blk_cell BK194.out 2).trans rfl; have hcz18_3 : w17.cell? ⟨gb194, 3, none⟩ = some (.bool a0_3) := (blk_cell BK194.out 3).trans rfl; have hfz18_0 := blk_frozen BK194.out 0; have hfz18_1 := blk_frozen BK194.out 1; have hfz18_2 := blk_frozen BK194.out 2; have hfz18_3 := blk_frozen BK194.out 3) | ((with_reducible refine gate_callee (f := 35) rfl ?_); refine goesL_ (some 6) rfl rfl Try.func35 (by kernel_rfl) rfl #[.int .i64 (l0_0.length : Int), .int .i64 1, .int .i64 512] rfl (by (try simp only [List.map_toArray, List.map_cons, List.map_nil]); first | done | rfl | (simp only [List.length_drop, List.length_take]; rfl)) ?_; (with_reducible refine (impl_within.calls (l0_0.length : Int) 1 512 true _ A2.out).mono ?_); rintro e w' ⟨rfl, ⟨nd, rfl⟩⟩; refine ⟨_, rfl, ?_⟩))
        go_ret
        exact ⟨by first | rfl | (simp [errW_none, errW_some] <;> rfl) | (simp [*, errW_none, errW_some] <;> rfl), by repeat (first | (with_reducible first | exact HB.out | apply below_alloc | apply pw_below_drewN | apply below_drew1 | refine below_set ?_ GE194.out) | exact HB.out)⟩
    · rw [if_neg c4] at H
      have c4b0 : decide ((l0_1.length : Int) ≤ 600) = false := decide_eq_false c4
      have c4b1 : decide (l0_1.length ≤ 600) = false := decide_eq_false (by omega)
      clear c4
      obtain rfl := Option.some.inj H
      go_enter Try.func17, Try.ntmps17
      go_wp2_with (first | ((with_reducible refine gate_dst (N := 1) rfl ?_); (try (refine gate_guard (by rfl) ?_; dsimp only)); refine box_event ?hg (N := 1) ?hd (cs := #[.slice A0_0 l0_0.length c0_0, .slice A0_1 l0_1.length c0_1, .int .i64 a0_2, .bool a0_3]) (t := 25) ?hr ?_; (case hd => rfl); (case hg => rfl); (case hr => first | (go_simp; done) | (go_simp; rfl)); intro gb194 hg w19 hbox hb; have n0_ := Aside0.mk (below_step (by repeat (first | (with_reducible first | exact HB.out | apply below_alloc | apply pw_below_drewN | apply below_drew1) | exact HB.out)) hb); have n1_ := Aside0.mk (hbox); have n2_ := Aside0.mk ((by rw [hg]; exact (below_size (by repeat (first | (with_reducible first | exact HB.out | apply below_alloc | apply pw_below_drewN | apply below_drew1) | exact HB.out))) : w.heap.size ≤ gb194)); have n3_ := Aside0.mk ((by rw [hg]; exact (below_size (by repeat (first | (with_reducible first | exact HB.out | apply below_alloc | apply pw_below_drewN | apply below_drew1) | exact HB.out))) : w.heap.size ≤ gb194)); clear HB; have HB := n0_; have BK194 := n1_; have GW194 := n2_; have GE194 := n3_; clear n0_ n1_ n2_ n3_; clear hb hbox hg; have hcz20_0 : w19.cell? ⟨gb194, 0, none⟩ = some (.slice A0_0 l0_0.length c0_0) := (blk_cell BK194.out 0).trans rfl; have hcz20_1 : w19.cell? ⟨gb194, 1, none⟩ = some (.slice A0_1 l0_1.length c0_1) := (blk_cell BK194.out 1).trans rfl; have hcz20_2 : w19.cell? ⟨gb194, 2, none⟩ = some (.int .i64 a0_2) := (blk_cell BK194.out 2).trans rfl; have hcz20_3 : w19.cell? ⟨gb194, 3, none⟩ = some (.bool a0_3) := (blk_cell BK194.out 3).trans rfl; have hfz20_0 := blk_frozen BK194.out 0; have hfz20_1 := blk_frozen BK194.out 1; have hfz20_2 := blk_frozen BK194.out 2; have hfz20_3 := blk_frozen BK194.out 3) | ((with_reducible refine gate_callee (f := 35) rfl ?_); refine goesL_ (some 6) rfl rfl Try.func35 (by kernel_rfl) rfl #[.int .i64 (l0_0.length : Int), .int .i64 1, .int .i64 512] rfl (by (try simp only [List.map_toArray, List.map_cons, List.map_nil]); first | done | rfl | (simp only [List.length_drop, List.length_take]; rfl)) ?_; (with_reducible refine (impl_within.calls (l0_0.length : Int) 1 512 true _ A2.out).mono ?_); rintro e w' ⟨rfl, ⟨nd, rfl⟩⟩; refine ⟨_, rfl, ?_⟩))
      go_ret
      exact ⟨by first | rfl | (simp [errW_none, errW_some] <;> rfl) | (simp [*, errW_none, errW_some] <;> rfl), by repeat (first | (with_reducible first | exact HB.out | apply below_alloc | apply pw_below_drewN | apply below_drew1 | refine below_set ?_ GE194.out) | exact HB.out)⟩
  · replace c3 := Bool.eq_false_iff.mpr c3
    subst c3
    have H1 : (some false) = some r := by rw [if_neg (show ¬ (false = true) by decide)] at H; exact H
    clear H
    have H := H1
    clear H1
    obtain rfl := Option.some.inj H
    go_enter Try.func17, Try.ntmps17
    go_wp2_with (first | ((with_reducible refine gate_dst (N := 1) rfl ?_); (try (refine gate_guard (by rfl) ?_; dsimp only)); refine box_event ?hg (N := 1) ?hd (cs := #[.slice A0_0 l0_0.length c0_0, .slice A0_1 l0_1.length c0_1, .int .i64 a0_2, .bool a0_3]) (t := 25) ?hr ?_; (case hd => rfl); (case hg => rfl); (case hr => first | (go_simp; done) | (go_simp; rfl)); intro gb194 hg w21 hbox hb; have n0_ := Aside0.mk (below_step (by repeat (first | (with_reducible first | exact HB.out | apply below_alloc | apply pw_below_drewN | apply below_drew1) | exact HB.out)) hb); have n1_ := Aside0.mk (hbox); have n2_ := Aside0.mk ((by rw [hg]; exact (below_size (by repeat (first | (with_reducible first | exact HB.out | apply below_alloc | apply pw_below_drewN | apply below_drew1) | exact HB.out))) : w.heap.size ≤ gb194)); have n3_ := Aside0.mk ((by rw [hg]; exact (below_size (by repeat (first | (with_reducible first | exact HB.out | apply below_alloc | apply pw_below_drewN | apply below_drew1) | exact HB.out))) : w.heap.size ≤ gb194)); clear HB; have HB := n0_; have BK194 := n1_; have GW194 := n2_; have GE194 := n3_; clear n0_ n1_ n2_ n3_; clear hb hbox hg; have hcz22_0 : w21.cell? ⟨gb194, 0, none⟩ = some (.slice A0_0 l0_0.length c0_0) := (blk_cell BK194.out 0).trans rfl; have hcz22_1 : w21.cell? ⟨gb194, 1, none⟩ = some (.slice A0_1 l0_1.length c0_1) := (blk_cell BK194.out 1).trans rfl; have hcz22_2 : w21.cell? ⟨gb194, 2, none⟩ = some (.int .i64 a0_2) := (blk_cell BK194.out 2).trans rfl; have hcz22_3 : w21.cell? ⟨gb194, 3, none⟩ = some (.bool a0_3) := (blk_cell BK194.out 3).trans rfl; have hfz22_0 := blk_frozen BK194.out 0; have hfz22_1 := blk_frozen BK194.out 1; have hfz22_2 := blk_frozen BK194.out 2; have hfz22_3 := blk_frozen BK194.out 3) | ((with_reducible refine gate_callee (f := 35) rfl ?_); refine goesL_ (some 6) rfl rfl Try.func35 (by kernel_rfl) rfl #[.int .i64 (l0_0.length : Int), .int .i64 1, .int .i64 512] rfl (by (try simp only [List.map_toArray, List.map_cons, List.map_nil]); first | done | rfl | (simp only [List.length_drop, List.length_take]; rfl)) ?_; (with_reducible refine (impl_within.calls (l0_0.length : Int) 1 512 false _ A2.out).mono ?_); rintro e w' ⟨rfl, ⟨nd, rfl⟩⟩; refine ⟨_, rfl, ?_⟩))
    go_ret
    exact ⟨by first | rfl | (simp [errW_none, errW_some] <;> rfl) | (simp [*, errW_none, errW_some] <;> rfl), by repeat (first | (with_reducible first | exact HB.out | apply below_alloc | apply pw_below_drewN | apply below_drew1 | refine below_set ?_ GE194.out) | exact HB.out)⟩

/-! ### slices_Clone_byte_byte: function 66 -/
def slices_Clone_byte_byte.f (l0 : List Int) : Option (List Int) := (some (([] : List Int) : List Int)).bind fun y198 => (if y198.length + l0.length < 140737488355328 then (some (y198 ++ l0)) else (none))
set_option maxHeartbeats 8000000 in
set_option maxRecDepth 100000 in
theorem slices_Clone_byte_byte.calls (A0 : Option Addr) (c0 : Nat) (l0 : List Int) (r : List Int) (w : World) (hr0 : Kd.C (Kd.int .u8) w A0 l0.length l0) (hc0 : l0.length ≤ c0) (h : slices_Clone_byte_byte.f l0 = some r) :
    Calls Try.prog 66 #[.slice A0 l0.length c0] w fun e w' => ∃ v0_ : Value, e = .returned (v0_) ∧ Kd.R (Kd.int .u8) 5 w' w.heap.size (fun _ => True) v0_ r ∧ Below w.heap.size w w' := by
  rcases A0 with _ | ad0
  · have hl0 : l0 = [] := by
      rcases Nat.eq_zero_or_pos l0.length with hz | hz
      · exact List.eq_nil_of_length_eq_zero hz
      · obtain ⟨ad, e, _⟩ := hr0.2.2 hz
        cases e
    subst hl0
    have hr : r = [] := by simpa [slices_Clone_byte_byte.f] using h.symm
    subst hr
    have hq := fun (w : World) (a : Option Addr) (n c : Nat) => Lib.run_eql_slice_nil (P := Try.prog) w 37 5 a n c 0 0 Try.underlying37
    go_enter Try.func66, Try.ntmps66
    go_wp2
    go_ret
    exact ⟨_, rfl, Kd.R_nil _ _ _ _ _, by repeat (first | exact Below.refl _ _ | apply below_alloc | apply pw_below_drewN | apply below_drew1)⟩
  · have HR0 := Aside0.mk hr0
    have HC0 := Aside0.mk hc0
    clear hr0 hc0
    have HB := Aside0.mk (Below.refl w.heap.size w)
    have H : ((some (([] : List Int) : List Int)).bind fun y198 => (if y198.length + l0.length < 140737488355328 then (some (y198 ++ l0)) else (none))) = some r := h
    clear h
    obtain ⟨y198, hy198⟩ : ∃ y_ : List Int, y_ = (([] : List Int)) := ⟨_, rfl⟩
    replace H : (if y198.length + l0.length < 140737488355328 then (some (y198 ++ l0)) else (none)) = some r := by first | (rw [hy198]; with_reducible exact H) | (have H2_ := (Option.bind_some _ _).symm.trans H; rw [hy198]; with_reducible exact H2_) | (have H2_ := (Option.bind_some _ _).symm.trans H; with_reducible exact H2_) | with_reducible exact H | (rw [hy198]; exact H) | exact H
    have Ny198 := Aside0.mk hy198
    clear hy198
    by_cases c2 : y198.length + l0.length < 140737488355328
    · rw [if_pos c2] at H
      have LMc2 := Aside0.mk c2
      clear c2
      obtain ⟨y201, hy201⟩ : ∃ y_ : List Int, y_ = (y198 ++ l0) := ⟨_, rfl⟩
      replace H : (some y201) = some r := by first | (rw [hy201]; with_reducible exact H) | (have H2_ := (Option.bind_some _ _).symm.trans H; rw [hy201]; with_reducible exact H2_) | (have H2_ := (Option.bind_some _ _).symm.trans H; with_reducible exact H2_) | with_reducible exact H | (rw [hy201]; exact H) | exact H
      have Ny201 := Aside0.mk hy201
      clear hy201
      obtain rfl := Option.some.inj H
      have hq := fun (w : World) (a : Option Addr) (n c : Nat) => Lib.run_eql_slice_nil (P := Try.prog) w 37 5 a n c 0 0 Try.underlying37
      go_enter Try.func66, Try.ntmps66
      go_wp2_with (first | ((with_reducible refine gate_dst (N := 5) rfl ?_); refine Kd.R_lit (Kd.int .u8) _ 5 ?hg (N := 5) ?hd (xs := ([] : List Int)) (inner := []) (ok := fun _ => True) (okp := fun _ => True) ?hr ?hp (fun _ hk => hk) trivial (Below.refl _ _) (Nat.le_refl _) (by simp) ?_; (case hd => rfl); (case hg => rfl); (case hr => first | (go_simp; done) | (go_simp; rfl)); (case hp => exact (Reps.none _ _)); intro v199 w3 ho4 hb hg_ hnew_; clear hg_ hnew_; (first | rw [← Ny198.out] at ho4 | (simp only [Int.reduceToNat] at ho4; rw [← Ny198.out] at ho4)); have n0_ := Aside0.mk (Kd.R_lower ho4 (below_size (by repeat (first | (with_reducible first | exact HB.out | apply below_alloc | apply pw_below_drewN | apply below_drew1) | exact HB.out)))); have n1_ := Aside0.mk (below_step (by repeat (first | (with_reducible first | exact HB.out | apply below_alloc | apply pw_below_drewN | apply below_drew1) | exact HB.out)) hb); clear HB; have HO200 := n0_; have HB := n1_; clear n0_ n1_; clear hb ho4) | ((with_reducible refine gate_builtin (b := .append) (xs := #[.tmp 5, .tmp 6]) rfl ?_); at_builtin; refine Kd.R_append_rows (Kd.int .u8) (w0 := w) w.heap.size rfl (.tmp 5) (.tmp 6) 37 5 (.int .u8 0) 1 rfl Try.underlying37 info5 rfl (by decide) (by omega) v199 y198 l0 _ _ _ (fun _ => True) (fun _ => False) rfl rfl ?aO ?aR (fun _ _ h => h) (fun _ h => h.elim) ?aF ?aB ?aS ?aL ?_; (case aR => repeat (first | exact (Kd.C_below HR0.out HB.out) | (with_reducible refine Kd.C_alloc ?_ _) | (with_reducible refine Kd.C_drewN ?_ _) | (with_reducible refine Kd.C_drew ?_))); (case aB => exact (by repeat (first | (with_reducible first | exact HB.out | apply below_alloc | apply pw_below_drewN | apply below_drew1) | exact HB.out))); (case aF => exact (fun _ _ => trivial)); (case aO => exact (by (with_reducible repeat (first | apply Kd.R_alloc | apply Kd.R_drewN | apply Kd.R_drew)); exact HO200.out)); (case aS => exact (below_size (by repeat (first | (with_reducible first | exact HB.out | apply below_alloc | apply pw_below_drewN | apply below_drew1) | exact HB.out)))); (case aL => have := LMc2.out; omega); intro v202 w5 ho hb hg hat; rw [← Ny201.out] at ho; have n0_ := Aside0.mk (hb); have n1_ := Aside0.mk (ho); clear HB; clear HO200; have HB := n0_; have HO203 := n1_; clear n0_ n1_; clear ho hb hg hat))
      go_ret
      exact ⟨_, by first | rfl | (simp [errW_none, errW_some] <;> rfl) | (simp [*, errW_none, errW_some] <;> rfl), by (with_reducible repeat (first | apply Kd.R_alloc | apply Kd.R_drewN | apply Kd.R_drew)); exact HO203.out, by repeat (first | (with_reducible first | exact HB.out | apply below_alloc | apply pw_below_drewN | apply below_drew1) | exact HB.out)⟩
    · rw [if_neg c2] at H
      exact absurd H (by simp)
  
end Go.Proofs.Ytipfcppghbijgaa.PFnExactDiskRead
