-- By this session's own program (wip/xprint.py), over the kit's print.
import Derived.Test.YtokpniagnbaflaaPFnExactPagePutx0
import Derived.Test.YtokpniagnbaflaaPFnExactPagePutx2
import Derived.Test.YtokpniagnbaflaaPFnExactPagePutx3
namespace Go.Proofs.Ytokpniagnbaflaa.PFnExactPagePut
open Go.RowKit Go.Proofs.YtokpniagnbaflaaW.PrintWords Go.Proofs.YtokpniagnbaflaaW.PrintLast Go.Proofs.YtokpniagnbaflaaW.PrintMore
attribute [local go_sem] max2_int min2_int max_two min_two max_three min_three max_four min_four   -- for this text's walks alone
attribute [local go_sem high] fl_eql fl_neq fl_lss fl_leq fl_gtr fl_geq fl_add fl_sub fl_mul fl_quo fl_neg fl_ofInt fl_toInt fl_store
set_option linter.unusedVariables false
set_option linter.unusedSimpArgs false

/-! ### spec_PagePut: function 22 -/
mutual
def spec_PagePut.j0 : Nat → Int → List Int → Int → Bool → Int → List (List Int) → Option (Int × (List (List Int)) × Bool)
  | 0, _, _, _, _, _, _ => none
  | k + 1, x1, x2, x3, x33, x157000, x157001 => if x33 = true then (some (0, ([] : List (List Int)), false)) else ((spec_l7copy.f k x157000 x157001).bind fun bt161 => (spec_PagePut.l0 k x1 x2 x3 bt161.1 bt161.2))
def spec_PagePut.l0 : Nat → Int → List Int → Int → Int → List (List Int) → Option (Int × (List (List Int)) × Bool)
  | 0, _, _, _, _, _ => none
  | k + 1, x1, x2, x3, x166000, x166001 => if (x166001.length : Int) ≤ x1 then (if x166001.length < 5864062014805 then (spec_PagePut.l0 k x1 x2 x3 x166000 (x166001 ++ [[]])) else (none)) else ((some (([] : List Int) : List Int)).bind fun y169 => (if y169.length + x2.length < 140737488355328 then (if 0 ≤ x1 then (if x1 < (x166001.length : Int) then ((some (x166001.set (x1 : Int).toNat (y169 ++ x2) : List (List Int))).bind fun y175 => ((spec_PageUsed.f k x3 y175).bind fun t176 => (if t176 < 0 then (some (0, ([] : List (List Int)), false)) else (some (x3, y175, true))))) else (none)) else (none)) else (none)))
end
def spec_PagePut.f (k : Nat) (a0_0 : Int) (l0_1 : List (List Int)) (a1 : Int) (l2 : List Int) (a3 : Int) : Option (Int × (List (List Int)) × Bool) := (spec_PageUsed.f k a0_0 l0_1).bind fun t158 => (if t158 < 0 then (spec_PagePut.j0 k a1 l2 a3 true a0_0 l0_1) else ((spec_l5in.f a1 0 15).bind fun t159 => (if t159 = true then (if (l2.length : Int) = 0 then (spec_PagePut.j0 k a1 l2 a3 true a0_0 l0_1) else (if (l2.length : Int) > 92 then (spec_PagePut.j0 k a1 l2 a3 true a0_0 l0_1) else ((spec_l5in.f a3 1 1000000).bind fun t160 => (spec_PagePut.j0 k a1 l2 a3 (!t160) a0_0 l0_1)))) else (spec_PagePut.j0 k a1 l2 a3 true a0_0 l0_1))))
theorem spec_PagePut.mono_l : ∀ k, (∀ y0 y1 y2 y3 y4 y5, LeO (spec_PagePut.j0 k y0 y1 y2 y3 y4 y5) (spec_PagePut.j0 (k + 1) y0 y1 y2 y3 y4 y5)) ∧ (∀ y0 y1 y2 y3 y4, LeO (spec_PagePut.l0 k y0 y1 y2 y3 y4) (spec_PagePut.l0 (k + 1) y0 y1 y2 y3 y4))
  | 0 => ⟨fun _ _ _ _ _ _ r h => by simp [spec_PagePut.j0] at h, fun _ _ _ _ _ r h => by simp [spec_PagePut.l0] at h⟩
  | k + 1 => by
    obtain ⟨ih0, ih1⟩ := spec_PagePut.mono_l k
    refine ⟨?_, ?_⟩
    · intro y0 y1 y2 y3 y4 y5
      unfold spec_PagePut.j0
      repeat' first
      | (with_reducible exact ih0 _ _ _ _ _ _)
      | (with_reducible exact ih1 _ _ _ _ _)
      | (with_reducible exact spec_PageUsed.mono _ _ _)
      | (with_reducible exact spec_l7copy.mono _ _ _)
      | (with_reducible exact LeO.refl _)
      | (with_reducible exact LeO.none _)
      | (with_reducible refine LeO.ite ?_ ?_)
      | (with_reducible refine LeO.bind ?_ (fun _ => ?_))
      | exact ih0 _ _ _ _ _ _
      | exact ih1 _ _ _ _ _
      | exact spec_PageUsed.mono _ _ _
      | exact spec_l7copy.mono _ _ _
      | exact LeO.none _
      | refine LeO.ite ?_ ?_
      | refine LeO.bind ?_ (fun _ => ?_)
    · intro y0 y1 y2 y3 y4
      unfold spec_PagePut.l0
      repeat' first
      | (with_reducible exact ih0 _ _ _ _ _ _)
      | (with_reducible exact ih1 _ _ _ _ _)
      | (with_reducible exact spec_PageUsed.mono _ _ _)
      | (with_reducible exact spec_l7copy.mono _ _ _)
      | (with_reducible exact LeO.refl _)
      | (with_reducible exact LeO.none _)
      | (with_reducible refine LeO.ite ?_ ?_)
      | (with_reducible refine LeO.bind ?_ (fun _ => ?_))
      | exact ih0 _ _ _ _ _ _
      | exact ih1 _ _ _ _ _
      | exact spec_PageUsed.mono _ _ _
      | exact spec_l7copy.mono _ _ _
      | exact LeO.none _
      | refine LeO.ite ?_ ?_
      | refine LeO.bind ?_ (fun _ => ?_)
theorem spec_PagePut.mono : ∀ a0 a1 a2 a3 a4 k, LeO (spec_PagePut.f k a0 a1 a2 a3 a4) (spec_PagePut.f (k + 1) a0 a1 a2 a3 a4) := by
  intro a0 a1 a2 a3 a4 k
  obtain ⟨ih0, ih1⟩ := spec_PagePut.mono_l k
  unfold spec_PagePut.f
  repeat' first
      | (with_reducible exact ih0 _ _ _ _ _ _)
      | (with_reducible exact ih1 _ _ _ _ _)
      | (with_reducible exact spec_PageUsed.mono _ _ _)
      | (with_reducible exact spec_l7copy.mono _ _ _)
      | (with_reducible exact LeO.refl _)
      | (with_reducible exact LeO.none _)
      | (with_reducible refine LeO.ite ?_ ?_)
      | (with_reducible refine LeO.bind ?_ (fun _ => ?_))
      | exact ih0 _ _ _ _ _ _
      | exact ih1 _ _ _ _ _
      | exact spec_PageUsed.mono _ _ _
      | exact spec_l7copy.mono _ _ _
      | exact LeO.none _
      | refine LeO.ite ?_ ?_
      | refine LeO.bind ?_ (fun _ => ?_)
def spec_PagePut.T6 : Bool × List (List Nat × List Nat) := (true, [([], []), ([0], [0]), ([], []), ([], []), ([], []), ([3, 4], [3, 4]), ([1, 2, 0, 1, 2, 3, 4, 5], [1, 2]), ([6, 5, 5, 0, 1, 2, 3, 4, 5], [5, 6])])
def spec_PagePut.B6 : List Nat := [0, 1, 0, 0, 0, 24, 63, 127]
theorem spec_PagePut.tab6 : rtab .any (opsOf Try.f22 6) = spec_PagePut.T6 := by kernel_rfl
theorem spec_PagePut.bits6 : waitsOk spec_PagePut.T6.2 spec_PagePut.B6 = true := by kernel_rfl
set_option maxHeartbeats 8000000 in
set_option maxRecDepth 100000 in
theorem spec_PagePut.calls (k : Nat) (a0_0 : Int) (A0_1 : Option Addr) (c0_1 : Nat) (l0_1 : List (List Int)) (a1 : Int) (A2 : Option Addr) (c2 : Nat) (l2 : List Int) (a3 : Int) (r1 : Int) (r2 : List (List Int)) (r3 : Bool) (w : World) (hr0_1 : Kd.C (Kd.slice 5 (Kd.int .u8)) w A0_1 l0_1.length l0_1) (hc0_1 : l0_1.length ≤ c0_1) (hr2 : Kd.C (Kd.int .u8) w A2 l2.length l2) (hc2 : l2.length ≤ c2) (h : spec_PagePut.f k a0_0 l0_1 a1 l2 a3 = some (r1, r2, r3)) :
    Calls Try.prog 22 #[.agg #[.int .i64 a0_0, .slice A0_1 l0_1.length c0_1], .int .i64 a1, .slice A2 l2.length c2, .int .i64 a3] w fun e w' => ∃ v1_ : Value, e = .returned (.tuple #[.agg #[.int .i64 r1, v1_], .bool r3]) ∧ Kd.N (Kd.slice 5 (Kd.int .u8)) 36 w' w.heap.size (fun k_ => (w.heap.size ≤ k_)) v1_ r2 ∧ Below w.heap.size w w' := by
  have hu27 := Try.underlying27
  have HR0_1 := Aside0.mk hr0_1
  have HC0_1 := Aside0.mk hc0_1
  clear hr0_1 hc0_1
  have HR2 := Aside0.mk hr2
  have HC2 := Aside0.mk hc2
  clear hr2 hc2
  have HB := Aside0.mk (Below.refl w.heap.size w)
  have H : ((spec_PageUsed.f k a0_0 l0_1).bind fun t158 => (if t158 < 0 then (spec_PagePut.j0 k a1 l2 a3 true a0_0 l0_1) else ((spec_l5in.f a1 0 15).bind fun t159 => (if t159 = true then (if (l2.length : Int) = 0 then (spec_PagePut.j0 k a1 l2 a3 true a0_0 l0_1) else (if (l2.length : Int) > 92 then (spec_PagePut.j0 k a1 l2 a3 true a0_0 l0_1) else ((spec_l5in.f a3 1 1000000).bind fun t160 => (spec_PagePut.j0 k a1 l2 a3 (!t160) a0_0 l0_1)))) else (spec_PagePut.j0 k a1 l2 a3 true a0_0 l0_1))))) = some (r1, r2, r3) := h
  clear h
  have HC5 := Aside0.mk H
  clear H
  go_enter Try.func22, Try.ntmps22
  go_upto_region 1 with (first | ((with_reducible refine gate_dst (N := 4) rfl ?_); (try (refine gate_guard (by rfl) ?_; dsimp only)); refine box_event ?hg (N := 4) ?hd (cs := #[.int .i64 a0_0, .slice A0_1 l0_1.length c0_1]) (t := 27) ?hr ?_; (case hd => rfl); (case hg => rfl); (case hr => first | (go_simp; done) | (go_simp; rfl)); intro gb156 hg w6 hbox hb; have n0_ := Aside0.mk (below_step (by repeat (first | (with_reducible first | exact HB.out | apply below_alloc | apply pw_below_drewN | apply below_drew1) | exact HB.out)) hb); have n1_ := Aside0.mk (hbox); have n2_ := Aside0.mk ((by rw [hg]; exact (below_size (by repeat (first | (with_reducible first | exact HB.out | apply below_alloc | apply pw_below_drewN | apply below_drew1) | exact HB.out))) : w.heap.size ≤ gb156)); have n3_ := Aside0.mk ((by rw [hg]; exact (below_size (by repeat (first | (with_reducible first | exact HB.out | apply below_alloc | apply pw_below_drewN | apply below_drew1) | exact HB.out))) : w.heap.size ≤ gb156)); clear HB; have HB := n0_; have BK156 := n1_; have GW156 := n2_; have GE156 := n3_; clear n0_ n1_ n2_ n3_; clear hb hbox hg) | ((with_reducible refine gate_dst (N := 8) rfl ?_); (try (refine gate_guard (by rfl) ?_; dsimp only)); refine box_event ?hg (N := 8) ?hd (cs := #[.int .i64 0, .slice none 0 0]) (t := 27) ?hr ?_; (case hd => rfl); (case hg => rfl); (case hr => first | (go_simp; done) | (go_simp; rfl)); intro gb157 hg w7 hbox hb; have n0_ := Aside0.mk (blk_below (g := gb156) (o := .cells #[.int .i64 a0_0, .slice A0_1 l0_1.length c0_1] 27 (0, 0)) (by (with_reducible repeat (first | refine blk_drewN ?_ _ | refine blk_drew ?_ | refine blk_alloc ?_ _)); exact BK156.out) hb); have n1_ := Aside0.mk (below_step (by repeat (first | (with_reducible first | exact HB.out | apply below_alloc | apply pw_below_drewN | apply below_drew1 | refine below_set ?_ GE156.out) | exact HB.out)) hb); have n2_ := Aside0.mk (hbox); have n3_ := Aside0.mk ((by rw [hg]; exact (below_size (by repeat (first | (with_reducible first | exact HB.out | apply below_alloc | apply pw_below_drewN | apply below_drew1 | refine below_set ?_ GE156.out) | exact HB.out))) : w.heap.size ≤ gb157)); have n4_ := Aside0.mk ((by rw [hg]; exact (below_size (by repeat (first | (with_reducible first | exact HB.out | apply below_alloc | apply pw_below_drewN | apply below_drew1 | refine below_set ?_ GE156.out) | exact HB.out))) : w.heap.size ≤ gb157)); have n5_ := Aside0.mk ((by rw [hg]; exact Nat.ne_of_lt (blk_lt (g := gb156) (o := .cells #[.int .i64 a0_0, .slice A0_1 l0_1.length c0_1] 27 (0, 0)) (by (with_reducible repeat (first | refine blk_drewN ?_ _ | refine blk_drew ?_ | refine blk_alloc ?_ _)); exact BK156.out)) : gb156 ≠ gb157)); have n6_ := Aside0.mk ((by rw [hg]; exact Nat.ne_of_gt (blk_lt (g := gb156) (o := .cells #[.int .i64 a0_0, .slice A0_1 l0_1.length c0_1] 27 (0, 0)) (by (with_reducible repeat (first | refine blk_drewN ?_ _ | refine blk_drew ?_ | refine blk_alloc ?_ _)); exact BK156.out)) : gb157 ≠ gb156)); clear BK156; clear HB; have BK156 := n0_; have HB := n1_; have BK157 := n2_; have GW157 := n3_; have GE157 := n4_; have NB156_157 := n5_; have NB157_156 := n6_; clear n0_ n1_ n2_ n3_ n4_ n5_ n6_; clear hb hbox hg))
  (try simp only [Act.put, List.setIfInBounds_toArray, List.set_cons_zero, List.set_cons_succ])
  go_cut [33] (fun v33 wc => ∃ (kq : Nat) (x33_4 : Bool), v33 = .bool x33_4 ∧ Aside0 (spec_PagePut.j0 kq a1 l2 a3 x33_4 a0_0 l0_1 = some (r1, r2, r3)) ∧ Aside0 (kq ≤ k) ∧ Aside0 (wc.heap[gb156]? = some (.cells #[.int .i64 a0_0, (.slice A0_1 l0_1.length c0_1)] 27 (0, 0))) ∧ Aside0 (wc.heap[gb157]? = some (.cells #[.int .i64 0, (.slice none 0 0)] 27 (0, 0))) ∧ Aside0 (Below w.heap.size w wc))
  case first =>
    have H := HC5.out
    clear HC5
    replace H := Option.bind_eq_some_iff.mp H
    obtain ⟨t158, A80, H⟩ := H
    replace H : (if t158 < 0 then (spec_PagePut.j0 k a1 l2 a3 true a0_0 l0_1) else ((spec_l5in.f a1 0 15).bind fun t159 => (if t159 = true then (if (l2.length : Int) = 0 then (spec_PagePut.j0 k a1 l2 a3 true a0_0 l0_1) else (if (l2.length : Int) > 92 then (spec_PagePut.j0 k a1 l2 a3 true a0_0 l0_1) else ((spec_l5in.f a3 1 1000000).bind fun t160 => (spec_PagePut.j0 k a1 l2 a3 (!t160) a0_0 l0_1)))) else (spec_PagePut.j0 k a1 l2 a3 true a0_0 l0_1)))) = some (r1, r2, r3) := H
    have A8 := Aside0.mk A80
    clear A80
    by_cases c9 : t158 < 0
    · rw [if_pos c9] at H
      have c9b0 : decide (t158 < 0) = true := decide_eq_true c9
      clear c9
      (first | rw [c9b0] | (simp only [i64_w, i32_w]; rw [c9b0]) | skip)
      have H' := Aside0.mk H
      clear H
      have hnb10 := NB156_157.out
      have hnc10 := NB157_156.out
      have hcz11_0 : w7.cell? ⟨gb156, 0, none⟩ = some (.int .i64 a0_0) := (blk_cell BK156.out 0).trans rfl
      have hcz11_1 : w7.cell? ⟨gb156, 1, none⟩ = some (.slice A0_1 l0_1.length c0_1) := (blk_cell BK156.out 1).trans rfl
      have hfz11_0 := blk_frozen BK156.out 0
      have hfz11_1 := blk_frozen BK156.out 1
      go_wp2_with (first | ((with_reducible refine gate_callee (f := 12) rfl ?_); refine goesL_ (some 12) rfl rfl Try.func12 (by kernel_rfl) rfl #[.agg #[.int .i64 a0_0, .slice A0_1 l0_1.length c0_1]] rfl (by (try simp only [List.map_toArray, List.map_cons, List.map_nil]); first | done | rfl | (simp only [List.length_drop, List.length_take]; rfl)) ?_; (with_reducible refine (spec_PageUsed.calls k a0_0 _ _ l0_1 t158 _ ?side1 ?side2 A8.out).mono ?_); (case side1 => repeat (first | exact (Kd.C_below HR0_1.out HB.out) | (with_reducible refine Kd.C_alloc ?_ _) | (with_reducible refine Kd.C_drewN ?_ _) | (with_reducible refine Kd.C_drew ?_))); (case side2 => exact HC0_1.out); rintro e w12 ⟨rfl, hb⟩; refine ⟨_, rfl, ?_⟩; have n0_ := Aside0.mk (blk_below (g := gb156) (o := .cells #[.int .i64 a0_0, .slice A0_1 l0_1.length c0_1] 27 (0, 0)) (by (with_reducible repeat (first | refine blk_drewN ?_ _ | refine blk_drew ?_ | refine blk_alloc ?_ _)); exact BK156.out) hb); have n1_ := Aside0.mk (blk_below (g := gb157) (o := .cells #[.int .i64 0, .slice none 0 0] 27 (0, 0)) (by (with_reducible repeat (first | refine blk_drewN ?_ _ | refine blk_drew ?_ | refine blk_alloc ?_ _)); exact BK157.out) hb); have n2_ := Aside0.mk (below_step (by repeat (first | (with_reducible first | exact HB.out | apply below_alloc | apply pw_below_drewN | apply below_drew1 | refine below_set ?_ GE156.out | refine below_set ?_ GE157.out) | exact HB.out)) hb); clear BK156; clear BK157; clear HB; have BK156 := n0_; have BK157 := n1_; have HB := n2_; clear n0_ n1_ n2_; (try clear hb); (try clear hb2); (try clear hk); (try clear hi)))
      go_meet
      case rel => exact ⟨_, (true), (by first | rfl | (simp; done) | (simp [*]; done)), H', ⟨by first | omega | exact Nat.le_refl _⟩, ⟨by (with_reducible repeat (first | refine blk_drewN ?_ _ | refine blk_drew ?_ | refine blk_alloc ?_ _)); exact BK156.out⟩, ⟨by (with_reducible repeat (first | refine blk_drewN ?_ _ | refine blk_drew ?_ | refine blk_alloc ?_ _)); exact BK157.out⟩, ⟨by repeat (first | (with_reducible first | exact HB.out | apply below_alloc | apply pw_below_drewN | apply below_drew1 | refine below_set ?_ GE156.out | refine below_set ?_ GE157.out) | exact HB.out)⟩⟩
    · rw [if_neg c9] at H
      have c9b0 : decide (t158 < 0) = false := decide_eq_false c9
      clear c9
      (first | rw [c9b0] | (simp only [i64_w, i32_w]; rw [c9b0]) | skip)
      replace H := Option.bind_eq_some_iff.mp H
      obtain ⟨t159, A130, H⟩ := H
      replace H : (if t159 = true then (if (l2.length : Int) = 0 then (spec_PagePut.j0 k a1 l2 a3 true a0_0 l0_1) else (if (l2.length : Int) > 92 then (spec_PagePut.j0 k a1 l2 a3 true a0_0 l0_1) else ((spec_l5in.f a3 1 1000000).bind fun t160 => (spec_PagePut.j0 k a1 l2 a3 (!t160) a0_0 l0_1)))) else (spec_PagePut.j0 k a1 l2 a3 true a0_0 l0_1)) = some (r1, r2, r3) := H
      have A13 := Aside0.mk A130
      clear A130
      by_cases c14 : t159 = true
      · subst c14
        have H1 : (if (l2.length : Int) = 0 then (spec_PagePut.j0 k a1 l2 a3 true a0_0 l0_1) else (if (l2.length : Int) > 92 then (spec_PagePut.j0 k a1 l2 a3 true a0_0 l0_1) else ((spec_l5in.f a3 1 1000000).bind fun t160 => (spec_PagePut.j0 k a1 l2 a3 (!t160) a0_0 l0_1)))) = some (r1, r2, r3) := by rw [if_pos rfl] at H; exact H
        clear H
        have H := H1
        clear H1
        by_cases c15 : (l2.length : Int) = 0
        · rw [if_pos c15] at H
          have c15b0 : ((l2.length : Int) == 0) = true := beq_iff_eq.mpr c15
          have c15b1 : ((l2.length : Int) != 0) = false := bne_eq_false_iff_eq.mpr c15
          clear c15
          have H' := Aside0.mk H
          clear H
          have hnb16 := NB156_157.out
          have hnc16 := NB157_156.out
          have hcz17_0 : w7.cell? ⟨gb156, 0, none⟩ = some (.int .i64 a0_0) := (blk_cell BK156.out 0).trans rfl
          have hcz17_1 : w7.cell? ⟨gb156, 1, none⟩ = some (.slice A0_1 l0_1.length c0_1) := (blk_cell BK156.out 1).trans rfl
          have hfz17_0 := blk_frozen BK156.out 0
          have hfz17_1 := blk_frozen BK156.out 1
          go_wp2_with (first | ((with_reducible refine gate_callee (f := 12) rfl ?_); refine goesL_ (some 12) rfl rfl Try.func12 (by kernel_rfl) rfl #[.agg #[.int .i64 a0_0, .slice A0_1 l0_1.length c0_1]] rfl (by (try simp only [List.map_toArray, List.map_cons, List.map_nil]); first | done | rfl | (simp only [List.length_drop, List.length_take]; rfl)) ?_; (with_reducible refine (spec_PageUsed.calls k a0_0 _ _ l0_1 t158 _ ?side1 ?side2 A8.out).mono ?_); (case side1 => repeat (first | exact (Kd.C_below HR0_1.out HB.out) | (with_reducible refine Kd.C_alloc ?_ _) | (with_reducible refine Kd.C_drewN ?_ _) | (with_reducible refine Kd.C_drew ?_))); (case side2 => exact HC0_1.out); rintro e w18 ⟨rfl, hb⟩; refine ⟨_, rfl, ?_⟩; have n0_ := Aside0.mk (blk_below (g := gb156) (o := .cells #[.int .i64 a0_0, .slice A0_1 l0_1.length c0_1] 27 (0, 0)) (by (with_reducible repeat (first | refine blk_drewN ?_ _ | refine blk_drew ?_ | refine blk_alloc ?_ _)); exact BK156.out) hb); have n1_ := Aside0.mk (blk_below (g := gb157) (o := .cells #[.int .i64 0, .slice none 0 0] 27 (0, 0)) (by (with_reducible repeat (first | refine blk_drewN ?_ _ | refine blk_drew ?_ | refine blk_alloc ?_ _)); exact BK157.out) hb); have n2_ := Aside0.mk (below_step (by repeat (first | (with_reducible first | exact HB.out | apply below_alloc | apply pw_below_drewN | apply below_drew1 | refine below_set ?_ GE156.out | refine below_set ?_ GE157.out) | exact HB.out)) hb); clear BK156; clear BK157; clear HB; have BK156 := n0_; have BK157 := n1_; have HB := n2_; clear n0_ n1_ n2_; (try clear hb); (try clear hb2); (try clear hk); (try clear hi)) | (go_at_call 37; (with_reducible refine (spec_l5in.calls a1 0 15 true _ A13.out).mono ?_); rintro e w' ⟨rfl, ⟨nd, rfl⟩⟩))
          go_meet
          case rel => exact ⟨_, (true), (by first | rfl | (simp; done) | (simp [*]; done)), H', ⟨by first | omega | exact Nat.le_refl _⟩, ⟨by (with_reducible repeat (first | refine blk_drewN ?_ _ | refine blk_drew ?_ | refine blk_alloc ?_ _)); exact BK156.out⟩, ⟨by (with_reducible repeat (first | refine blk_drewN ?_ _ | refine blk_drew ?_ | refine blk_alloc ?_ _)); exact BK157.out⟩, ⟨by repeat (first | (with_reducible first | exact HB.out | apply below_alloc | apply pw_below_drewN | apply below_drew1 | refine below_set ?_ GE156.out | refine below_set ?_ GE157.out) | exact HB.out)⟩⟩
        · rw [if_neg c15] at H
          have c15b0 : ((l2.length : Int) == 0) = false := beq_eq_false_iff_ne.mpr c15
          have c15b1 : ((l2.length : Int) != 0) = true := bne_iff_ne.mpr c15
          have c15b2 : ¬ (l2 = []) := fun h_ => c15 (by rw [h_]; rfl)
          by_cases c19 : (l2.length : Int) > 92
          · rw [if_pos c19] at H
            have c19b0 : decide (92 < (l2.length : Int)) = true := decide_eq_true c19
            have c19b1 : decide (92 < l2.length) = true := decide_eq_true (by omega)
            clear c19
            have H' := Aside0.mk H
            clear H
            have hnb20 := NB156_157.out
            have hnc20 := NB157_156.out
            have hcz21_0 : w7.cell? ⟨gb156, 0, none⟩ = some (.int .i64 a0_0) := (blk_cell BK156.out 0).trans rfl
            have hcz21_1 : w7.cell? ⟨gb156, 1, none⟩ = some (.slice A0_1 l0_1.length c0_1) := (blk_cell BK156.out 1).trans rfl
            have hfz21_0 := blk_frozen BK156.out 0
            have hfz21_1 := blk_frozen BK156.out 1
            go_wp2_with (first | ((with_reducible refine gate_callee (f := 12) rfl ?_); refine goesL_ (some 12) rfl rfl Try.func12 (by kernel_rfl) rfl #[.agg #[.int .i64 a0_0, .slice A0_1 l0_1.length c0_1]] rfl (by (try simp only [List.map_toArray, List.map_cons, List.map_nil]); first | done | rfl | (simp only [List.length_drop, List.length_take]; rfl)) ?_; (with_reducible refine (spec_PageUsed.calls k a0_0 _ _ l0_1 t158 _ ?side1 ?side2 A8.out).mono ?_); (case side1 => repeat (first | exact (Kd.C_below HR0_1.out HB.out) | (with_reducible refine Kd.C_alloc ?_ _) | (with_reducible refine Kd.C_drewN ?_ _) | (with_reducible refine Kd.C_drew ?_))); (case side2 => exact HC0_1.out); rintro e w22 ⟨rfl, hb⟩; refine ⟨_, rfl, ?_⟩; have n0_ := Aside0.mk (blk_below (g := gb156) (o := .cells #[.int .i64 a0_0, .slice A0_1 l0_1.length c0_1] 27 (0, 0)) (by (with_reducible repeat (first | refine blk_drewN ?_ _ | refine blk_drew ?_ | refine blk_alloc ?_ _)); exact BK156.out) hb); have n1_ := Aside0.mk (blk_below (g := gb157) (o := .cells #[.int .i64 0, .slice none 0 0] 27 (0, 0)) (by (with_reducible repeat (first | refine blk_drewN ?_ _ | refine blk_drew ?_ | refine blk_alloc ?_ _)); exact BK157.out) hb); have n2_ := Aside0.mk (below_step (by repeat (first | (with_reducible first | exact HB.out | apply below_alloc | apply pw_below_drewN | apply below_drew1 | refine below_set ?_ GE156.out | refine below_set ?_ GE157.out) | exact HB.out)) hb); clear BK156; clear BK157; clear HB; have BK156 := n0_; have BK157 := n1_; have HB := n2_; clear n0_ n1_ n2_; (try clear hb); (try clear hb2); (try clear hk); (try clear hi)) | (go_at_call 37; (with_reducible refine (spec_l5in.calls a1 0 15 true _ A13.out).mono ?_); rintro e w' ⟨rfl, ⟨nd, rfl⟩⟩))
            go_meet
            case rel => exact ⟨_, (true), (by first | rfl | (simp; done) | (simp [*]; done)), H', ⟨by first | omega | exact Nat.le_refl _⟩, ⟨by (with_reducible repeat (first | refine blk_drewN ?_ _ | refine blk_drew ?_ | refine blk_alloc ?_ _)); exact BK156.out⟩, ⟨by (with_reducible repeat (first | refine blk_drewN ?_ _ | refine blk_drew ?_ | refine blk_alloc ?_ _)); exact BK157.out⟩, ⟨by repeat (first | (with_reducible first | exact HB.out | apply below_alloc | apply pw_below_drewN | apply below_drew1 | refine below_set ?_ GE156.out | refine below_set ?_ GE157.out) | exact HB.out)⟩⟩
          · rw [if_neg c19] at H
            have c19b0 : decide (92 < (l2.length : Int)) = false := decide_eq_false c19
            have c19b1 : decide (92 < l2.length) = false := decide_eq_false (by omega)
            clear c19
            replace H := Option.bind_eq_some_iff.mp H
            obtain ⟨t160, A230, H⟩ := H
            replace H : (spec_PagePut.j0 k a1 l2 a3 (!t160) a0_0 l0_1) = some (r1, r2, r3) := H
            have A23 := Aside0.mk A230
            clear A230
            have H' := Aside0.mk H
            clear H
            have hnb24 := NB156_157.out
            have hnc24 := NB157_156.out
            have hcz25_0 : w7.cell? ⟨gb156, 0, none⟩ = some (.int .i64 a0_0) := (blk_cell BK156.out 0).trans rfl
            have hcz25_1 : w7.cell? ⟨gb156, 1, none⟩ = some (.slice A0_1 l0_1.length c0_1) := (blk_cell BK156.out 1).trans rfl
            have hfz25_0 := blk_frozen BK156.out 0
            have hfz25_1 := blk_frozen BK156.out 1
            go_wp2_with (first | ((with_reducible refine gate_callee (f := 12) rfl ?_); refine goesL_ (some 12) rfl rfl Try.func12 (by kernel_rfl) rfl #[.agg #[.int .i64 a0_0, .slice A0_1 l0_1.length c0_1]] rfl (by (try simp only [List.map_toArray, List.map_cons, List.map_nil]); first | done | rfl | (simp only [List.length_drop, List.length_take]; rfl)) ?_; (with_reducible refine (spec_PageUsed.calls k a0_0 _ _ l0_1 t158 _ ?side1 ?side2 A8.out).mono ?_); (case side1 => repeat (first | exact (Kd.C_below HR0_1.out HB.out) | (with_reducible refine Kd.C_alloc ?_ _) | (with_reducible refine Kd.C_drewN ?_ _) | (with_reducible refine Kd.C_drew ?_))); (case side2 => exact HC0_1.out); rintro e w26 ⟨rfl, hb⟩; refine ⟨_, rfl, ?_⟩; have n0_ := Aside0.mk (blk_below (g := gb156) (o := .cells #[.int .i64 a0_0, .slice A0_1 l0_1.length c0_1] 27 (0, 0)) (by (with_reducible repeat (first | refine blk_drewN ?_ _ | refine blk_drew ?_ | refine blk_alloc ?_ _)); exact BK156.out) hb); have n1_ := Aside0.mk (blk_below (g := gb157) (o := .cells #[.int .i64 0, .slice none 0 0] 27 (0, 0)) (by (with_reducible repeat (first | refine blk_drewN ?_ _ | refine blk_drew ?_ | refine blk_alloc ?_ _)); exact BK157.out) hb); have n2_ := Aside0.mk (below_step (by repeat (first | (with_reducible first | exact HB.out | apply below_alloc | apply pw_below_drewN | apply below_drew1 | refine below_set ?_ GE156.out | refine below_set ?_ GE157.out) | exact HB.out)) hb); clear BK156; clear BK157; clear HB; have BK156 := n0_; have BK157 := n1_; have HB := n2_; clear n0_ n1_ n2_; (try clear hb); (try clear hb2); (try clear hk); (try clear hi)) | (go_at_call 37; (with_reducible refine (spec_l5in.calls a1 0 15 true _ A13.out).mono ?_); rintro e w' ⟨rfl, ⟨nd, rfl⟩⟩) | (go_at_call 37; (with_reducible refine (spec_l5in.calls a3 1 1000000 t160 _ A23.out).mono ?_); rintro e w' ⟨rfl, ⟨nd, rfl⟩⟩))
            go_meet
            case rel => exact ⟨_, (!t160), (by first | rfl | (simp; done) | (simp [*]; done)), H', ⟨by first | omega | exact Nat.le_refl _⟩, ⟨by (with_reducible repeat (first | refine blk_drewN ?_ _ | refine blk_drew ?_ | refine blk_alloc ?_ _)); exact BK156.out⟩, ⟨by (with_reducible repeat (first | refine blk_drewN ?_ _ | refine blk_drew ?_ | refine blk_alloc ?_ _)); exact BK157.out⟩, ⟨by repeat (first | (with_reducible first | exact HB.out | apply below_alloc | apply pw_below_drewN | apply below_drew1 | refine below_set ?_ GE156.out | refine below_set ?_ GE157.out) | exact HB.out)⟩⟩
      · replace c14 := Bool.eq_false_iff.mpr c14
        subst c14
        have H1 : (spec_PagePut.j0 k a1 l2 a3 true a0_0 l0_1) = some (r1, r2, r3) := by rw [if_neg (show ¬ (false = true) by decide)] at H; exact H
        clear H
        have H := H1
        clear H1
        have H' := Aside0.mk H
        clear H
        have hnb27 := NB156_157.out
        have hnc27 := NB157_156.out
        have hcz28_0 : w7.cell? ⟨gb156, 0, none⟩ = some (.int .i64 a0_0) := (blk_cell BK156.out 0).trans rfl
        have hcz28_1 : w7.cell? ⟨gb156, 1, none⟩ = some (.slice A0_1 l0_1.length c0_1) := (blk_cell BK156.out 1).trans rfl
        have hfz28_0 := blk_frozen BK156.out 0
        have hfz28_1 := blk_frozen BK156.out 1
        go_wp2_with (first | ((with_reducible refine gate_callee (f := 12) rfl ?_); refine goesL_ (some 12) rfl rfl Try.func12 (by kernel_rfl) rfl #[.agg #[.int .i64 a0_0, .slice A0_1 l0_1.length c0_1]] rfl (by (try simp only [List.map_toArray, List.map_cons, List.map_nil]); first | done | rfl | (simp only [List.length_drop, List.length_take]; rfl)) ?_; (with_reducible refine (spec_PageUsed.calls k a0_0 _ _ l0_1 t158 _ ?side1 ?side2 A8.out).mono ?_); (case side1 => repeat (first | exact (Kd.C_below HR0_1.out HB.out) | (with_reducible refine Kd.C_alloc ?_ _) | (with_reducible refine Kd.C_drewN ?_ _) | (with_reducible refine Kd.C_drew ?_))); (case side2 => exact HC0_1.out); rintro e w29 ⟨rfl, hb⟩; refine ⟨_, rfl, ?_⟩; have n0_ := Aside0.mk (blk_below (g := gb156) (o := .cells #[.int .i64 a0_0, .slice A0_1 l0_1.length c0_1] 27 (0, 0)) (by (with_reducible repeat (first | refine blk_drewN ?_ _ | refine blk_drew ?_ | refine blk_alloc ?_ _)); exact BK156.out) hb); have n1_ := Aside0.mk (blk_below (g := gb157) (o := .cells #[.int .i64 0, .slice none 0 0] 27 (0, 0)) (by (with_reducible repeat (first | refine blk_drewN ?_ _ | refine blk_drew ?_ | refine blk_alloc ?_ _)); exact BK157.out) hb); have n2_ := Aside0.mk (below_step (by repeat (first | (with_reducible first | exact HB.out | apply below_alloc | apply pw_below_drewN | apply below_drew1 | refine below_set ?_ GE156.out | refine below_set ?_ GE157.out) | exact HB.out)) hb); clear BK156; clear BK157; clear HB; have BK156 := n0_; have BK157 := n1_; have HB := n2_; clear n0_ n1_ n2_; (try clear hb); (try clear hb2); (try clear hk); (try clear hi)) | (go_at_call 37; (with_reducible refine (spec_l5in.calls a1 0 15 false _ A13.out).mono ?_); rintro e w' ⟨rfl, ⟨nd, rfl⟩⟩))
        go_meet
        case rel => exact ⟨_, (true), (by first | rfl | (simp; done) | (simp [*]; done)), H', ⟨by first | omega | exact Nat.le_refl _⟩, ⟨by (with_reducible repeat (first | refine blk_drewN ?_ _ | refine blk_drew ?_ | refine blk_alloc ?_ _)); exact BK156.out⟩, ⟨by (with_reducible repeat (first | refine blk_drewN ?_ _ | refine blk_drew ?_ | refine blk_alloc ?_ _)); exact BK157.out⟩, ⟨by repeat (first | (with_reducible first | exact HB.out | apply below_alloc | apply pw_below_drewN | apply below_drew1 | refine below_set ?_ GE156.out | refine below_set ?_ GE157.out) | exact HB.out)⟩⟩
  case rest =>
    clear HC5
    try clear c1
    try clear c2
    try clear p2
    try clear c9
    try clear c9b0
    try clear c10
    try clear c12
    try clear c14
    try clear c15
    try clear c15b0
    try clear c15b1
    try clear c15b2
    try clear c16
    try clear c19
    try clear c19b0
    try clear c19b1
    try clear c20
    try clear c22
    try clear c24
    try clear c27
    try clear hcz11_0
    try clear hcz11_1
    try clear hcz17_0
    try clear hcz17_1
    try clear hcz21_0
    try clear hcz21_1
    try clear hcz25_0
    try clear hcz25_1
    try clear hcz28_0
    try clear hcz28_1
    try clear hfz11_0
    try clear hfz11_1
    try clear hfz17_0
    try clear hfz17_1
    try clear hfz21_0
    try clear hfz21_1
    try clear hfz25_0
    try clear hfz25_1
    try clear hfz28_0
    try clear hfz28_1
    obtain ⟨kq, x33_4, rfl, HA, HJ4, BK156, BK157, HB⟩ := hcut
    cases kq with
    | zero => exact absurd HA.out (by simp [spec_PagePut.j0])
    | succ kj4 =>
      have H := HA.out
      clear HA
      simp only [spec_PagePut.j0] at H
      by_cases c30 : x33_4 = true
      · subst c30
        have H1 : (some (0, ([] : List (List Int)), false)) = some (r1, r2, r3) := by rw [if_pos rfl] at H; exact H
        clear H
        have H := H1
        clear H1
        simp only [Option.some.injEq, Prod.mk.injEq] at H
        obtain ⟨rfl, rfl, rfl⟩ := H
        have hnb31 := NB157_156.out
        have hnc31 := NB156_157.out
        have hcz32_0 : wc.cell? ⟨gb157, 0, none⟩ = some (.int .i64 0) := (blk_cell BK157.out 0).trans rfl
        have hcz32_1 : wc.cell? ⟨gb157, 1, none⟩ = some (.slice none 0 0) := (blk_cell BK157.out 1).trans rfl
        have hfz32_0 := blk_frozen BK157.out 0
        have hfz32_1 := blk_frozen BK157.out 1
        go_wp2
        refine bodyPost_ret (results_ct rfl _ _ gb157 27 #[.int .i64 0, .slice none 0 0] (0, 0) _ rfl (by (with_reducible repeat (first | refine blk_drewN ?_ _ | refine blk_drew ?_ | refine blk_alloc ?_ _)); refine blk_put (cs := #[.int .i64 0, .slice none 0 0]) ?_ 1 _ rfl; (with_reducible repeat (first | refine blk_drewN ?_ _ | refine blk_drew ?_ | refine blk_alloc ?_ _)); refine blk_put (cs := #[.int .i64 0, .slice none 0 0]) ?_ 0 _ rfl; (with_reducible repeat (first | refine blk_drewN ?_ _ | refine blk_drew ?_ | refine blk_alloc ?_ _)); exact BK157.out) Try.underlying27 rfl (by kernel_rfl)) rfl ?_
        exact ⟨_, by first | rfl | (simp [errW_none, errW_some] <;> rfl) | (simp [*, errW_none, errW_some] <;> rfl), by first | exact Kd.S_nil _ _ _ _ _ | exact Kd.N_nil _ _ _ _ _ | exact Kd.V_nil _ _ _ _ _ | exact Kd.Q_nil _ _ _ _ _ | exact Kd.R_nil _ _ _ _ _, by repeat (first | (with_reducible first | exact HB.out | apply below_alloc | apply pw_below_drewN | apply below_drew1 | refine below_set ?_ GE156.out | refine below_set ?_ GE157.out) | exact HB.out)⟩
      · replace c30 := Bool.eq_false_iff.mpr c30
        subst c30
        have H1 : ((spec_l7copy.f kj4 a0_0 l0_1).bind fun bt161 => (spec_PagePut.l0 kj4 a1 l2 a3 bt161.1 bt161.2)) = some (r1, r2, r3) := by rw [if_neg (show ¬ (false = true) by decide)] at H; exact H
        clear H
        have H := H1
        clear H1
        replace H := Option.bind_eq_some_iff.mp H
        obtain ⟨⟨t161, t162⟩, A330, H⟩ := H
        replace H : (spec_PagePut.l0 kj4 a1 l2 a3 t161 t162) = some (r1, r2, r3) := H
        have A33 := Aside0.mk A330
        clear A330
        have H' := Aside0.mk H
        clear H
        have hnb34 := NB156_157.out
        have hnc34 := NB157_156.out
        have hcz35_0 : wc.cell? ⟨gb156, 0, none⟩ = some (.int .i64 a0_0) := (blk_cell BK156.out 0).trans rfl
        have hcz35_1 : wc.cell? ⟨gb156, 1, none⟩ = some (.slice A0_1 l0_1.length c0_1) := (blk_cell BK156.out 1).trans rfl
        have hfz35_0 := blk_frozen BK156.out 0
        have hfz35_1 := blk_frozen BK156.out 1
        go_wp2_with (first | ((with_reducible refine gate_callee (f := 43) rfl ?_); refine goesL_ (some 36) rfl rfl Try.func43 (by kernel_rfl) rfl #[.agg #[.int .i64 a0_0, .slice A0_1 l0_1.length c0_1]] rfl (by (try simp only [List.map_toArray, List.map_cons, List.map_nil]); first | done | rfl | (simp only [List.length_drop, List.length_take]; rfl)) ?_; (with_reducible refine (spec_l7copy.calls kj4 a0_0 _ _ l0_1 t161 t162 _ ?side1 ?side2 A33.out).mono ?_); (case side1 => repeat (first | exact (Kd.C_below HR0_1.out HB.out) | (with_reducible refine Kd.C_alloc ?_ _) | (with_reducible refine Kd.C_drewN ?_ _) | (with_reducible refine Kd.C_drew ?_))); (case side2 => exact HC0_1.out); rintro e w36 ⟨v163, rfl, ho0, hb⟩; refine ⟨_, rfl, ?_⟩; have n0_ := Aside0.mk (Kd.N_lower (Kd.N_mono (ok' := fun k_ => (w.heap.size ≤ k_) ∧ k_ ≠ gb156 ∧ k_ ≠ gb157) (Kd.S_N (Kd.S_bound ho0)) (fun k_ hk_ => ⟨(Nat.le_trans (below_size (by repeat (first | (with_reducible first | exact HB.out | apply below_alloc | apply pw_below_drewN | apply below_drew1 | refine below_set ?_ GE156.out | refine below_set ?_ GE157.out) | exact HB.out))) hk_.2.1), (Kd.freshB (g := gb156) (o := .cells #[.int .i64 a0_0, .slice A0_1 l0_1.length c0_1] 27 (0, 0)) (by (with_reducible repeat (first | refine blk_drewN ?_ _ | refine blk_drew ?_ | refine blk_alloc ?_ _)); exact BK156.out) k_ hk_.2.1), (Kd.freshB (g := gb157) (o := .cells #[.int .i64 0, .slice none 0 0] 27 (0, 0)) (by (with_reducible repeat (first | refine blk_drewN ?_ _ | refine blk_drew ?_ | refine blk_alloc ?_ _)); exact BK157.out) k_ hk_.2.1)⟩)) (below_size (by repeat (first | (with_reducible first | exact HB.out | apply below_alloc | apply pw_below_drewN | apply below_drew1 | refine below_set ?_ GE156.out | refine below_set ?_ GE157.out) | exact HB.out)))); have n1_ := Aside0.mk (blk_below (g := gb156) (o := .cells #[.int .i64 a0_0, .slice A0_1 l0_1.length c0_1] 27 (0, 0)) (by (with_reducible repeat (first | refine blk_drewN ?_ _ | refine blk_drew ?_ | refine blk_alloc ?_ _)); exact BK156.out) hb); have n2_ := Aside0.mk (blk_below (g := gb157) (o := .cells #[.int .i64 0, .slice none 0 0] 27 (0, 0)) (by (with_reducible repeat (first | refine blk_drewN ?_ _ | refine blk_drew ?_ | refine blk_alloc ?_ _)); exact BK157.out) hb); have n3_ := Aside0.mk (below_step (by repeat (first | (with_reducible first | exact HB.out | apply below_alloc | apply pw_below_drewN | apply below_drew1 | refine below_set ?_ GE156.out | refine below_set ?_ GE157.out) | exact HB.out)) hb); clear BK156; clear BK157; clear HB; have HO164 := n0_; have BK156 := n1_; have BK157 := n2_; have HB := n3_; clear n0_ n1_ n2_ n3_; (try clear hb); (try clear hb2); (try clear hk); (try clear hi); (try clear ho0)) | ((with_reducible refine gate_dst (N := 10) rfl ?_); (try (refine gate_guard (by rfl) ?_; dsimp only)); refine box_event ?hg (N := 10) ?hd (cs := #[.int .i64 0, .slice none 0 0]) (t := 27) ?hr ?_; (case hd => rfl); (case hg => rfl); (case hr => first | (go_simp; done) | (go_simp; rfl)); intro gb165 hg w37 hbox hb; have n0_ := Aside0.mk (Kd.N_below (Kd.N_elderB (by (with_reducible repeat (first | apply Kd.N_alloc | apply Kd.N_drewN | apply Kd.N_drew)); exact HO164.out) gb165 (Nat.le_of_eq hg.symm)) hb); have n1_ := Aside0.mk (blk_below (g := gb156) (o := .cells #[.int .i64 a0_0, .slice A0_1 l0_1.length c0_1] 27 (0, 0)) (by (with_reducible repeat (first | refine blk_drewN ?_ _ | refine blk_drew ?_ | refine blk_alloc ?_ _)); exact BK156.out) hb); have n2_ := Aside0.mk (blk_below (g := gb157) (o := .cells #[.int .i64 0, .slice none 0 0] 27 (0, 0)) (by (with_reducible repeat (first | refine blk_drewN ?_ _ | refine blk_drew ?_ | refine blk_alloc ?_ _)); exact BK157.out) hb); have n3_ := Aside0.mk (below_step (by repeat (first | (with_reducible first | exact HB.out | apply below_alloc | apply pw_below_drewN | apply below_drew1 | refine below_set ?_ GE156.out | refine below_set ?_ GE157.out) | exact HB.out)) hb); have n4_ := Aside0.mk (hbox); have n5_ := Aside0.mk ((by rw [hg]; exact (below_size (by repeat (first | (with_reducible first | exact HB.out | apply below_alloc | apply pw_below_drewN | apply below_drew1 | refine below_set ?_ GE156.out | refine below_set ?_ GE157.out) | exact HB.out))) : w.heap.size ≤ gb165)); have n6_ := Aside0.mk ((by rw [hg]; exact (below_size (by repeat (first | (with_reducible first | exact HB.out | apply below_alloc | apply pw_below_drewN | apply below_drew1 | refine below_set ?_ GE156.out | refine below_set ?_ GE157.out) | exact HB.out))) : w.heap.size ≤ gb165)); have n7_ := Aside0.mk ((by rw [hg]; exact Nat.ne_of_lt (blk_lt (g := gb156) (o := .cells #[.int .i64 a0_0, .slice A0_1 l0_1.length c0_1] 27 (0, 0)) (by (with_reducible repeat (first | refine blk_drewN ?_ _ | refine blk_drew ?_ | refine blk_alloc ?_ _)); exact BK156.out)) : gb156 ≠ gb165)); have n8_ := Aside0.mk ((by rw [hg]; exact Nat.ne_of_gt (blk_lt (g := gb156) (o := .cells #[.int .i64 a0_0, .slice A0_1 l0_1.length c0_1] 27 (0, 0)) (by (with_reducible repeat (first | refine blk_drewN ?_ _ | refine blk_drew ?_ | refine blk_alloc ?_ _)); exact BK156.out)) : gb165 ≠ gb156)); have n9_ := Aside0.mk ((by rw [hg]; exact Nat.ne_of_lt (blk_lt (g := gb157) (o := .cells #[.int .i64 0, .slice none 0 0] 27 (0, 0)) (by (with_reducible repeat (first | refine blk_drewN ?_ _ | refine blk_drew ?_ | refine blk_alloc ?_ _)); exact BK157.out)) : gb157 ≠ gb165)); have n10_ := Aside0.mk ((by rw [hg]; exact Nat.ne_of_gt (blk_lt (g := gb157) (o := .cells #[.int .i64 0, .slice none 0 0] 27 (0, 0)) (by (with_reducible repeat (first | refine blk_drewN ?_ _ | refine blk_drew ?_ | refine blk_alloc ?_ _)); exact BK157.out)) : gb165 ≠ gb157)); clear HO164; clear BK156; clear BK157; clear HB; have HO164 := n0_; have BK156 := n1_; have BK157 := n2_; have HB := n3_; have BK165 := n4_; have GW165 := n5_; have GE165 := n6_; have NB156_165 := n7_; have NB165_156 := n8_; have NB157_165 := n9_; have NB165_157 := n10_; clear n0_ n1_ n2_ n3_ n4_ n5_ n6_ n7_ n8_ n9_ n10_; clear hb hbox hg; have hnb38 := NB165_156.out; have hnc38 := NB156_165.out; have hnb39 := NB165_157.out; have hnc39 := NB157_165.out; have hcz40_0 : w37.cell? ⟨gb165, 0, none⟩ = some (.int .i64 0) := (blk_cell BK165.out 0).trans rfl; have hcz40_1 : w37.cell? ⟨gb165, 1, none⟩ = some (.slice none 0 0) := (blk_cell BK165.out 1).trans rfl; have hfz40_0 := blk_frozen BK165.out 0; have hfz40_1 := blk_frozen BK165.out 1; obtain ⟨Ao41, co41, eo41⟩ := Kd.N_slice HO164.out; subst eo41))
        go_loopg [] kj4 (fun kq w' => ∃ (x166001_2 : List (List Int)) (u166001 : Value), Aside0 (spec_PagePut.l0 kq a1 l2 a3 t161 x166001_2 = some (r1, r2, r3)) ∧ Aside0 (kq ≤ kj4) ∧ Aside0 (Kd.N (Kd.slice 5 (Kd.int .u8)) 36 w' w.heap.size (fun k_ => (w.heap.size ≤ k_) ∧ k_ ≠ gb156 ∧ k_ ≠ gb157 ∧ k_ ≠ gb165) u166001 x166001_2) ∧ Aside0 (w'.heap[gb156]? = some (.cells #[.int .i64 a0_0, (.slice A0_1 l0_1.length c0_1)] 27 (0, 0))) ∧ Aside0 (w'.heap[gb157]? = some (.cells #[.int .i64 0, (.slice none 0 0)] 27 (0, 0))) ∧ Aside0 (w'.heap[gb165]? = some (.cells #[.int .i64 t161, u166001] 27 (0, 0))) ∧ Aside0 (Below w.heap.size w w'))
        case atStart => exact ⟨(t162), (.slice Ao41 t162.length co41), H', ⟨Nat.le_refl _⟩, ⟨by (with_reducible repeat (first | apply Kd.N_alloc | apply Kd.N_drewN | apply Kd.N_drew)); exact Kd.N_mono (Kd.N_far (p := ⟨gb165, 1, none⟩) (Kd.N_far (p := ⟨gb165, 0, none⟩) (Kd.N_mono HO164.out (fun k_ hk => (⟨hk, hk.2⟩ : _ ∧ k_ ≠ gb165))) (fun _ hk => hk.2) (.int .i64 t161)) (fun _ hk => hk.2) (.slice Ao41 t162.length co41)) (fun _ hk => ⟨hk.1.1.1, ⟨hk.1.1.2.1, ⟨hk.1.1.2.2, hk.1.2⟩⟩⟩)⟩, ⟨by (with_reducible repeat (first | refine blk_drewN ?_ _ | refine blk_drew ?_ | refine blk_alloc ?_ _)); refine blk_far ?_ NB156_165.out _; (with_reducible repeat (first | refine blk_drewN ?_ _ | refine blk_drew ?_ | refine blk_alloc ?_ _)); refine blk_far ?_ NB156_165.out _; (with_reducible repeat (first | refine blk_drewN ?_ _ | refine blk_drew ?_ | refine blk_alloc ?_ _)); exact BK156.out⟩, ⟨by (with_reducible repeat (first | refine blk_drewN ?_ _ | refine blk_drew ?_ | refine blk_alloc ?_ _)); refine blk_far ?_ NB157_165.out _; (with_reducible repeat (first | refine blk_drewN ?_ _ | refine blk_drew ?_ | refine blk_alloc ?_ _)); refine blk_far ?_ NB157_165.out _; (with_reducible repeat (first | refine blk_drewN ?_ _ | refine blk_drew ?_ | refine blk_alloc ?_ _)); exact BK157.out⟩, ⟨by (with_reducible repeat (first | refine blk_drewN ?_ _ | refine blk_drew ?_ | refine blk_alloc ?_ _)); refine blk_put (cs := #[.int .i64 t161, .slice none 0 0]) ?_ 1 _ rfl; (with_reducible repeat (first | refine blk_drewN ?_ _ | refine blk_drew ?_ | refine blk_alloc ?_ _)); refine blk_put (cs := #[.int .i64 0, .slice none 0 0]) ?_ 0 _ rfl; (with_reducible repeat (first | refine blk_drewN ?_ _ | refine blk_drew ?_ | refine blk_alloc ?_ _)); exact BK165.out⟩, ⟨by repeat (first | (with_reducible first | exact HB.out | apply below_alloc | apply pw_below_drewN | apply below_drew1 | refine below_set ?_ GE156.out | refine below_set ?_ GE157.out | refine below_set ?_ GE165.out) | exact HB.out)⟩⟩
        case round =>
          clear H'
          try clear c1
          try clear c2
          try clear p2
          try clear c3
          try clear c4
          try clear c9
          try clear c9b0
          try clear c10
          try clear c12
          try clear c14
          try clear c15
          try clear c15b0
          try clear c15b1
          try clear c15b2
          try clear c16
          try clear c19
          try clear c19b0
          try clear c19b1
          try clear c20
          try clear c22
          try clear c24
          try clear c27
          try clear c30
          try clear c31
          try clear c34
          try clear c38
          try clear c39
          try clear hcz11_0
          try clear hcz11_1
          try clear hcz17_0
          try clear hcz17_1
          try clear hcz21_0
          try clear hcz21_1
          try clear hcz25_0
          try clear hcz25_1
          try clear hcz28_0
          try clear hcz28_1
          try clear hcz32_0
          try clear hcz32_1
          try clear hcz35_0
          try clear hcz35_1
          try clear hcz40_0
          try clear hcz40_1
          try clear hfz11_0
          try clear hfz11_1
          try clear hfz17_0
          try clear hfz17_1
          try clear hfz21_0
          try clear hfz21_1
          try clear hfz25_0
          try clear hfz25_1
          try clear hfz28_0
          try clear hfz28_1
          try clear hfz32_0
          try clear hfz32_1
          try clear hfz35_0
          try clear hfz35_1
          try clear hfz40_0
          try clear hfz40_1
          try clear p2
          obtain ⟨x166001_2, u166001, HA, HK2, HO_166001, BK156, BK157, BK165, HB⟩ := hrel
          cases gk with
          | zero => exact absurd HA.out (by simp [spec_PagePut.l0])
          | succ k2 =>
            have H := HA.out
            clear HA
            simp only [spec_PagePut.l0] at H
            by_cases c42 : (x166001_2.length : Int) ≤ a1
            · rw [if_pos c42] at H
              have c42b0 : decide ((x166001_2.length : Int) ≤ a1) = true := decide_eq_true c42
              clear c42
              by_cases c43 : x166001_2.length < 5864062014805
              · rw [if_pos c43] at H
                have LMc43 := Aside0.mk c43
                clear c43
                obtain ⟨y166, hy166⟩ : ∃ y_ : List (List Int), y_ = (x166001_2 ++ [[]]) := ⟨_, rfl⟩
                replace H : (spec_PagePut.l0 k2 a1 l2 a3 t161 y166) = some (r1, r2, r3) := by first | (rw [hy166]; with_reducible exact H) | (have H2_ := (Option.bind_some _ _).symm.trans H; rw [hy166]; with_reducible exact H2_) | (have H2_ := (Option.bind_some _ _).symm.trans H; with_reducible exact H2_) | with_reducible exact H | (rw [hy166]; exact H) | exact H
                have Ny166 := Aside0.mk hy166
                clear hy166
                have H' := Aside0.mk H
                clear H
                have hnb44 := NB165_156.out
                have hnc44 := NB156_165.out
                have hnb45 := NB165_157.out
                have hnc45 := NB157_165.out
                have hcz46_0 : wr.cell? ⟨gb165, 0, none⟩ = some (.int .i64 t161) := (blk_cell BK165.out 0).trans rfl
                have hcz46_1 : wr.cell? ⟨gb165, 1, none⟩ = some (u166001) := (blk_cell BK165.out 1).trans rfl
                have hfz46_0 := blk_frozen BK165.out 0
                have hfz46_1 := blk_frozen BK165.out 1
                obtain ⟨Ao47, co47, eo47⟩ := Kd.N_slice HO_166001.out
                subst eo47
                go_wp2_with (first | ((with_reducible refine gate_builtin (b := .append) (xs := #[.tmp 43, .tmp 44]) rfl ?_); (try (refine gate_guard (by rfl) ?_; dsimp only)); at_builtin; refine Kd.N_append (Kd.slice 5 (Kd.int .u8)) (w0 := w) w.heap.size rfl (.tmp 43) (.tmp 44) 22 36 (.slice none 0 0) 24 rfl Try.underlying22 info36 rfl (by decide) (by omega) (.slice Ao47 x166001_2.length co47) x166001_2 ([] : List Int) [.slice none 0 0] (fun k_ => (w.heap.size ≤ k_) ∧ k_ ≠ gb156 ∧ k_ ≠ gb157 ∧ k_ ≠ gb165) (fun k_ => ((fun k_ => (w.heap.size ≤ k_) ∧ k_ ≠ gb156 ∧ k_ ≠ gb157 ∧ k_ ≠ gb165)) k_ ∧ some k_ ≠ (.slice Ao47 x166001_2.length co47 : Value).ownBlock) rfl rfl ?aP (fun _ hk => hk) ?aF ?aO ?aB ?aS ?aL ?_; (case aP => exact (Kd.FK_slice_mk (Nat.le_refl _) (Kd.F_nil _ _ _))); (case aB => exact (by repeat (first | (with_reducible first | exact HB.out | apply below_alloc | apply pw_below_drewN | apply below_drew1 | refine below_set ?_ GE156.out | refine below_set ?_ GE157.out | refine below_set ?_ GE165.out) | exact HB.out))); (case aF => exact (fun k_ hk => ⟨(Nat.le_trans (below_size (by repeat (first | (with_reducible first | exact HB.out | apply below_alloc | apply pw_below_drewN | apply below_drew1 | refine below_set ?_ GE156.out | refine below_set ?_ GE157.out | refine below_set ?_ GE165.out) | exact HB.out))) hk), Kd.freshB (g := gb156) (o := .cells #[.int .i64 a0_0, .slice A0_1 l0_1.length c0_1] 27 (0, 0)) (by (with_reducible repeat (first | refine blk_drewN ?_ _ | refine blk_drew ?_ | refine blk_alloc ?_ _)); exact BK156.out) k_ hk, Kd.freshB (g := gb157) (o := .cells #[.int .i64 0, .slice none 0 0] 27 (0, 0)) (by (with_reducible repeat (first | refine blk_drewN ?_ _ | refine blk_drew ?_ | refine blk_alloc ?_ _)); exact BK157.out) k_ hk, Kd.freshB (g := gb165) (o := .cells #[.int .i64 t161, .slice Ao47 x166001_2.length co47] 27 (0, 0)) (by (with_reducible repeat (first | refine blk_drewN ?_ _ | refine blk_drew ?_ | refine blk_alloc ?_ _)); exact BK165.out) k_ hk⟩)); (case aO => exact (by (with_reducible repeat (first | apply Kd.N_alloc | apply Kd.N_drewN | apply Kd.N_drew)); exact HO_166001.out)); (case aS => exact (below_size (by repeat (first | (with_reducible first | exact HB.out | apply below_alloc | apply pw_below_drewN | apply below_drew1 | refine below_set ?_ GE156.out | refine below_set ?_ GE157.out | refine below_set ?_ GE165.out) | exact HB.out)))); (case aL => have := LMc43.out; omega); intro v167 w48 ho hb hg hat; rw [← Ny166.out] at ho; have n0_ := Aside0.mk (blk_grown (g := gb156) (o := .cells #[.int .i64 a0_0, .slice A0_1 l0_1.length c0_1] 27 (0, 0)) (by (with_reducible repeat (first | refine blk_drewN ?_ _ | refine blk_drew ?_ | refine blk_alloc ?_ _)); exact BK156.out) hg (Kd.N_ne HO_166001.out BK156.out (by decide))); have n1_ := Aside0.mk (blk_grown (g := gb157) (o := .cells #[.int .i64 0, .slice none 0 0] 27 (0, 0)) (by (with_reducible repeat (first | refine blk_drewN ?_ _ | refine blk_drew ?_ | refine blk_alloc ?_ _)); exact BK157.out) hg (Kd.N_ne HO_166001.out BK157.out (by decide))); have n2_ := Aside0.mk (blk_grown (g := gb165) (o := .cells #[.int .i64 t161, .slice Ao47 x166001_2.length co47] 27 (0, 0)) (by (with_reducible repeat (first | refine blk_drewN ?_ _ | refine blk_drew ?_ | refine blk_alloc ?_ _)); exact BK165.out) hg (Kd.N_ne HO_166001.out BK165.out (by decide))); have n3_ := Aside0.mk (hb); have n4_ := Aside0.mk (ho); clear BK156; clear BK157; clear BK165; clear HB; clear HO_166001; have BK156 := n0_; have BK157 := n1_; have BK165 := n2_; have HB := n3_; have HO168 := n4_; clear n0_ n1_ n2_ n3_ n4_; clear ho hb hg hat; obtain ⟨Ao49, co49, eo49⟩ := Kd.N_slice HO168.out; subst eo49; have hcz50_0 : w48.cell? ⟨gb165, 0, none⟩ = some (.int .i64 t161) := (blk_cell BK165.out 0).trans rfl; have hcz50_1 : w48.cell? ⟨gb165, 1, none⟩ = some (.slice Ao47 x166001_2.length co47) := (blk_cell BK165.out 1).trans rfl; have hfz50_0 := blk_frozen BK165.out 0; have hfz50_1 := blk_frozen BK165.out 1))
                go_roundg k2
                case measure => have := HJ4.out; have := HK2.out; omega
                case rel => exact ⟨(y166), (.slice Ao49 y166.length co49), H', ⟨by have := HJ4.out; have := HK2.out; omega⟩, ⟨by (with_reducible repeat (first | apply Kd.N_alloc | apply Kd.N_drewN | apply Kd.N_drew)); exact Kd.N_mono (Kd.N_far (p := ⟨gb165, 1, none⟩) (Kd.N_mono HO168.out (fun k_ hk => (⟨hk, hk.2.2.2⟩ : _ ∧ k_ ≠ gb165))) (fun _ hk => hk.2) (.slice Ao49 y166.length co49)) (fun _ hk => ⟨hk.1.1, ⟨hk.1.2.1, ⟨hk.1.2.2.1, hk.1.2.2.2⟩⟩⟩)⟩, ⟨by (with_reducible repeat (first | refine blk_drewN ?_ _ | refine blk_drew ?_ | refine blk_alloc ?_ _)); refine blk_far ?_ NB156_165.out _; (with_reducible repeat (first | refine blk_drewN ?_ _ | refine blk_drew ?_ | refine blk_alloc ?_ _)); exact BK156.out⟩, ⟨by (with_reducible repeat (first | refine blk_drewN ?_ _ | refine blk_drew ?_ | refine blk_alloc ?_ _)); refine blk_far ?_ NB157_165.out _; (with_reducible repeat (first | refine blk_drewN ?_ _ | refine blk_drew ?_ | refine blk_alloc ?_ _)); exact BK157.out⟩, ⟨by (with_reducible repeat (first | refine blk_drewN ?_ _ | refine blk_drew ?_ | refine blk_alloc ?_ _)); refine blk_put (cs := #[.int .i64 t161, .slice Ao47 x166001_2.length co47]) ?_ 1 _ rfl; (with_reducible repeat (first | refine blk_drewN ?_ _ | refine blk_drew ?_ | refine blk_alloc ?_ _)); exact BK165.out⟩, ⟨by repeat (first | (with_reducible first | exact HB.out | apply below_alloc | apply pw_below_drewN | apply below_drew1 | refine below_set ?_ GE156.out | refine below_set ?_ GE157.out | refine below_set ?_ GE165.out) | exact HB.out)⟩⟩
              · rw [if_neg c43] at H
                exact absurd H (by simp)
            · rw [if_neg c42] at H
              have c42b0 : decide ((x166001_2.length : Int) ≤ a1) = false := decide_eq_false c42
              clear c42
              obtain ⟨y169, hy169⟩ : ∃ y_ : List Int, y_ = (([] : List Int)) := ⟨_, rfl⟩
              replace H : (if y169.length + l2.length < 140737488355328 then (if 0 ≤ a1 then (if a1 < (x166001_2.length : Int) then ((some (x166001_2.set (a1 : Int).toNat (y169 ++ l2) : List (List Int))).bind fun y175 => ((spec_PageUsed.f k2 a3 y175).bind fun t176 => (if t176 < 0 then (some (0, ([] : List (List Int)), false)) else (some (a3, y175, true))))) else (none)) else (none)) else (none)) = some (r1, r2, r3) := by first | (rw [hy169]; with_reducible exact H) | (have H2_ := (Option.bind_some _ _).symm.trans H; rw [hy169]; with_reducible exact H2_) | (have H2_ := (Option.bind_some _ _).symm.trans H; with_reducible exact H2_) | with_reducible exact H | (rw [hy169]; exact H) | exact H
              have Ny169 := Aside0.mk hy169
              clear hy169
              by_cases c51 : y169.length + l2.length < 140737488355328
              · rw [if_pos c51] at H
                have LMc51 := Aside0.mk c51
                clear c51
                obtain ⟨y172, hy172⟩ : ∃ y_ : List Int, y_ = (y169 ++ l2) := ⟨_, rfl⟩
                replace H : (if 0 ≤ a1 then (if a1 < (x166001_2.length : Int) then ((some (x166001_2.set (a1 : Int).toNat y172 : List (List Int))).bind fun y175 => ((spec_PageUsed.f k2 a3 y175).bind fun t176 => (if t176 < 0 then (some (0, ([] : List (List Int)), false)) else (some (a3, y175, true))))) else (none)) else (none)) = some (r1, r2, r3) := by first | (rw [hy172]; with_reducible exact H) | (have H2_ := (Option.bind_some _ _).symm.trans H; rw [hy172]; with_reducible exact H2_) | (have H2_ := (Option.bind_some _ _).symm.trans H; with_reducible exact H2_) | with_reducible exact H | (rw [hy172]; exact H) | exact H
                have Ny172 := Aside0.mk hy172
                clear hy172
                by_cases c52 : 0 ≤ a1
                · rw [if_pos c52] at H
                  have c52b0 : decide (0 ≤ a1) = true := decide_eq_true c52
                  clear c52
                  by_cases c53 : a1 < (x166001_2.length : Int)
                  · rw [if_pos c53] at H
                    have c53b0 : decide (a1 < (x166001_2.length : Int)) = true := decide_eq_true c53
                    clear c53
                    obtain ⟨y175, hy175⟩ : ∃ y_ : List (List Int), y_ = (x166001_2.set (a1 : Int).toNat y172) := ⟨_, rfl⟩
                    replace H : ((spec_PageUsed.f k2 a3 y175).bind fun t176 => (if t176 < 0 then (some (0, ([] : List (List Int)), false)) else (some (a3, y175, true)))) = some (r1, r2, r3) := by first | (rw [hy175]; with_reducible exact H) | (have H2_ := (Option.bind_some _ _).symm.trans H; rw [hy175]; with_reducible exact H2_) | (have H2_ := (Option.bind_some _ _).symm.trans H; with_reducible exact H2_) | with_reducible exact H | (rw [hy175]; exact H) | exact H
                    have Ny175 := Aside0.mk hy175
                    clear hy175
                    replace H := Option.bind_eq_some_iff.mp H
                    obtain ⟨t176, A550, H⟩ := H
                    replace H : (if t176 < 0 then (some (0, ([] : List (List Int)), false)) else (some (a3, y175, true))) = some (r1, r2, r3) := H
                    have A55 := Aside0.mk A550
                    clear A550
                    by_cases c56 : t176 < 0
                    · rw [if_pos c56] at H
                      have c56b0 : decide (t176 < 0) = true := decide_eq_true c56
                      clear c56
                      simp only [Option.some.injEq, Prod.mk.injEq] at H
                      obtain ⟨rfl, rfl, rfl⟩ := H
                      have hnb57 := NB165_156.out
                      have hnc57 := NB156_165.out
                      have hnb58 := NB165_157.out
                      have hnc58 := NB157_165.out
                      have hcz59_0 : wr.cell? ⟨gb165, 0, none⟩ = some (.int .i64 t161) := (blk_cell BK165.out 0).trans rfl
                      have hcz59_1 : wr.cell? ⟨gb165, 1, none⟩ = some (u166001) := (blk_cell BK165.out 1).trans rfl
                      have hfz59_0 := blk_frozen BK165.out 0
                      have hfz59_1 := blk_frozen BK165.out 1
                      obtain ⟨Ao60, co60, eo60⟩ := Kd.N_slice HO_166001.out
                      subst eo60
                      try go_wp2
                      have n0_ := Aside0.mk (Kd.N_drew HO_166001.out)
                      have n1_ := Aside0.mk (blk_drew BK156.out)
                      have n2_ := Aside0.mk (blk_drew BK157.out)
                      have n3_ := Aside0.mk (blk_drew BK165.out)
                      have n4_ := Aside0.mk (below_drew1 HB.out)
                      clear HO_166001
                      clear BK156
                      clear BK157
                      clear BK165
                      clear HB
                      have HO_166001 := n0_
                      have BK156 := n1_
                      have BK157 := n2_
                      have BK165 := n3_
                      have HB := n4_
                      clear n0_ n1_ n2_ n3_ n4_
                      refine start_ (n := 8) (S := fun w' => w'.cell? ⟨gb165, 0, none⟩ = some (.int .i64 t161) ∧ w'.cell? ⟨gb165, 1, none⟩ = some (.slice Ao60 x166001_2.length co60)) (ds := [7]) #[false, false, false, false, false, false, false, false] (by kernel_rfl) rfl rfl ⟨(blk_cell BK165.out 0).trans rfl, (blk_cell BK165.out 1).trans rfl⟩ (fun hHeld => ?_); refine with_tabW spec_PagePut.tab6 spec_PagePut.bits6 (fun HT_ HW_ => ?_)
                      generalize wr.drew = w61 at HO_166001 BK156 BK157 BK165 HB hHeld ⊢
                      refine pure_ (i := 0) (N := some 47) (v := ?_) (a' := ?_) #[true, false, false, false, false, false, false, false] rfl rfl (any_of HT_.out (by kernel_rfl)) (fun _ _ _ h => h) (Or.inl ⟨by rfl, ?_⟩) ?_ ?_
                      rotate_left
                      · intro w'
                        go_simp
                        with_reducible rfl
                      rotate_left
                      · simp only [Act.put, List.setIfInBounds_toArray, List.set_cons_zero, List.set_cons_succ, i64_w, i32_w]
                        rfl
                      refine pure_ (i := 2) (N := some 49) (v := ?_) (a' := ?_) #[true, false, true, false, false, false, false, false] rfl rfl (any_of HT_.out (by kernel_rfl)) (fun _ _ _ h => h) (Or.inl ⟨by rfl, ?_⟩) ?_ ?_
                      rotate_left
                      · intro w'
                        go_simp
                        with_reducible rfl
                      rotate_left
                      · simp only [Act.put, List.setIfInBounds_toArray, List.set_cons_zero, List.set_cons_succ, i64_w, i32_w]
                        rfl
                      refine pure_ (i := 4) (N := some 51) (v := ?_) (a' := ?_) #[true, false, true, false, true, false, false, false] rfl rfl (any_of HT_.out (by kernel_rfl)) (fun _ _ _ h => h) (Or.inl ⟨by rfl, ?_⟩) ?_ ?_
                      rotate_left
                      · intro w'
                        go_simp
                        with_reducible rfl
                      rotate_left
                      · simp only [Act.put, List.setIfInBounds_toArray, List.set_cons_zero, List.set_cons_succ, i64_w, i32_w]
                        rfl
                      refine take_ (i := 1) (N := some 48) (v := ?_) (a' := ?_) #[true, true, true, false, true, false, false, false] rfl rfl (take_ofW HT_.out HW_.out (by kernel_rfl)) (fun _ _ _ h => h) (Or.inl ⟨by rfl, ?_⟩) hHeld ?_ ?_
                      rotate_left
                      · rintro w' ⟨s0, s1⟩
                        go_simp
                        with_reducible rfl
                      rotate_left
                      · simp only [Act.put, List.setIfInBounds_toArray, List.set_cons_zero, List.set_cons_succ, i64_w, i32_w]
                        rfl
                      refine one_ (i := 3) (N := some 50) #[true, true, true, true, true, false, false, false] rfl rfl (one_of HT_.out (by kernel_rfl)) (by decide) (fun K hK => ?_)
                      refine Kd.R_lit_step (Kd.int .u8) _ 5 ?hg (N := 50) ?hd (xs := ([] : List Int)) (inner := []) (ok := fun _ => True) (okp := fun _ => True) ?hr ?hp (fun _ hk => hk) trivial (Below.refl _ _) (Nat.le_refl _) (by simp) ?_; (case hd => rfl); (case hg => rfl); (case hr => first | (go_simp; done) | (go_simp; rfl)); (case hp => exact (Reps.none _ _))
                      intro v170 w62 ho63 hb hg_ hnew_
                      clear hg_ hnew_
                      (first | rw [← Ny169.out] at ho63 | (simp only [Int.reduceToNat] at ho63; rw [← Ny169.out] at ho63))
                      have n0_ := Aside0.mk (Kd.N_elder' (by (with_reducible repeat (first | apply Kd.N_alloc | apply Kd.N_drewN | apply Kd.N_drew)); exact HO_166001.out) (Kd.R_base ho63) hb)
                      have n1_ := Aside0.mk (Kd.R_lower (Kd.R_newM (M := fun k_ => (w.heap.size ≤ k_)) ho63 (below_size (by repeat (first | (with_reducible first | exact HB.out | apply below_alloc | apply pw_below_drewN | apply below_drew1 | refine below_set ?_ GE156.out | refine below_set ?_ GE157.out | refine below_set ?_ GE165.out) | exact HB.out))) (fun k_ h_ => h_)) (below_size (by repeat (first | (with_reducible first | exact HB.out | apply below_alloc | apply pw_below_drewN | apply below_drew1 | refine below_set ?_ GE156.out | refine below_set ?_ GE157.out | refine below_set ?_ GE165.out) | exact HB.out))))
                      have n2_ := Aside0.mk (blk_below (g := gb156) (o := .cells #[.int .i64 a0_0, .slice A0_1 l0_1.length c0_1] 27 (0, 0)) (by (with_reducible repeat (first | refine blk_drewN ?_ _ | refine blk_drew ?_ | refine blk_alloc ?_ _)); exact BK156.out) hb)
                      have n3_ := Aside0.mk (blk_below (g := gb157) (o := .cells #[.int .i64 0, .slice none 0 0] 27 (0, 0)) (by (with_reducible repeat (first | refine blk_drewN ?_ _ | refine blk_drew ?_ | refine blk_alloc ?_ _)); exact BK157.out) hb)
                      have n4_ := Aside0.mk (blk_below (g := gb165) (o := .cells #[.int .i64 t161, .slice Ao60 x166001_2.length co60] 27 (0, 0)) (by (with_reducible repeat (first | refine blk_drewN ?_ _ | refine blk_drew ?_ | refine blk_alloc ?_ _)); exact BK165.out) hb)
                      have n5_ := Aside0.mk (below_step (by repeat (first | (with_reducible first | exact HB.out | apply below_alloc | apply pw_below_drewN | apply below_drew1 | refine below_set ?_ GE156.out | refine below_set ?_ GE157.out | refine below_set ?_ GE165.out) | exact HB.out)) hb)
                      clear HO_166001
                      clear BK156
                      clear BK157
                      clear BK165
                      clear HB
                      have HO_166001 := n0_
                      have HO171 := n1_
                      have BK156 := n2_
                      have BK157 := n3_
                      have BK165 := n4_
                      have HB := n5_
                      clear n0_ n1_ n2_ n3_ n4_ n5_
                      clear hb ho63
                      refine hK.out _ _ ⟨(blk_cell BK165.out 0).trans rfl, (blk_cell BK165.out 1).trans rfl⟩ (fun hHeld => ?_)
                      clear hK K
                      refine norm_ (a' := ?_) ?_ ?_
                      rotate_left
                      · show Act.put _ (some 50) _ = _
                        simp only [Act.put, List.setIfInBounds_toArray, List.set_cons_zero, List.set_cons_succ, i64_w, i32_w]
                        rfl
                      refine one_ (i := 5) (N := some 52) #[true, true, true, true, true, true, false, false] rfl rfl (one_of HT_.out (by kernel_rfl)) (by decide) (fun K hK => ?_)
                      refine Kd.R_append_rows_step (Kd.int .u8) (w0 := w) w.heap.size (by rfl) (.tmp 50) (.tmp 51) 36 5 (.int .u8 0) 1 rfl Try.underlying36 info5 rfl (by decide) (by omega) v170 y169 l2 _ _ _ (fun k_ => (w.heap.size ≤ k_)) (fun _ => False) rfl rfl ?aO ?aR (fun _ _ h => h) (fun _ h => h.elim) ?aF ?aB ?aS ?aL ?_
                      (case aR => repeat (first | exact (Kd.C_below HR2.out HB.out) | (with_reducible refine Kd.C_alloc ?_ _) | (with_reducible refine Kd.C_drewN ?_ _) | (with_reducible refine Kd.C_drew ?_)))
                      (case aB => exact (by repeat (first | (with_reducible first | exact HB.out | apply below_alloc | apply pw_below_drewN | apply below_drew1 | refine below_set ?_ GE156.out | refine below_set ?_ GE157.out | refine below_set ?_ GE165.out) | exact HB.out)))
                      (case aF => exact (fun k_ hk => (Nat.le_trans (below_size (by repeat (first | (with_reducible first | exact HB.out | apply below_alloc | apply pw_below_drewN | apply below_drew1 | refine below_set ?_ GE156.out | refine below_set ?_ GE157.out | refine below_set ?_ GE165.out) | exact HB.out))) hk)))
                      (case aO => exact (by (with_reducible repeat (first | apply Kd.R_alloc | apply Kd.R_drewN | apply Kd.R_drew)); exact Kd.R_mono HO171.out (fun _ hk => hk.1)))
                      (case aS => exact (below_size (by repeat (first | (with_reducible first | exact HB.out | apply below_alloc | apply pw_below_drewN | apply below_drew1 | refine below_set ?_ GE156.out | refine below_set ?_ GE157.out | refine below_set ?_ GE165.out) | exact HB.out))))
                      (case aL => have := LMc51.out; omega)
                      intro v173 w64 ho hb hg hat
                      rw [← Ny172.out] at ho
                      have n0_ := Aside0.mk (Kd.N_afterv (ok := (fun k_ => (w.heap.size ≤ k_) ∧ k_ ≠ gb156 ∧ k_ ≠ gb157 ∧ k_ ≠ gb165)) (by (with_reducible repeat (first | apply Kd.N_alloc | apply Kd.N_drewN | apply Kd.N_drew)); exact HO_166001.out) hg hat)
                      have n1_ := Aside0.mk (blk_grown (g := gb156) (o := .cells #[.int .i64 a0_0, .slice A0_1 l0_1.length c0_1] 27 (0, 0)) (by (with_reducible repeat (first | refine blk_drewN ?_ _ | refine blk_drew ?_ | refine blk_alloc ?_ _)); exact BK156.out) hg (Kd.R_ne HO171.out BK156.out (by decide)))
                      have n2_ := Aside0.mk (blk_grown (g := gb157) (o := .cells #[.int .i64 0, .slice none 0 0] 27 (0, 0)) (by (with_reducible repeat (first | refine blk_drewN ?_ _ | refine blk_drew ?_ | refine blk_alloc ?_ _)); exact BK157.out) hg (Kd.R_ne HO171.out BK157.out (by decide)))
                      have n3_ := Aside0.mk (blk_grown (g := gb165) (o := .cells #[.int .i64 t161, .slice Ao60 x166001_2.length co60] 27 (0, 0)) (by (with_reducible repeat (first | refine blk_drewN ?_ _ | refine blk_drew ?_ | refine blk_alloc ?_ _)); exact BK165.out) hg (Kd.R_ne HO171.out BK165.out (by decide)))
                      have n4_ := Aside0.mk (hb)
                      have n5_ := Aside0.mk (ho)
                      clear HO_166001
                      clear BK156
                      clear BK157
                      clear BK165
                      clear HB
                      clear HO171
                      have HO_166001 := n0_
                      have BK156 := n1_
                      have BK157 := n2_
                      have BK165 := n3_
                      have HB := n4_
                      have HO174 := n5_
                      clear n0_ n1_ n2_ n3_ n4_ n5_
                      clear ho hb hg hat
                      have p54 : 0 ≤ (a1 : Int) := of_decide_eq_true (by first | (with_reducible assumption) | assumption)
                      have q54 : (a1 : Int) < ((x166001_2.length : Int) : Int) := of_decide_eq_true (by first | (with_reducible assumption) | assumption)
                      obtain ⟨go54, co54, eo54, gb54, gl54, cl54, HG54⟩ := Kd.N_form HO_166001.out (by omega)
                      (first | cases eo54 | (injection eo54 with ea_ en_ ec_; (first | subst ea_ | (injection ea_ with ea_; subst ea_)); subst ec_; clear en_))
                      have GB54 := Aside0.mk gb54
                      have GG54 := Aside0.mk HG54
                      clear gb54 gl54 HG54
                      obtain ⟨ce54, hcl54, hM54, hcc54, hfr54⟩ := Kd.N_elem HO_166001.out [] (a1 : Int) p54 q54
                      obtain ⟨ua54_0, uc54_0, rfl, ul54_0, ge54_0⟩ := Kd.FK_slice_open hM54
                      have hx54_0 := hcc54 0 _ rfl
                      have hf54_0 := hfr54 0
                      (try simp only [show ((Kd.slice 5 (Kd.int .u8))).sz = 1 from rfl, Nat.mul_one, Nat.add_zero] at hx54_0)
                      (try simp only [show ((Kd.slice 5 (Kd.int .u8))).sz = 1 from rfl, Nat.mul_one, Nat.add_zero] at hf54_0)
                      (try clear hM54); clear hcl54 hcc54 hfr54
                      replace p54 := eq_true p54
                      replace q54 := eq_true q54
                      have HX65 := Aside0.mk (show Kd.N (Kd.slice 5 (Kd.int .u8)) 36 _ w.heap.size (fun k_ => (w.heap.size ≤ k_) ∧ some k_ ≠ (v173 : Value).ownBlock ∧ k_ ≠ gb156 ∧ k_ ≠ gb157 ∧ k_ ≠ gb165) (.slice (some ⟨go54, 0, none⟩) x166001_2.length co60) x166001_2 from (Kd.N_mono (HO_166001.out) (fun k_ hk => ⟨hk.1.1, ⟨hk.2, ⟨hk.1.2.1, ⟨hk.1.2.2.1, hk.1.2.2.2⟩⟩⟩⟩)))
                      replace HX65 := Aside0.mk (show Kd.N (Kd.slice 5 (Kd.int .u8)) 36 _ w.heap.size (fun k_ => (w.heap.size ≤ k_) ∧ k_ ≠ gb156 ∧ k_ ≠ gb157 ∧ k_ ≠ gb165) (.slice (some ⟨go54, 0, none⟩) x166001_2.length co60) x166001_2 from Kd.N_mono HX65.out (fun k_ hk => ⟨hk.1, ⟨hk.2.2.1, ⟨hk.2.2.2.1, hk.2.2.2.2⟩⟩⟩))
                      obtain ⟨ce65, hcl65, hM65, hcc65, hfr65⟩ := Kd.N_elem HX65.out [] (a1 : Int) (of_decide_eq_true (by first | (with_reducible assumption) | assumption)) (by have h_ : (a1 : Int) < ((x166001_2.length : Int) : Int) := of_decide_eq_true (by first | (with_reducible assumption) | assumption); first | exact h_ | (have e_ := (Kd.N_reads' HO_166001.out).1; omega) | simpa using h_)
                      obtain ⟨ua65_0, uc65_0, rfl, ul65_0, ge65_0⟩ := Kd.FK_slice_open hM65
                      have hqm_ := (Kd.R_types (Kd.R_types (Kd.R_types (Kd.R_apart' (HO174.out) (Kd.N_typed HO_166001.out) (by decide)) BK156.out (by decide)) BK157.out (by decide)) BK165.out (by decide))
                      have hqn_ := Kd.R_mono (ok' := (fun k_ => ((fun k_ => (w.heap.size ≤ k_) ∧ k_ ≠ gb156 ∧ k_ ≠ gb157 ∧ k_ ≠ gb165)) k_ ∧ k_ ≠ go54)) hqm_ (fun k_ hk => ⟨⟨hk.1.1.1.1, ⟨hk.1.1.2, ⟨hk.1.2, hk.2⟩⟩⟩, fun e_ => (hk.1.1.1.2) (by rw [e_]; rfl)⟩)
                      have HP65 := (Kd.N_seg HX65.out (a1 : Int) (of_decide_eq_true (by first | (with_reducible assumption) | assumption)) (by have h_ : (a1 : Int) < ((x166001_2.length : Int) : Int) := of_decide_eq_true (by first | (with_reducible assumption) | assumption); first | exact h_ | (have e_ := (Kd.N_reads' HO_166001.out).1; omega) | simpa using h_) (seg := [v173]) (j := 0) hcl65 hcc65 (show 1 ≤ 1 from by decide) (x' := y172) (Kd.FK_own hqn_) (fun _ hk => hk)).1
                      (try clear hqm_ hqn_)
                      (try simp only [show ((Kd.slice 5 (Kd.int .u8))).sz = 1 from rfl, Nat.mul_one, Nat.add_zero] at HP65)
                      rw [← Ny175.out] at HP65
                      have HQ65 := Aside0.mk HP65
                      (try clear hM65); clear hcl65 hcc65 hfr65 HP65
                      refine hK.out _ _ ⟨(blk_cell BK165.out 0).trans rfl, (blk_cell BK165.out 1).trans rfl⟩ (fun hHeld => ?_)
                      clear hK K
                      refine norm_ (a' := ?_) ?_ ?_
                      rotate_left
                      · show Act.put _ (some 52) _ = _
                        simp only [Act.put, List.setIfInBounds_toArray, List.set_cons_zero, List.set_cons_succ, i64_w, i32_w]
                        rfl
                      refine pure_ (i := 6) (N := some 53) (v := ?_) (a' := ?_) #[true, true, true, true, true, true, true, false] rfl rfl (any_of HT_.out (by kernel_rfl)) (fun _ _ _ h => h) (Or.inl ⟨by rfl, ?_⟩) ?_ ?_
                      rotate_left
                      · intro w'
                        go_simp
                        with_reducible rfl
                      rotate_left
                      · simp only [Act.put, List.setIfInBounds_toArray, List.set_cons_zero, List.set_cons_succ, i64_w, i32_w]
                        rfl
                      refine last_ (i := 7) (N := none) #[true, true, true, true, true, true, true, true] rfl rfl (one_of HT_.out (by kernel_rfl)) (by decide) (fun K hK => ?_)
                      refine skip_ (w1 := (w64.setCell ⟨go54, (a1 : Int).toNat, none⟩ (v173))) (by rfl) rfl ?_ ?_
                      try skip
                      · first | (go_simp; done) | (go_simp; rfl) | (obtain ⟨_, _, es_⟩ := (by first | exact Kd.R_slice (Aside0.out (by assumption : Aside0 (Kd.R _ _ _ _ _ v173 _))) | exact Kd.S_slice (Aside0.out (by assumption : Aside0 (Kd.S _ _ _ _ _ v173 _))) : ∃ A_ c_, v173 = .slice A_ _ c_); rw [es_]; clear es_; first | (go_simp; done) | (go_simp; rfl))
                        done
                      refine hK.out _ _ ?_
                      clear hK K
                      refine done_ (done_of HT_.out (by kernel_rfl)) ?_
                      have n0_ : Aside0 (Kd.N (Kd.slice 5 (Kd.int .u8)) 36 (w64.setCell ⟨go54, (a1 : Int).toNat, none⟩ (v173)) w.heap.size (fun k_ => (w.heap.size ≤ k_) ∧ k_ ≠ gb156 ∧ k_ ≠ gb157 ∧ k_ ≠ gb165) (.slice (some ⟨go54, 0, none⟩) x166001_2.length co60) y175) := ⟨by (with_reducible repeat (first | apply Kd.N_alloc | apply Kd.N_drewN | apply Kd.N_drew)); exact HQ65.out⟩
                      have n1_ : Aside0 ((w64.setCell ⟨go54, (a1 : Int).toNat, none⟩ (v173)).heap[gb156]? = some (.cells #[.int .i64 a0_0, .slice A0_1 l0_1.length c0_1] 27 (0, 0))) := ⟨by (with_reducible repeat (first | refine blk_drewN ?_ _ | refine blk_drew ?_ | refine blk_alloc ?_ _)); refine blk_far ?_ (by have h_ := Kd.N_away HO_166001.out (fun _ hk => by first | exact hk.2.1 | exact hk.1.2.1 | exact hk.1.1.2.1 | exact hk.1.1.1.2.1); intro e_; exact h_ (by rw [e_]; rfl)) _; (with_reducible repeat (first | refine blk_drewN ?_ _ | refine blk_drew ?_ | refine blk_alloc ?_ _)); exact BK156.out⟩
                      have n2_ : Aside0 ((w64.setCell ⟨go54, (a1 : Int).toNat, none⟩ (v173)).heap[gb157]? = some (.cells #[.int .i64 0, .slice none 0 0] 27 (0, 0))) := ⟨by (with_reducible repeat (first | refine blk_drewN ?_ _ | refine blk_drew ?_ | refine blk_alloc ?_ _)); refine blk_far ?_ (by have h_ := Kd.N_away HO_166001.out (fun _ hk => by first | exact hk.2.2.1 | exact hk.1.2.2.1 | exact hk.1.1.2.2.1 | exact hk.1.1.1.2.2.1); intro e_; exact h_ (by rw [e_]; rfl)) _; (with_reducible repeat (first | refine blk_drewN ?_ _ | refine blk_drew ?_ | refine blk_alloc ?_ _)); exact BK157.out⟩
                      have n3_ : Aside0 ((w64.setCell ⟨go54, (a1 : Int).toNat, none⟩ (v173)).heap[gb165]? = some (.cells #[.int .i64 t161, .slice (some ⟨go54, 0, none⟩) x166001_2.length co60] 27 (0, 0))) := ⟨by (with_reducible repeat (first | refine blk_drewN ?_ _ | refine blk_drew ?_ | refine blk_alloc ?_ _)); refine blk_far ?_ (by have h_ := Kd.N_away HO_166001.out (fun _ hk => by first | exact hk.2.2.2 | exact hk.1.2.2.2 | exact hk.1.1.2.2.2 | exact hk.1.1.1.2.2.2); intro e_; exact h_ (by rw [e_]; rfl)) _; (with_reducible repeat (first | refine blk_drewN ?_ _ | refine blk_drew ?_ | refine blk_alloc ?_ _)); exact BK165.out⟩
                      have n4_ : Aside0 (Below w.heap.size w (w64.setCell ⟨go54, (a1 : Int).toNat, none⟩ (v173))) := ⟨by repeat (first | (with_reducible first | exact HB.out | apply below_alloc | apply pw_below_drewN | apply below_drew1 | refine below_set ?_ GB54.out | refine below_set ?_ GE156.out | refine below_set ?_ GE157.out | refine below_set ?_ GE165.out) | exact HB.out)⟩
                      (try clear HO_166001)
                      (try clear BK156)
                      (try clear BK157)
                      (try clear BK165)
                      (try clear HB)
                      generalize (w64.setCell ⟨go54, (a1 : Int).toNat, none⟩ (v173)) = w66 at n0_ n1_ n2_ n3_ n4_ ⊢
                      have HO_166001 := n0_
                      have BK156 := n1_
                      have BK157 := n2_
                      have BK165 := n3_
                      have HB := n4_
                      clear n0_ n1_ n2_ n3_ n4_
                      have hcz67_0 : w66.cell? ⟨gb165, 0, none⟩ = some (.int .i64 t161) := (blk_cell BK165.out 0).trans rfl
                      have hcz67_1 : w66.cell? ⟨gb165, 1, none⟩ = some (.slice (some ⟨go54, 0, none⟩) x166001_2.length co60) := (blk_cell BK165.out 1).trans rfl
                      have hfz67_0 := blk_frozen BK165.out 0
                      have hfz67_1 := blk_frozen BK165.out 1
                      try go_wp2_with (first | ((with_reducible refine gate_callee (f := 12) rfl ?_); refine goesL_ (some 57) rfl rfl Try.func12 (by kernel_rfl) rfl #[.agg #[.int .i64 a3, .slice (some ⟨go54, 0, none⟩) y175.length co60]] rfl (by (try simp only [List.map_toArray, List.map_cons, List.map_nil]); first | done | (rw [show y175.length = x166001_2.length from (Kd.N_reads' HO_166001.out).1.symm] <;> rfl) | rfl | (simp only [List.length_drop, List.length_take]; rfl)) ?_; (with_reducible refine (spec_PageUsed.calls k2 a3 _ _ y175 t176 _ ?side1 ?side2 A55.out).mono ?_); (case side1 => refine (Kd.N_reads' (e := 36) (base := w.heap.size) (ok := fun k_ => ((w.heap.size ≤ k_) ∧ (k_ ≠ gb156 ∧ (k_ ≠ gb157 ∧ k_ ≠ gb165)))) (n := x166001_2.length) (c := co60) ?_).2.2; exact (by (with_reducible repeat (first | apply Kd.N_alloc | apply Kd.N_drewN | apply Kd.N_drew)); exact (Kd.N_mono (Kd.N_far (p := ⟨gb165, 0, none⟩) (Kd.N_mono HO_166001.out (fun k_ hk => (⟨hk, hk.2.2.2⟩ : _ ∧ k_ ≠ gb165))) (fun _ hk => hk.2) (.int .i64 a3)) (fun _ h_ => h_.1)))); (case side2 => rw [show y175.length = x166001_2.length from (Kd.N_reads' HO_166001.out).1.symm]; exact (Kd.N_reads' HO_166001.out).2.1); rintro e w68 ⟨rfl, hb⟩; refine ⟨_, rfl, ?_⟩; have n0_ := Aside0.mk (Kd.N_below (by (with_reducible repeat (first | apply Kd.N_alloc | apply Kd.N_drewN | apply Kd.N_drew)); exact (Kd.N_mono (Kd.N_far (p := ⟨gb165, 0, none⟩) (Kd.N_mono HO_166001.out (fun k_ hk => (⟨hk, hk.2.2.2⟩ : _ ∧ k_ ≠ gb165))) (fun _ hk => hk.2) (.int .i64 a3)) (fun _ h_ => h_.1))) hb); have n1_ := Aside0.mk (blk_below (g := gb156) (o := .cells #[.int .i64 a0_0, .slice A0_1 l0_1.length c0_1] 27 (0, 0)) (by (with_reducible repeat (first | refine blk_drewN ?_ _ | refine blk_drew ?_ | refine blk_alloc ?_ _)); refine blk_far ?_ NB156_165.out _; (with_reducible repeat (first | refine blk_drewN ?_ _ | refine blk_drew ?_ | refine blk_alloc ?_ _)); exact BK156.out) hb); have n2_ := Aside0.mk (blk_below (g := gb157) (o := .cells #[.int .i64 0, .slice none 0 0] 27 (0, 0)) (by (with_reducible repeat (first | refine blk_drewN ?_ _ | refine blk_drew ?_ | refine blk_alloc ?_ _)); refine blk_far ?_ NB157_165.out _; (with_reducible repeat (first | refine blk_drewN ?_ _ | refine blk_drew ?_ | refine blk_alloc ?_ _)); exact BK157.out) hb); have n3_ := Aside0.mk (blk_below (g := gb165) (o := .cells #[.int .i64 a3, .slice (some ⟨go54, 0, none⟩) x166001_2.length co60] 27 (0, 0)) (by (with_reducible repeat (first | refine blk_drewN ?_ _ | refine blk_drew ?_ | refine blk_alloc ?_ _)); refine blk_put (cs := #[.int .i64 t161, .slice (some ⟨go54, 0, none⟩) x166001_2.length co60]) ?_ 0 _ rfl; (with_reducible repeat (first | refine blk_drewN ?_ _ | refine blk_drew ?_ | refine blk_alloc ?_ _)); exact BK165.out) hb); have n4_ := Aside0.mk (below_step (by repeat (first | (with_reducible first | exact HB.out | apply below_alloc | apply pw_below_drewN | apply below_drew1 | refine below_set ?_ GE156.out | refine below_set ?_ GE157.out | refine below_set ?_ GE165.out) | exact HB.out)) hb); clear HO_166001; clear BK156; clear BK157; clear BK165; clear HB; have HO_166001 := n0_; have BK156 := n1_; have BK157 := n2_; have BK165 := n3_; have HB := n4_; clear n0_ n1_ n2_ n3_ n4_; (try clear hb); (try clear hb2); (try clear hk); (try clear hi); have hnb69 := NB157_156.out; have hnc69 := NB156_157.out; have hcz70_0 : w68.cell? ⟨gb157, 0, none⟩ = some (.int .i64 0) := (blk_cell BK157.out 0).trans rfl; have hcz70_1 : w68.cell? ⟨gb157, 1, none⟩ = some (.slice none 0 0) := (blk_cell BK157.out 1).trans rfl; have hfz70_0 := blk_frozen BK157.out 0; have hfz70_1 := blk_frozen BK157.out 1))
                      refine bodyPost_ret (results_ct rfl _ _ gb157 27 #[.int .i64 0, .slice none 0 0] (0, 0) _ rfl (by (with_reducible repeat (first | refine blk_drewN ?_ _ | refine blk_drew ?_ | refine blk_alloc ?_ _)); refine blk_put (cs := #[.int .i64 0, .slice none 0 0]) ?_ 1 _ rfl; (with_reducible repeat (first | refine blk_drewN ?_ _ | refine blk_drew ?_ | refine blk_alloc ?_ _)); refine blk_put (cs := #[.int .i64 0, .slice none 0 0]) ?_ 0 _ rfl; (with_reducible repeat (first | refine blk_drewN ?_ _ | refine blk_drew ?_ | refine blk_alloc ?_ _)); exact BK157.out) Try.underlying27 rfl (by kernel_rfl)) rfl ?_
                      exact ⟨_, by first | rfl | (simp [errW_none, errW_some] <;> rfl) | (simp [*, errW_none, errW_some] <;> rfl), by first | exact Kd.S_nil _ _ _ _ _ | exact Kd.N_nil _ _ _ _ _ | exact Kd.V_nil _ _ _ _ _ | exact Kd.Q_nil _ _ _ _ _ | exact Kd.R_nil _ _ _ _ _, by repeat (first | (with_reducible first | exact HB.out | apply below_alloc | apply pw_below_drewN | apply below_drew1 | refine below_set ?_ GE156.out | refine below_set ?_ GE157.out | refine below_set ?_ GE165.out) | exact HB.out)⟩
                    · rw [if_neg c56] at H
                      have c56b0 : decide (t176 < 0) = false := decide_eq_false c56
                      clear c56
                      simp only [Option.some.injEq, Prod.mk.injEq] at H
                      obtain ⟨rfl, rfl, rfl⟩ := H
                      have hnb71 := NB165_156.out
                      have hnc71 := NB156_165.out
                      have hnb72 := NB165_157.out
                      have hnc72 := NB157_165.out
                      have hcz73_0 : wr.cell? ⟨gb165, 0, none⟩ = some (.int .i64 t161) := (blk_cell BK165.out 0).trans rfl
                      have hcz73_1 : wr.cell? ⟨gb165, 1, none⟩ = some (u166001) := (blk_cell BK165.out 1).trans rfl
                      have hfz73_0 := blk_frozen BK165.out 0
                      have hfz73_1 := blk_frozen BK165.out 1
                      obtain ⟨Ao74, co74, eo74⟩ := Kd.N_slice HO_166001.out
                      subst eo74
                      try go_wp2
                      have n0_ := Aside0.mk (Kd.N_drew HO_166001.out)
                      have n1_ := Aside0.mk (blk_drew BK156.out)
                      have n2_ := Aside0.mk (blk_drew BK157.out)
                      have n3_ := Aside0.mk (blk_drew BK165.out)
                      have n4_ := Aside0.mk (below_drew1 HB.out)
                      clear HO_166001
                      clear BK156
                      clear BK157
                      clear BK165
                      clear HB
                      have HO_166001 := n0_
                      have BK156 := n1_
                      have BK157 := n2_
                      have BK165 := n3_
                      have HB := n4_
                      clear n0_ n1_ n2_ n3_ n4_
                      refine start_ (n := 8) (S := fun w' => w'.cell? ⟨gb165, 0, none⟩ = some (.int .i64 t161) ∧ w'.cell? ⟨gb165, 1, none⟩ = some (.slice Ao74 x166001_2.length co74)) (ds := [7]) #[false, false, false, false, false, false, false, false] (by kernel_rfl) rfl rfl ⟨(blk_cell BK165.out 0).trans rfl, (blk_cell BK165.out 1).trans rfl⟩ (fun hHeld => ?_); refine with_tabW spec_PagePut.tab6 spec_PagePut.bits6 (fun HT_ HW_ => ?_)
                      generalize wr.drew = w75 at HO_166001 BK156 BK157 BK165 HB hHeld ⊢
                      refine pure_ (i := 0) (N := some 47) (v := ?_) (a' := ?_) #[true, false, false, false, false, false, false, false] rfl rfl (any_of HT_.out (by kernel_rfl)) (fun _ _ _ h => h) (Or.inl ⟨by rfl, ?_⟩) ?_ ?_
                      rotate_left
                      · intro w'
                        go_simp
                        with_reducible rfl
                      rotate_left
                      · simp only [Act.put, List.setIfInBounds_toArray, List.set_cons_zero, List.set_cons_succ, i64_w, i32_w]
                        rfl
                      refine pure_ (i := 2) (N := some 49) (v := ?_) (a' := ?_) #[true, false, true, false, false, false, false, false] rfl rfl (any_of HT_.out (by kernel_rfl)) (fun _ _ _ h => h) (Or.inl ⟨by rfl, ?_⟩) ?_ ?_
                      rotate_left
                      · intro w'
                        go_simp
                        with_reducible rfl
                      rotate_left
                      · simp only [Act.put, List.setIfInBounds_toArray, List.set_cons_zero, List.set_cons_succ, i64_w, i32_w]
                        rfl
                      refine pure_ (i := 4) (N := some 51) (v := ?_) (a' := ?_) #[true, false, true, false, true, false, false, false] rfl rfl (any_of HT_.out (by kernel_rfl)) (fun _ _ _ h => h) (Or.inl ⟨by rfl, ?_⟩) ?_ ?_
                      rotate_left
                      · intro w'
                        go_simp
                        with_reducible rfl
                      rotate_left
                      · simp only [Act.put, List.setIfInBounds_toArray, List.set_cons_zero, List.set_cons_succ, i64_w, i32_w]
                        rfl
                      refine take_ (i := 1) (N := some 48) (v := ?_) (a' := ?_) #[true, true, true, false, true, false, false, false] rfl rfl (take_ofW HT_.out HW_.out (by kernel_rfl)) (fun _ _ _ h => h) (Or.inl ⟨by rfl, ?_⟩) hHeld ?_ ?_
                      rotate_left
                      · rintro w' ⟨s0, s1⟩
                        go_simp
                        with_reducible rfl
                      rotate_left
                      · simp only [Act.put, List.setIfInBounds_toArray, List.set_cons_zero, List.set_cons_succ, i64_w, i32_w]
                        rfl
                      refine one_ (i := 3) (N := some 50) #[true, true, true, true, true, false, false, false] rfl rfl (one_of HT_.out (by kernel_rfl)) (by decide) (fun K hK => ?_)
                      refine Kd.R_lit_step (Kd.int .u8) _ 5 ?hg (N := 50) ?hd (xs := ([] : List Int)) (inner := []) (ok := fun _ => True) (okp := fun _ => True) ?hr ?hp (fun _ hk => hk) trivial (Below.refl _ _) (Nat.le_refl _) (by simp) ?_; (case hd => rfl); (case hg => rfl); (case hr => first | (go_simp; done) | (go_simp; rfl)); (case hp => exact (Reps.none _ _))
                      intro v170 w76 ho77 hb hg_ hnew_
                      clear hg_ hnew_
                      (first | rw [← Ny169.out] at ho77 | (simp only [Int.reduceToNat] at ho77; rw [← Ny169.out] at ho77))
                      have n0_ := Aside0.mk (Kd.N_elder' (by (with_reducible repeat (first | apply Kd.N_alloc | apply Kd.N_drewN | apply Kd.N_drew)); exact HO_166001.out) (Kd.R_base ho77) hb)
                      have n1_ := Aside0.mk (Kd.R_lower (Kd.R_newM (M := fun k_ => (w.heap.size ≤ k_)) ho77 (below_size (by repeat (first | (with_reducible first | exact HB.out | apply below_alloc | apply pw_below_drewN | apply below_drew1 | refine below_set ?_ GE156.out | refine below_set ?_ GE157.out | refine below_set ?_ GE165.out) | exact HB.out))) (fun k_ h_ => h_)) (below_size (by repeat (first | (with_reducible first | exact HB.out | apply below_alloc | apply pw_below_drewN | apply below_drew1 | refine below_set ?_ GE156.out | refine below_set ?_ GE157.out | refine below_set ?_ GE165.out) | exact HB.out))))
                      have n2_ := Aside0.mk (blk_below (g := gb156) (o := .cells #[.int .i64 a0_0, .slice A0_1 l0_1.length c0_1] 27 (0, 0)) (by (with_reducible repeat (first | refine blk_drewN ?_ _ | refine blk_drew ?_ | refine blk_alloc ?_ _)); exact BK156.out) hb)
                      have n3_ := Aside0.mk (blk_below (g := gb157) (o := .cells #[.int .i64 0, .slice none 0 0] 27 (0, 0)) (by (with_reducible repeat (first | refine blk_drewN ?_ _ | refine blk_drew ?_ | refine blk_alloc ?_ _)); exact BK157.out) hb)
                      have n4_ := Aside0.mk (blk_below (g := gb165) (o := .cells #[.int .i64 t161, .slice Ao74 x166001_2.length co74] 27 (0, 0)) (by (with_reducible repeat (first | refine blk_drewN ?_ _ | refine blk_drew ?_ | refine blk_alloc ?_ _)); exact BK165.out) hb)
                      have n5_ := Aside0.mk (below_step (by repeat (first | (with_reducible first | exact HB.out | apply below_alloc | apply pw_below_drewN | apply below_drew1 | refine below_set ?_ GE156.out | refine below_set ?_ GE157.out | refine below_set ?_ GE165.out) | exact HB.out)) hb)
                      clear HO_166001
                      clear BK156
                      clear BK157
                      clear BK165
                      clear HB
                      have HO_166001 := n0_
                      have HO171 := n1_
                      have BK156 := n2_
                      have BK157 := n3_
                      have BK165 := n4_
                      have HB := n5_
                      clear n0_ n1_ n2_ n3_ n4_ n5_
                      clear hb ho77
                      refine hK.out _ _ ⟨(blk_cell BK165.out 0).trans rfl, (blk_cell BK165.out 1).trans rfl⟩ (fun hHeld => ?_)
                      clear hK K
                      refine norm_ (a' := ?_) ?_ ?_
                      rotate_left
                      · show Act.put _ (some 50) _ = _
                        simp only [Act.put, List.setIfInBounds_toArray, List.set_cons_zero, List.set_cons_succ, i64_w, i32_w]
                        rfl
                      refine one_ (i := 5) (N := some 52) #[true, true, true, true, true, true, false, false] rfl rfl (one_of HT_.out (by kernel_rfl)) (by decide) (fun K hK => ?_)
                      refine Kd.R_append_rows_step (Kd.int .u8) (w0 := w) w.heap.size (by rfl) (.tmp 50) (.tmp 51) 36 5 (.int .u8 0) 1 rfl Try.underlying36 info5 rfl (by decide) (by omega) v170 y169 l2 _ _ _ (fun k_ => (w.heap.size ≤ k_)) (fun _ => False) rfl rfl ?aO ?aR (fun _ _ h => h) (fun _ h => h.elim) ?aF ?aB ?aS ?aL ?_
                      (case aR => repeat (first | exact (Kd.C_below HR2.out HB.out) | (with_reducible refine Kd.C_alloc ?_ _) | (with_reducible refine Kd.C_drewN ?_ _) | (with_reducible refine Kd.C_drew ?_)))
                      (case aB => exact (by repeat (first | (with_reducible first | exact HB.out | apply below_alloc | apply pw_below_drewN | apply below_drew1 | refine below_set ?_ GE156.out | refine below_set ?_ GE157.out | refine below_set ?_ GE165.out) | exact HB.out)))
                      (case aF => exact (fun k_ hk => (Nat.le_trans (below_size (by repeat (first | (with_reducible first | exact HB.out | apply below_alloc | apply pw_below_drewN | apply below_drew1 | refine below_set ?_ GE156.out | refine below_set ?_ GE157.out | refine below_set ?_ GE165.out) | exact HB.out))) hk)))
                      (case aO => exact (by (with_reducible repeat (first | apply Kd.R_alloc | apply Kd.R_drewN | apply Kd.R_drew)); exact Kd.R_mono HO171.out (fun _ hk => hk.1)))
                      (case aS => exact (below_size (by repeat (first | (with_reducible first | exact HB.out | apply below_alloc | apply pw_below_drewN | apply below_drew1 | refine below_set ?_ GE156.out | refine below_set ?_ GE157.out | refine below_set ?_ GE165.out) | exact HB.out))))
                      (case aL => have := LMc51.out; omega)
                      intro v173 w78 ho hb hg hat
                      rw [← Ny172.out] at ho
                      have n0_ := Aside0.mk (Kd.N_afterv (ok := (fun k_ => (w.heap.size ≤ k_) ∧ k_ ≠ gb156 ∧ k_ ≠ gb157 ∧ k_ ≠ gb165)) (by (with_reducible repeat (first | apply Kd.N_alloc | apply Kd.N_drewN | apply Kd.N_drew)); exact HO_166001.out) hg hat)
                      have n1_ := Aside0.mk (blk_grown (g := gb156) (o := .cells #[.int .i64 a0_0, .slice A0_1 l0_1.length c0_1] 27 (0, 0)) (by (with_reducible repeat (first | refine blk_drewN ?_ _ | refine blk_drew ?_ | refine blk_alloc ?_ _)); exact BK156.out) hg (Kd.R_ne HO171.out BK156.out (by decide)))
                      have n2_ := Aside0.mk (blk_grown (g := gb157) (o := .cells #[.int .i64 0, .slice none 0 0] 27 (0, 0)) (by (with_reducible repeat (first | refine blk_drewN ?_ _ | refine blk_drew ?_ | refine blk_alloc ?_ _)); exact BK157.out) hg (Kd.R_ne HO171.out BK157.out (by decide)))
                      have n3_ := Aside0.mk (blk_grown (g := gb165) (o := .cells #[.int .i64 t161, .slice Ao74 x166001_2.length co74] 27 (0, 0)) (by (with_reducible repeat (first | refine blk_drewN ?_ _ | refine blk_drew ?_ | refine blk_alloc ?_ _)); exact BK165.out) hg (Kd.R_ne HO171.out BK165.out (by decide)))
                      have n4_ := Aside0.mk (hb)
                      have n5_ := Aside0.mk (ho)
                      clear HO_166001
                      clear BK156
                      clear BK157
                      clear BK165
                      clear HB
                      clear HO171
                      have HO_166001 := n0_
                      have BK156 := n1_
                      have BK157 := n2_
                      have BK165 := n3_
                      have HB := n4_
                      have HO174 := n5_
                      clear n0_ n1_ n2_ n3_ n4_ n5_
                      clear ho hb hg hat
                      have p54 : 0 ≤ (a1 : Int) := of_decide_eq_true (by first | (with_reducible assumption) | assumption)
                      have q54 : (a1 : Int) < ((x166001_2.length : Int) : Int) := of_decide_eq_true (by first | (with_reducible assumption) | assumption)
                      obtain ⟨go54, co54, eo54, gb54, gl54, cl54, HG54⟩ := Kd.N_form HO_166001.out (by omega)
                      (first | cases eo54 | (injection eo54 with ea_ en_ ec_; (first | subst ea_ | (injection ea_ with ea_; subst ea_)); subst ec_; clear en_))
                      have GB54 := Aside0.mk gb54
                      have GG54 := Aside0.mk HG54
                      clear gb54 gl54 HG54
                      obtain ⟨ce54, hcl54, hM54, hcc54, hfr54⟩ := Kd.N_elem HO_166001.out [] (a1 : Int) p54 q54
                      obtain ⟨ua54_0, uc54_0, rfl, ul54_0, ge54_0⟩ := Kd.FK_slice_open hM54
                      have hx54_0 := hcc54 0 _ rfl
                      have hf54_0 := hfr54 0
                      (try simp only [show ((Kd.slice 5 (Kd.int .u8))).sz = 1 from rfl, Nat.mul_one, Nat.add_zero] at hx54_0)
                      (try simp only [show ((Kd.slice 5 (Kd.int .u8))).sz = 1 from rfl, Nat.mul_one, Nat.add_zero] at hf54_0)
                      (try clear hM54); clear hcl54 hcc54 hfr54
                      replace p54 := eq_true p54
                      replace q54 := eq_true q54
                      have HX79 := Aside0.mk (show Kd.N (Kd.slice 5 (Kd.int .u8)) 36 _ w.heap.size (fun k_ => (w.heap.size ≤ k_) ∧ some k_ ≠ (v173 : Value).ownBlock ∧ k_ ≠ gb156 ∧ k_ ≠ gb157 ∧ k_ ≠ gb165) (.slice (some ⟨go54, 0, none⟩) x166001_2.length co74) x166001_2 from (Kd.N_mono (HO_166001.out) (fun k_ hk => ⟨hk.1.1, ⟨hk.2, ⟨hk.1.2.1, ⟨hk.1.2.2.1, hk.1.2.2.2⟩⟩⟩⟩)))
                      replace HX79 := Aside0.mk (show Kd.N (Kd.slice 5 (Kd.int .u8)) 36 _ w.heap.size (fun k_ => (w.heap.size ≤ k_) ∧ k_ ≠ gb156 ∧ k_ ≠ gb157 ∧ k_ ≠ gb165) (.slice (some ⟨go54, 0, none⟩) x166001_2.length co74) x166001_2 from Kd.N_mono HX79.out (fun k_ hk => ⟨hk.1, ⟨hk.2.2.1, ⟨hk.2.2.2.1, hk.2.2.2.2⟩⟩⟩))
                      obtain ⟨ce79, hcl79, hM79, hcc79, hfr79⟩ := Kd.N_elem HX79.out [] (a1 : Int) (of_decide_eq_true (by first | (with_reducible assumption) | assumption)) (by have h_ : (a1 : Int) < ((x166001_2.length : Int) : Int) := of_decide_eq_true (by first | (with_reducible assumption) | assumption); first | exact h_ | (have e_ := (Kd.N_reads' HO_166001.out).1; omega) | simpa using h_)
                      obtain ⟨ua79_0, uc79_0, rfl, ul79_0, ge79_0⟩ := Kd.FK_slice_open hM79
                      have hqm_ := (Kd.R_types (Kd.R_types (Kd.R_types (Kd.R_apart' (HO174.out) (Kd.N_typed HO_166001.out) (by decide)) BK156.out (by decide)) BK157.out (by decide)) BK165.out (by decide))
                      have hqn_ := Kd.R_mono (ok' := (fun k_ => ((fun k_ => (w.heap.size ≤ k_) ∧ k_ ≠ gb156 ∧ k_ ≠ gb157 ∧ k_ ≠ gb165)) k_ ∧ k_ ≠ go54)) hqm_ (fun k_ hk => ⟨⟨hk.1.1.1.1, ⟨hk.1.1.2, ⟨hk.1.2, hk.2⟩⟩⟩, fun e_ => (hk.1.1.1.2) (by rw [e_]; rfl)⟩)
                      have HP79 := (Kd.N_seg HX79.out (a1 : Int) (of_decide_eq_true (by first | (with_reducible assumption) | assumption)) (by have h_ : (a1 : Int) < ((x166001_2.length : Int) : Int) := of_decide_eq_true (by first | (with_reducible assumption) | assumption); first | exact h_ | (have e_ := (Kd.N_reads' HO_166001.out).1; omega) | simpa using h_) (seg := [v173]) (j := 0) hcl79 hcc79 (show 1 ≤ 1 from by decide) (x' := y172) (Kd.FK_own hqn_) (fun _ hk => hk)).1
                      (try clear hqm_ hqn_)
                      (try simp only [show ((Kd.slice 5 (Kd.int .u8))).sz = 1 from rfl, Nat.mul_one, Nat.add_zero] at HP79)
                      rw [← Ny175.out] at HP79
                      have HQ79 := Aside0.mk HP79
                      (try clear hM79); clear hcl79 hcc79 hfr79 HP79
                      refine hK.out _ _ ⟨(blk_cell BK165.out 0).trans rfl, (blk_cell BK165.out 1).trans rfl⟩ (fun hHeld => ?_)
                      clear hK K
                      refine norm_ (a' := ?_) ?_ ?_
                      rotate_left
                      · show Act.put _ (some 52) _ = _
                        simp only [Act.put, List.setIfInBounds_toArray, List.set_cons_zero, List.set_cons_succ, i64_w, i32_w]
                        rfl
                      refine pure_ (i := 6) (N := some 53) (v := ?_) (a' := ?_) #[true, true, true, true, true, true, true, false] rfl rfl (any_of HT_.out (by kernel_rfl)) (fun _ _ _ h => h) (Or.inl ⟨by rfl, ?_⟩) ?_ ?_
                      rotate_left
                      · intro w'
                        go_simp
                        with_reducible rfl
                      rotate_left
                      · simp only [Act.put, List.setIfInBounds_toArray, List.set_cons_zero, List.set_cons_succ, i64_w, i32_w]
                        rfl
                      refine last_ (i := 7) (N := none) #[true, true, true, true, true, true, true, true] rfl rfl (one_of HT_.out (by kernel_rfl)) (by decide) (fun K hK => ?_)
                      refine skip_ (w1 := (w78.setCell ⟨go54, (a1 : Int).toNat, none⟩ (v173))) (by rfl) rfl ?_ ?_
                      try skip
                      · first | (go_simp; done) | (go_simp; rfl) | (obtain ⟨_, _, es_⟩ := (by first | exact Kd.R_slice (Aside0.out (by assumption : Aside0 (Kd.R _ _ _ _ _ v173 _))) | exact Kd.S_slice (Aside0.out (by assumption : Aside0 (Kd.S _ _ _ _ _ v173 _))) : ∃ A_ c_, v173 = .slice A_ _ c_); rw [es_]; clear es_; first | (go_simp; done) | (go_simp; rfl))
                        done
                      refine hK.out _ _ ?_
                      clear hK K
                      refine done_ (done_of HT_.out (by kernel_rfl)) ?_
                      have n0_ : Aside0 (Kd.N (Kd.slice 5 (Kd.int .u8)) 36 (w78.setCell ⟨go54, (a1 : Int).toNat, none⟩ (v173)) w.heap.size (fun k_ => (w.heap.size ≤ k_) ∧ k_ ≠ gb156 ∧ k_ ≠ gb157 ∧ k_ ≠ gb165) (.slice (some ⟨go54, 0, none⟩) x166001_2.length co74) y175) := ⟨by (with_reducible repeat (first | apply Kd.N_alloc | apply Kd.N_drewN | apply Kd.N_drew)); exact HQ79.out⟩
                      have n1_ : Aside0 ((w78.setCell ⟨go54, (a1 : Int).toNat, none⟩ (v173)).heap[gb156]? = some (.cells #[.int .i64 a0_0, .slice A0_1 l0_1.length c0_1] 27 (0, 0))) := ⟨by (with_reducible repeat (first | refine blk_drewN ?_ _ | refine blk_drew ?_ | refine blk_alloc ?_ _)); refine blk_far ?_ (by have h_ := Kd.N_away HO_166001.out (fun _ hk => by first | exact hk.2.1 | exact hk.1.2.1 | exact hk.1.1.2.1 | exact hk.1.1.1.2.1); intro e_; exact h_ (by rw [e_]; rfl)) _; (with_reducible repeat (first | refine blk_drewN ?_ _ | refine blk_drew ?_ | refine blk_alloc ?_ _)); exact BK156.out⟩
                      have n2_ : Aside0 ((w78.setCell ⟨go54, (a1 : Int).toNat, none⟩ (v173)).heap[gb157]? = some (.cells #[.int .i64 0, .slice none 0 0] 27 (0, 0))) := ⟨by (with_reducible repeat (first | refine blk_drewN ?_ _ | refine blk_drew ?_ | refine blk_alloc ?_ _)); refine blk_far ?_ (by have h_ := Kd.N_away HO_166001.out (fun _ hk => by first | exact hk.2.2.1 | exact hk.1.2.2.1 | exact hk.1.1.2.2.1 | exact hk.1.1.1.2.2.1); intro e_; exact h_ (by rw [e_]; rfl)) _; (with_reducible repeat (first | refine blk_drewN ?_ _ | refine blk_drew ?_ | refine blk_alloc ?_ _)); exact BK157.out⟩
                      have n3_ : Aside0 ((w78.setCell ⟨go54, (a1 : Int).toNat, none⟩ (v173)).heap[gb165]? = some (.cells #[.int .i64 t161, .slice (some ⟨go54, 0, none⟩) x166001_2.length co74] 27 (0, 0))) := ⟨by (with_reducible repeat (first | refine blk_drewN ?_ _ | refine blk_drew ?_ | refine blk_alloc ?_ _)); refine blk_far ?_ (by have h_ := Kd.N_away HO_166001.out (fun _ hk => by first | exact hk.2.2.2 | exact hk.1.2.2.2 | exact hk.1.1.2.2.2 | exact hk.1.1.1.2.2.2); intro e_; exact h_ (by rw [e_]; rfl)) _; (with_reducible repeat (first | refine blk_drewN ?_ _ | refine blk_drew ?_ | refine blk_alloc ?_ _)); exact BK165.out⟩
                      have n4_ : Aside0 (Below w.heap.size w (w78.setCell ⟨go54, (a1 : Int).toNat, none⟩ (v173))) := ⟨by repeat (first | (with_reducible first | exact HB.out | apply below_alloc | apply pw_below_drewN | apply below_drew1 | refine below_set ?_ GB54.out | refine below_set ?_ GE156.out | refine below_set ?_ GE157.out | refine below_set ?_ GE165.out) | exact HB.out)⟩
                      (try clear HO_166001)
                      (try clear BK156)
                      (try clear BK157)
                      (try clear BK165)
                      (try clear HB)
                      generalize (w78.setCell ⟨go54, (a1 : Int).toNat, none⟩ (v173)) = w80 at n0_ n1_ n2_ n3_ n4_ ⊢
                      have HO_166001 := n0_
                      have BK156 := n1_
                      have BK157 := n2_
                      have BK165 := n3_
                      have HB := n4_
                      clear n0_ n1_ n2_ n3_ n4_
                      have hcz81_0 : w80.cell? ⟨gb165, 0, none⟩ = some (.int .i64 t161) := (blk_cell BK165.out 0).trans rfl
                      have hcz81_1 : w80.cell? ⟨gb165, 1, none⟩ = some (.slice (some ⟨go54, 0, none⟩) x166001_2.length co74) := (blk_cell BK165.out 1).trans rfl
                      have hfz81_0 := blk_frozen BK165.out 0
                      have hfz81_1 := blk_frozen BK165.out 1
                      try go_wp2_with (first | ((with_reducible refine gate_callee (f := 12) rfl ?_); refine goesL_ (some 57) rfl rfl Try.func12 (by kernel_rfl) rfl #[.agg #[.int .i64 a3, .slice (some ⟨go54, 0, none⟩) y175.length co74]] rfl (by (try simp only [List.map_toArray, List.map_cons, List.map_nil]); first | done | (rw [show y175.length = x166001_2.length from (Kd.N_reads' HO_166001.out).1.symm] <;> rfl) | rfl | (simp only [List.length_drop, List.length_take]; rfl)) ?_; (with_reducible refine (spec_PageUsed.calls k2 a3 _ _ y175 t176 _ ?side1 ?side2 A55.out).mono ?_); (case side1 => refine (Kd.N_reads' (e := 36) (base := w.heap.size) (ok := fun k_ => ((w.heap.size ≤ k_) ∧ (k_ ≠ gb156 ∧ (k_ ≠ gb157 ∧ k_ ≠ gb165)))) (n := x166001_2.length) (c := co74) ?_).2.2; exact (by (with_reducible repeat (first | apply Kd.N_alloc | apply Kd.N_drewN | apply Kd.N_drew)); exact (Kd.N_mono (Kd.N_far (p := ⟨gb165, 0, none⟩) (Kd.N_mono HO_166001.out (fun k_ hk => (⟨hk, hk.2.2.2⟩ : _ ∧ k_ ≠ gb165))) (fun _ hk => hk.2) (.int .i64 a3)) (fun _ h_ => h_.1)))); (case side2 => rw [show y175.length = x166001_2.length from (Kd.N_reads' HO_166001.out).1.symm]; exact (Kd.N_reads' HO_166001.out).2.1); rintro e w82 ⟨rfl, hb⟩; refine ⟨_, rfl, ?_⟩; have n0_ := Aside0.mk (Kd.N_below (by (with_reducible repeat (first | apply Kd.N_alloc | apply Kd.N_drewN | apply Kd.N_drew)); exact (Kd.N_mono (Kd.N_far (p := ⟨gb165, 0, none⟩) (Kd.N_mono HO_166001.out (fun k_ hk => (⟨hk, hk.2.2.2⟩ : _ ∧ k_ ≠ gb165))) (fun _ hk => hk.2) (.int .i64 a3)) (fun _ h_ => h_.1))) hb); have n1_ := Aside0.mk (blk_below (g := gb156) (o := .cells #[.int .i64 a0_0, .slice A0_1 l0_1.length c0_1] 27 (0, 0)) (by (with_reducible repeat (first | refine blk_drewN ?_ _ | refine blk_drew ?_ | refine blk_alloc ?_ _)); refine blk_far ?_ NB156_165.out _; (with_reducible repeat (first | refine blk_drewN ?_ _ | refine blk_drew ?_ | refine blk_alloc ?_ _)); exact BK156.out) hb); have n2_ := Aside0.mk (blk_below (g := gb157) (o := .cells #[.int .i64 0, .slice none 0 0] 27 (0, 0)) (by (with_reducible repeat (first | refine blk_drewN ?_ _ | refine blk_drew ?_ | refine blk_alloc ?_ _)); refine blk_far ?_ NB157_165.out _; (with_reducible repeat (first | refine blk_drewN ?_ _ | refine blk_drew ?_ | refine blk_alloc ?_ _)); exact BK157.out) hb); have n3_ := Aside0.mk (blk_below (g := gb165) (o := .cells #[.int .i64 a3, .slice (some ⟨go54, 0, none⟩) x166001_2.length co74] 27 (0, 0)) (by (with_reducible repeat (first | refine blk_drewN ?_ _ | refine blk_drew ?_ | refine blk_alloc ?_ _)); refine blk_put (cs := #[.int .i64 t161, .slice (some ⟨go54, 0, none⟩) x166001_2.length co74]) ?_ 0 _ rfl; (with_reducible repeat (first | refine blk_drewN ?_ _ | refine blk_drew ?_ | refine blk_alloc ?_ _)); exact BK165.out) hb); have n4_ := Aside0.mk (below_step (by repeat (first | (with_reducible first | exact HB.out | apply below_alloc | apply pw_below_drewN | apply below_drew1 | refine below_set ?_ GE156.out | refine below_set ?_ GE157.out | refine below_set ?_ GE165.out) | exact HB.out)) hb); clear HO_166001; clear BK156; clear BK157; clear BK165; clear HB; have HO_166001 := n0_; have BK156 := n1_; have BK157 := n2_; have BK165 := n3_; have HB := n4_; clear n0_ n1_ n2_ n3_ n4_; (try clear hb); (try clear hb2); (try clear hk); (try clear hi); have hcz83_0 : w82.cell? ⟨gb165, 0, none⟩ = some (.int .i64 a3) := (blk_cell BK165.out 0).trans rfl; have hcz83_1 : w82.cell? ⟨gb165, 1, none⟩ = some (.slice (some ⟨go54, 0, none⟩) x166001_2.length co74) := (blk_cell BK165.out 1).trans rfl; have hfz83_0 := blk_frozen BK165.out 0; have hfz83_1 := blk_frozen BK165.out 1; have hnb84 := NB157_156.out; have hnc84 := NB156_157.out; have hcz85_0 : w82.cell? ⟨gb157, 0, none⟩ = some (.int .i64 0) := (blk_cell BK157.out 0).trans rfl; have hcz85_1 : w82.cell? ⟨gb157, 1, none⟩ = some (.slice none 0 0) := (blk_cell BK157.out 1).trans rfl; have hfz85_0 := blk_frozen BK157.out 0; have hfz85_1 := blk_frozen BK157.out 1))
                      refine bodyPost_ret (results_ct rfl _ _ gb157 27 #[.int .i64 a3, .slice (some ⟨go54, 0, none⟩) x166001_2.length co74] (0, 0) _ rfl (by (with_reducible repeat (first | refine blk_drewN ?_ _ | refine blk_drew ?_ | refine blk_alloc ?_ _)); refine blk_put (cs := #[.int .i64 a3, .slice none 0 0]) ?_ 1 _ rfl; (with_reducible repeat (first | refine blk_drewN ?_ _ | refine blk_drew ?_ | refine blk_alloc ?_ _)); refine blk_put (cs := #[.int .i64 0, .slice none 0 0]) ?_ 0 _ rfl; (with_reducible repeat (first | refine blk_drewN ?_ _ | refine blk_drew ?_ | refine blk_alloc ?_ _)); exact BK157.out) Try.underlying27 rfl (by kernel_rfl)) rfl ?_
                      exact ⟨_, by first | rfl | (simp [errW_none, errW_some] <;> rfl) | (simp [*, errW_none, errW_some] <;> rfl), by (with_reducible repeat (first | apply Kd.N_alloc | apply Kd.N_drewN | apply Kd.N_drew)); exact Kd.N_mono (Kd.N_far (p := ⟨gb157, 1, none⟩) (Kd.N_far (p := ⟨gb157, 0, none⟩) (Kd.N_mono HO_166001.out (fun k_ hk => (⟨hk, hk.2.2.1⟩ : _ ∧ k_ ≠ gb157))) (fun _ hk => hk.2) (.int .i64 a3)) (fun _ hk => hk.2) (.slice (some ⟨go54, 0, none⟩) x166001_2.length co74)) (fun _ hk => hk.1.1), by repeat (first | (with_reducible first | exact HB.out | apply below_alloc | apply pw_below_drewN | apply below_drew1 | refine below_set ?_ GE156.out | refine below_set ?_ GE157.out | refine below_set ?_ GE165.out) | exact HB.out)⟩
                  · rw [if_neg c53] at H
                    exact absurd H (by simp)
                · rw [if_neg c52] at H
                  exact absurd H (by simp)
              · rw [if_neg c51] at H
                exact absurd H (by simp)

/-! ### impl_within: function 39 -/
def impl_within.f (a0 : Int) (a1 : Int) (a2 : Int) : Option (Bool) := if a1 ≤ a0 then (some (decide (a0 ≤ a2))) else (some false)
set_option maxHeartbeats 8000000 in
set_option maxRecDepth 100000 in
theorem impl_within.calls (a0 : Int) (a1 : Int) (a2 : Int) (r : Bool) (w : World) (h : impl_within.f a0 a1 a2 = some r) :
    Calls Try.prog 39 #[.int .i64 a0, .int .i64 a1, .int .i64 a2] w fun e w' => e = .returned (.bool r) ∧ Drawn0 w w' := by
  have H : (if a1 ≤ a0 then (some (decide (a0 ≤ a2))) else (some false)) = some r := h
  clear h
  by_cases c4 : a1 ≤ a0
  · rw [if_pos c4] at H
    have c4b0 : decide (a1 ≤ a0) = true := decide_eq_true c4
    clear c4
    obtain rfl := Option.some.inj H
    go_enter Try.func39, Try.ntmps39
    go_wp2
    go_ret
    exact ⟨by first | rfl | (simp; done) | (simp [*]; done), by repeat (first | exact Drawn0.refl _ | apply Drawn0.step)⟩
  · rw [if_neg c4] at H
    have c4b0 : decide (a1 ≤ a0) = false := decide_eq_false c4
    clear c4
    obtain rfl := Option.some.inj H
    go_enter Try.func39, Try.ntmps39
    go_wp2
    go_ret
    exact ⟨by first | rfl | (simp; done) | (simp [*]; done), by repeat (first | exact Drawn0.refl _ | apply Drawn0.step)⟩

end Go.Proofs.Ytokpniagnbaflaa.PFnExactPagePut
