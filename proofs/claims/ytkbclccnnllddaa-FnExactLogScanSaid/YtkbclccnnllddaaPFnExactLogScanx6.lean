-- By this session's own program (wip/xprint.py), over the kit's print.
import Derived.Test.YtkbclccnnllddaaPFnExactLogScanx0
import Derived.Test.YtkbclccnnllddaaPFnExactLogScanx1
import Derived.Test.YtkbclccnnllddaaPFnExactLogScanx5
namespace Go.Proofs.Ytkbclccnnllddaa.PFnExactLogScan
open Go.RowKit Go.Proofs.YtkbclccnnllddaaW.PrintWords Go.Proofs.YtkbclccnnllddaaW.PrintLast Go.Proofs.YtkbclccnnllddaaW.PrintMore
attribute [local go_sem] max2_int min2_int max_two min_two max_three min_three max_four min_four   -- for this text's walks alone
attribute [local go_sem high] fl_eql fl_neq fl_lss fl_leq fl_gtr fl_geq fl_add fl_sub fl_mul fl_quo fl_neg fl_ofInt fl_toInt fl_store
set_option linter.unusedVariables false
set_option linter.unusedSimpArgs false

/-! ### impl_LogScan: function 33 -/
def impl_LogScan.l0 : Nat → List Int → Int → List (S37) → Int → Option ((List (S37)) × Int)
  | 0, _, _, _, _ => none
  | k + 1, x0, x1, x6, x7 => (impl_RecordAt.f k x0 x7).bind fun bt233 => (if bt233.2.2.2.2.2.2.2 = 0 then (if bt233.2.1 = x1 then (if x6.length < 2199023255552 then (impl_LogScan.l0 k x0 (wrap64 (x1 + 1)) (x6 ++ [(⟨bt233.1, bt233.2.1, bt233.2.2.1, bt233.2.2.2.1, bt233.2.2.2.2.1, bt233.2.2.2.2.2.1⟩ : S37)]) bt233.2.2.2.2.2.2.1) else (none)) else (some (x6, x7))) else (some (x6, x7)))
def impl_LogScan.f (k : Nat) (l0 : List Int) (a1 : Int) : Option ((List (S37)) × Int) := impl_LogScan.l0 k l0 a1 ([] : List (S37)) 0
theorem impl_LogScan.mono_l : ∀ k, (∀ y0 y1 y2 y3, LeO (impl_LogScan.l0 k y0 y1 y2 y3) (impl_LogScan.l0 (k + 1) y0 y1 y2 y3))
  | 0 => fun _ _ _ _ r h => by simp [impl_LogScan.l0] at h
  | k + 1 => by
    have ih0 := impl_LogScan.mono_l k
    · intro y0 y1 y2 y3
      unfold impl_LogScan.l0
      repeat' first
      | (with_reducible exact ih0 _ _ _ _)
      | (with_reducible exact impl_RecordAt.mono _ _ _)
      | (with_reducible exact LeO.refl _)
      | (with_reducible exact LeO.none _)
      | (with_reducible refine LeO.ite ?_ ?_)
      | (with_reducible refine LeO.bind ?_ (fun _ => ?_))
      | exact ih0 _ _ _ _
      | exact impl_RecordAt.mono _ _ _
      | exact LeO.none _
      | refine LeO.ite ?_ ?_
      | refine LeO.bind ?_ (fun _ => ?_)
theorem impl_LogScan.mono : ∀ a0 a1 k, LeO (impl_LogScan.f k a0 a1) (impl_LogScan.f (k + 1) a0 a1) := by
  intro a0 a1 k
  have ih0 := impl_LogScan.mono_l k
  unfold impl_LogScan.f
  repeat' first
      | (with_reducible exact ih0 _ _ _ _)
      | (with_reducible exact impl_RecordAt.mono _ _ _)
      | (with_reducible exact LeO.refl _)
      | (with_reducible exact LeO.none _)
      | (with_reducible refine LeO.ite ?_ ?_)
      | (with_reducible refine LeO.bind ?_ (fun _ => ?_))
      | exact ih0 _ _ _ _
      | exact impl_RecordAt.mono _ _ _
      | exact LeO.none _
      | refine LeO.ite ?_ ?_
      | refine LeO.bind ?_ (fun _ => ?_)
set_option maxHeartbeats 8000000 in
set_option maxRecDepth 100000 in
theorem impl_LogScan.calls (k : Nat) (A0 : Option Addr) (c0 : Nat) (l0 : List Int) (a1 : Int) (r1 : List (S37)) (r2 : Int) (w : World) (hr0 : Kd.C (Kd.int .u8) w A0 l0.length l0) (hc0 : l0.length ≤ c0) (h : impl_LogScan.f k l0 a1 = some (r1, r2)) :
    Calls Try.prog 33 #[.slice A0 l0.length c0, .int .i64 a1] w fun e w' => ∃ v0_ : Value, e = .returned (.tuple #[v0_, .int .i64 r2]) ∧ Kd.S k37 37 w' w.heap.size (fun _ => True) v0_ r1 ∧ Below w.heap.size w w' := by
  have hu37 := Try.underlying37
  have HR0 := Aside0.mk hr0
  have HC0 := Aside0.mk hc0
  clear hr0 hc0
  have HB := Aside0.mk (Below.refl w.heap.size w)
  have H : (impl_LogScan.l0 k l0 a1 ([] : List (S37)) 0) = some (r1, r2) := h
  clear h
  have H' := Aside0.mk H
  clear H
  go_enter Try.func33, Try.ntmps33
  go_wp2
  go_loopg [1, 6, 7] k (fun kq v1 v6 v7 w' => ∃ (x1_1 : Int) (x6_1 : List (S37)) (x7_1 : Int), v1 = .int .i64 x1_1 ∧ v7 = .int .i64 x7_1 ∧ Aside0 (impl_LogScan.l0 kq l0 x1_1 x6_1 x7_1 = some (r1, r2)) ∧ Aside0 (kq ≤ k) ∧ Aside0 (Kd.S k37 37 w' w.heap.size (fun _ => True) v6 x6_1) ∧ Aside0 (Below w.heap.size w w'))
  case atStart => exact ⟨(a1), (([] : List (S37))), (0), (by first | rfl | (simp; done) | (simp [*]; done)), (by first | rfl | (simp; done) | (simp [*]; done)), H', ⟨Nat.le_refl _⟩, ⟨by first | exact Kd.S_nil _ _ _ _ _ | exact Kd.N_nil _ _ _ _ _ | exact Kd.V_nil _ _ _ _ _ | exact Kd.Q_nil _ _ _ _ _ | exact Kd.R_nil _ _ _ _ _⟩, ⟨by repeat (first | (with_reducible first | exact HB.out | apply below_alloc | apply pw_below_drewN | apply below_drew1) | exact HB.out)⟩⟩
  case round =>
    clear H'
    try clear p2
    obtain ⟨x1_1, x6_1, x7_1, rfl, rfl, HA, HK1, HO_6, HB⟩ := hrel
    cases gk with
    | zero => exact absurd HA.out (by simp [impl_LogScan.l0])
    | succ k1 =>
      have H := HA.out
      clear HA
      simp only [impl_LogScan.l0] at H
      replace H := Option.bind_eq_some_iff.mp H
      obtain ⟨⟨t233, t234, t235, t236, t237, t238, t241, t242⟩, A30, H⟩ := H
      replace H : (if t242 = 0 then (if t234 = x1_1 then (if x6_1.length < 2199023255552 then (impl_LogScan.l0 k1 l0 (wrap64 (x1_1 + 1)) (x6_1 ++ [(⟨t233, t234, t235, t236, t237, t238⟩ : S37)]) t241) else (none)) else (some (x6_1, x7_1))) else (some (x6_1, x7_1))) = some (r1, r2) := H
      have A3 := Aside0.mk A30
      clear A30
      by_cases c4 : t242 = 0
      · rw [if_pos c4] at H
        have c4b0 : (t242 == 0) = true := beq_iff_eq.mpr c4
        have c4b1 : (t242 != 0) = false := bne_eq_false_iff_eq.mpr c4
        clear c4
        by_cases c5 : t234 = x1_1
        · rw [if_pos c5] at H
          have c5b0 : (t234 == x1_1) = true := beq_iff_eq.mpr c5
          have c5b1 : (t234 != x1_1) = false := bne_eq_false_iff_eq.mpr c5
          clear c5
          by_cases c6 : x6_1.length < 2199023255552
          · rw [if_pos c6] at H
            have LMc6 := Aside0.mk c6
            clear c6
            obtain ⟨y244, hy244⟩ : ∃ y_ : List (S37), y_ = (x6_1 ++ [(⟨t233, t234, t235, t236, t237, t238⟩ : S37)]) := ⟨_, rfl⟩
            replace H : (impl_LogScan.l0 k1 l0 (wrap64 (x1_1 + 1)) y244 t241) = some (r1, r2) := by first | (rw [hy244]; with_reducible exact H) | (have H2_ := (Option.bind_some _ _).symm.trans H; rw [hy244]; with_reducible exact H2_) | (have H2_ := (Option.bind_some _ _).symm.trans H; with_reducible exact H2_) | with_reducible exact H | (rw [hy244]; exact H) | exact H
            have Ny244 := Aside0.mk hy244
            clear hy244
            have H' := Aside0.mk H
            clear H
            go_wp2_with (first | ((with_reducible refine gate_callee (f := 30) rfl ?_); refine goesL_ (some 14) rfl rfl Try.func30 (by kernel_rfl) rfl #[.slice A0 l0.length c0, .int .i64 x7_1] rfl (by (try simp only [List.map_toArray, List.map_cons, List.map_nil]); first | done | rfl | (simp only [List.length_drop, List.length_take]; rfl)) ?_; (with_reducible refine (impl_RecordAt.calls k1 _ _ l0 x7_1 t233 t234 t235 t236 t237 t238 t241 t242 _ ?side1 ?side2 A3.out).mono ?_); (case side1 => repeat (first | exact (Kd.C_below HR0.out HB.out) | (with_reducible refine Kd.C_alloc ?_ _) | (with_reducible refine Kd.C_drewN ?_ _) | (with_reducible refine Kd.C_drew ?_))); (case side2 => exact HC0.out); rintro e w7 ⟨v239, rfl, ho0, hb⟩; refine ⟨_, rfl, ?_⟩; have n0_ := Aside0.mk (Kd.S_elder' (by (with_reducible repeat (first | apply Kd.S_alloc | apply Kd.S_drewN | apply Kd.S_drew)); exact HO_6.out) (Kd.R_base ho0) hb); have n1_ := Aside0.mk (Kd.R_lower ho0 (below_size (by repeat (first | (with_reducible first | exact HB.out | apply below_alloc | apply pw_below_drewN | apply below_drew1) | exact HB.out)))); have n2_ := Aside0.mk (below_step (by repeat (first | (with_reducible first | exact HB.out | apply below_alloc | apply pw_below_drewN | apply below_drew1) | exact HB.out)) hb); clear HO_6; clear HB; have HO_6 := n0_; have HO240 := n1_; have HB := n2_; clear n0_ n1_ n2_; (try clear hb); (try clear hb2); (try clear hk); (try clear hi); (try clear ho0)) | ((with_reducible refine gate_dst (N := 8) rfl ?_); refine box_event ?hg (N := 8) ?hd (cs := #[.int .i64 0, .int .i64 0, .int .i64 0, .int .i64 0, .int .i64 0, .slice none 0 0]) (t := 37) ?hr ?_; (case hd => rfl); (case hg => rfl); (case hr => first | (go_simp; done) | (go_simp; rfl)); intro gb243 hg w8 hbox hb; have n0_ := Aside0.mk (Kd.S_below (Kd.S_elderB (by (with_reducible repeat (first | apply Kd.S_alloc | apply Kd.S_drewN | apply Kd.S_drew)); exact HO_6.out) gb243 (Nat.le_of_eq hg.symm)) hb); have n1_ := Aside0.mk (Kd.R_below (by (with_reducible repeat (first | apply Kd.R_alloc | apply Kd.R_drewN | apply Kd.R_drew)); exact HO240.out) hb); have n2_ := Aside0.mk (below_step (by repeat (first | (with_reducible first | exact HB.out | apply below_alloc | apply pw_below_drewN | apply below_drew1) | exact HB.out)) hb); have n3_ := Aside0.mk (hbox); have n4_ := Aside0.mk ((by rw [hg]; exact (below_size (by repeat (first | (with_reducible first | exact HB.out | apply below_alloc | apply pw_below_drewN | apply below_drew1) | exact HB.out))) : w.heap.size ≤ gb243)); have n5_ := Aside0.mk ((by rw [hg]; exact (below_size (by repeat (first | (with_reducible first | exact HB.out | apply below_alloc | apply pw_below_drewN | apply below_drew1) | exact HB.out))) : w.heap.size ≤ gb243)); clear HO_6; clear HO240; clear HB; have HO_6 := n0_; have HO240 := n1_; have HB := n2_; have BK243 := n3_; have GW243 := n4_; have GE243 := n5_; clear n0_ n1_ n2_ n3_ n4_ n5_; clear hb hbox hg; have hcz9_0 : w8.cell? ⟨gb243, 0, none⟩ = some (.int .i64 0) := (blk_cell BK243.out 0).trans rfl; have hcz9_1 : w8.cell? ⟨gb243, 1, none⟩ = some (.int .i64 0) := (blk_cell BK243.out 1).trans rfl; have hcz9_2 : w8.cell? ⟨gb243, 2, none⟩ = some (.int .i64 0) := (blk_cell BK243.out 2).trans rfl; have hcz9_3 : w8.cell? ⟨gb243, 3, none⟩ = some (.int .i64 0) := (blk_cell BK243.out 3).trans rfl; have hcz9_4 : w8.cell? ⟨gb243, 4, none⟩ = some (.int .i64 0) := (blk_cell BK243.out 4).trans rfl; have hcz9_5 : w8.cell? ⟨gb243, 5, none⟩ = some (.slice none 0 0) := (blk_cell BK243.out 5).trans rfl; have hfz9_0 := blk_frozen BK243.out 0; have hfz9_1 := blk_frozen BK243.out 1; have hfz9_2 := blk_frozen BK243.out 2; have hfz9_3 := blk_frozen BK243.out 3; have hfz9_4 := blk_frozen BK243.out 4; have hfz9_5 := blk_frozen BK243.out 5; obtain ⟨Ao10, co10, eo10⟩ := Kd.R_slice HO240.out; subst eo10) | ((with_reducible refine gate_store (t := 37) (p := 8) rfl ?_); refine store_event (t := 37) (p := 8) (v := ?vo_w11) (w1 := ((((((w8.setCell ⟨gb243, 0, none⟩ (.int .i64 t233)).setCell ⟨gb243, 1, none⟩ (.int .i64 t234)).setCell ⟨gb243, 2, none⟩ (.int .i64 t235)).setCell ⟨gb243, 3, none⟩ (.int .i64 t236)).setCell ⟨gb243, 4, none⟩ (.int .i64 t237)).setCell ⟨gb243, 5, none⟩ (.slice Ao10 t238.length co10))) ?hg ?ho ?hn ?hr ?_; (case ho => rfl); (case hg => rfl); (case hn => rfl); (case hr => first | (go_simp; done) | (go_simp; rfl)); intro w11 hw; have n0_ : Aside0 (Kd.S k37 37 w11 w.heap.size (fun k_ => some k_ ≠ (.slice Ao10 t238.length co10 : Value).ownBlock ∧ k_ ≠ gb243) u6 x6_1) := ⟨(by rw [hw]; exact (by (with_reducible repeat (first | apply Kd.S_alloc | apply Kd.S_drewN | apply Kd.S_drew)); exact Kd.S_mono (Kd.S_far (p := ⟨gb243, 5, none⟩) (Kd.S_far (p := ⟨gb243, 4, none⟩) (Kd.S_far (p := ⟨gb243, 3, none⟩) (Kd.S_far (p := ⟨gb243, 2, none⟩) (Kd.S_far (p := ⟨gb243, 1, none⟩) (Kd.S_far (p := ⟨gb243, 0, none⟩) (Kd.S_mono HO_6.out (fun k_ hk => (⟨hk, hk.2⟩ : _ ∧ k_ ≠ gb243))) (fun _ hk => hk.2) (.int .i64 t233)) (fun _ hk => hk.2) (.int .i64 t234)) (fun _ hk => hk.2) (.int .i64 t235)) (fun _ hk => hk.2) (.int .i64 t236)) (fun _ hk => hk.2) (.int .i64 t237)) (fun _ hk => hk.2) (.slice Ao10 t238.length co10)) (fun _ hk => ⟨hk.1.1.2, hk.1.2⟩)))⟩; have n1_ : Aside0 (Kd.R (Kd.int .u8) 5 w11 w.heap.size (fun _ => True) (.slice Ao10 t238.length co10) t238) := ⟨(by rw [hw]; exact (by (with_reducible repeat (first | apply Kd.R_alloc | apply Kd.R_drewN | apply Kd.R_drew)); exact Kd.R_mono (Kd.R_far (p := ⟨gb243, 5, none⟩) (Kd.R_far (p := ⟨gb243, 4, none⟩) (Kd.R_far (p := ⟨gb243, 3, none⟩) (Kd.R_far (p := ⟨gb243, 2, none⟩) (Kd.R_far (p := ⟨gb243, 1, none⟩) (Kd.R_far (p := ⟨gb243, 0, none⟩) (Kd.R_types HO240.out BK243.out (by decide)) (fun _ hk => hk.2) (.int .i64 t233)) (fun _ hk => hk.2) (.int .i64 t234)) (fun _ hk => hk.2) (.int .i64 t235)) (fun _ hk => hk.2) (.int .i64 t236)) (fun _ hk => hk.2) (.int .i64 t237)) (fun _ hk => hk.2) (.slice Ao10 t238.length co10)) (fun _ hk => trivial)))⟩; have n2_ : Aside0 (w11.heap[gb243]? = some (.cells #[.int .i64 t233, .int .i64 t234, .int .i64 t235, .int .i64 t236, .int .i64 t237, .slice Ao10 t238.length co10] 37 (0, 0))) := ⟨(by rw [hw]; exact (by (with_reducible repeat (first | refine blk_drewN ?_ _ | refine blk_drew ?_ | refine blk_alloc ?_ _)); refine blk_put (cs := #[.int .i64 t233, .int .i64 t234, .int .i64 t235, .int .i64 t236, .int .i64 t237, .slice none 0 0]) ?_ 5 _ rfl; (with_reducible repeat (first | refine blk_drewN ?_ _ | refine blk_drew ?_ | refine blk_alloc ?_ _)); refine blk_put (cs := #[.int .i64 t233, .int .i64 t234, .int .i64 t235, .int .i64 t236, .int .i64 0, .slice none 0 0]) ?_ 4 _ rfl; (with_reducible repeat (first | refine blk_drewN ?_ _ | refine blk_drew ?_ | refine blk_alloc ?_ _)); refine blk_put (cs := #[.int .i64 t233, .int .i64 t234, .int .i64 t235, .int .i64 0, .int .i64 0, .slice none 0 0]) ?_ 3 _ rfl; (with_reducible repeat (first | refine blk_drewN ?_ _ | refine blk_drew ?_ | refine blk_alloc ?_ _)); refine blk_put (cs := #[.int .i64 t233, .int .i64 t234, .int .i64 0, .int .i64 0, .int .i64 0, .slice none 0 0]) ?_ 2 _ rfl; (with_reducible repeat (first | refine blk_drewN ?_ _ | refine blk_drew ?_ | refine blk_alloc ?_ _)); refine blk_put (cs := #[.int .i64 t233, .int .i64 0, .int .i64 0, .int .i64 0, .int .i64 0, .slice none 0 0]) ?_ 1 _ rfl; (with_reducible repeat (first | refine blk_drewN ?_ _ | refine blk_drew ?_ | refine blk_alloc ?_ _)); refine blk_put (cs := #[.int .i64 0, .int .i64 0, .int .i64 0, .int .i64 0, .int .i64 0, .slice none 0 0]) ?_ 0 _ rfl; (with_reducible repeat (first | refine blk_drewN ?_ _ | refine blk_drew ?_ | refine blk_alloc ?_ _)); exact BK243.out))⟩; have n3_ : Aside0 (Below w.heap.size w w11) := ⟨(by rw [hw]; exact (by repeat (first | (with_reducible first | exact HB.out | apply below_alloc | apply pw_below_drewN | apply below_drew1 | refine below_set ?_ GE243.out) | exact HB.out)))⟩; clear hw; clear HO_6; clear HO240; clear BK243; clear HB; have HO_6 := n0_; have HO240 := n1_; have BK243 := n2_; have HB := n3_; clear n0_ n1_ n2_ n3_; have hcz12_0 : w11.cell? ⟨gb243, 0, none⟩ = some (.int .i64 t233) := (blk_cell BK243.out 0).trans rfl; have hcz12_1 : w11.cell? ⟨gb243, 1, none⟩ = some (.int .i64 t234) := (blk_cell BK243.out 1).trans rfl; have hcz12_2 : w11.cell? ⟨gb243, 2, none⟩ = some (.int .i64 t235) := (blk_cell BK243.out 2).trans rfl; have hcz12_3 : w11.cell? ⟨gb243, 3, none⟩ = some (.int .i64 t236) := (blk_cell BK243.out 3).trans rfl; have hcz12_4 : w11.cell? ⟨gb243, 4, none⟩ = some (.int .i64 t237) := (blk_cell BK243.out 4).trans rfl; have hcz12_5 : w11.cell? ⟨gb243, 5, none⟩ = some (.slice Ao10 t238.length co10) := (blk_cell BK243.out 5).trans rfl; have hfz12_0 := blk_frozen BK243.out 0; have hfz12_1 := blk_frozen BK243.out 1; have hfz12_2 := blk_frozen BK243.out 2; have hfz12_3 := blk_frozen BK243.out 3; have hfz12_4 := blk_frozen BK243.out 4; have hfz12_5 := blk_frozen BK243.out 5) | ((with_reducible refine gate_builtin (b := .append) (xs := #[.tmp 28, .tmp 30]) rfl ?_); at_builtin; refine Kd.S_append k37 (w0 := w) w.heap.size rfl (.tmp 28) (.tmp 30) 45 37 (.agg #[(.int .i64 0), (.int .i64 0), (.int .i64 0), (.int .i64 0), (.int .i64 0), (.slice none 0 0)]) 64 rfl Try.underlying45 info37 rfl (by decide) (by omega) u6 x6_1 (⟨t233, t234, t235, t236, t237, t238⟩ : S37) [.int .i64 t233, .int .i64 t234, .int .i64 t235, .int .i64 t236, .int .i64 t237, .slice Ao10 t238.length co10] (fun k_ => k_ ≠ gb243) (fun k_ => some k_ = (.slice Ao10 t238.length co10 : Value).ownBlock) rfl rfl ?aP (fun k_ hk_ => ((Kd.R_mono (ok' := fun k_ => ((fun k_ => k_ ≠ gb243)) k_ ∧ some k_ ≠ (u6 : Value).ownBlock) (Kd.R_types (Kd.R_apart' (HO240.out) (Kd.S_typed HO_6.out) (by decide)) BK243.out (by decide)) (fun k_ hk => ⟨hk.2, hk.1.2⟩))).1 k_ hk_.symm) ?aF ?aO ?aB ?aS ?aL ?_; (case aP => exact k37_mkM _ _ _ (⟨t233, t234, t235, t236, t237, t238⟩ : S37) (Kd.R_mono (Kd.R_tight rfl (Kd.R_mono (ok' := fun k_ => ((fun k_ => k_ ≠ gb243)) k_ ∧ some k_ ≠ (u6 : Value).ownBlock) (Kd.R_types (Kd.R_apart' (HO240.out) (Kd.S_typed HO_6.out) (by decide)) BK243.out (by decide)) (fun k_ hk => ⟨hk.2, hk.1.2⟩))) (fun _ h_ => h_))); (case aB => exact (by repeat (first | (with_reducible first | exact HB.out | apply below_alloc | apply pw_below_drewN | apply below_drew1 | refine below_set ?_ GE243.out) | exact HB.out))); (case aF => exact (fun k_ hk => Kd.freshB (g := gb243) (o := .cells #[.int .i64 t233, .int .i64 t234, .int .i64 t235, .int .i64 t236, .int .i64 t237, .slice Ao10 t238.length co10] 37 (0, 0)) (by (with_reducible repeat (first | refine blk_drewN ?_ _ | refine blk_drew ?_ | refine blk_alloc ?_ _)); exact BK243.out) k_ hk)); (case aO => exact (by (with_reducible repeat (first | apply Kd.S_alloc | apply Kd.S_drewN | apply Kd.S_drew)); exact Kd.S_mono HO_6.out (fun k_ hk => ⟨hk.2, fun e_ => hk.1 e_⟩))); (case aS => exact (below_size (by repeat (first | (with_reducible first | exact HB.out | apply below_alloc | apply pw_below_drewN | apply below_drew1 | refine below_set ?_ GE243.out) | exact HB.out)))); (case aL => have := LMc6.out; omega); intro v245 w13 ho hb hg hat; rw [← Ny244.out] at ho; have n0_ := Aside0.mk (blk_grown (g := gb243) (o := .cells #[.int .i64 t233, .int .i64 t234, .int .i64 t235, .int .i64 t236, .int .i64 t237, .slice Ao10 t238.length co10] 37 (0, 0)) (by (with_reducible repeat (first | refine blk_drewN ?_ _ | refine blk_drew ?_ | refine blk_alloc ?_ _)); exact BK243.out) hg (Kd.S_away HO_6.out (fun _ hk => hk.2))); have n1_ := Aside0.mk (hb); have n2_ := Aside0.mk (ho); clear BK243; clear HB; clear HO_6; clear HO240; have BK243 := n0_; have HB := n1_; have HO246 := n2_; clear n0_ n1_ n2_; clear ho hb hg hat))
            go_roundg k1
            case measure => have := HK1.out; omega
            case rel => exact ⟨(wrap64 (x1_1 + 1)), (y244), (t241), (by first | rfl | (simp; done) | (simp [*]; done)), (by first | rfl | (simp; done) | (simp [*]; done)), H', ⟨by have := HK1.out; omega⟩, ⟨by (with_reducible repeat (first | apply Kd.S_alloc | apply Kd.S_drewN | apply Kd.S_drew)); exact Kd.S_mono HO246.out (fun _ hk => trivial)⟩, ⟨by repeat (first | (with_reducible first | exact HB.out | apply below_alloc | apply pw_below_drewN | apply below_drew1 | refine below_set ?_ GE243.out) | exact HB.out)⟩⟩
          · rw [if_neg c6] at H
            exact absurd H (by simp)
        · rw [if_neg c5] at H
          have c5b0 : (t234 == x1_1) = false := beq_eq_false_iff_ne.mpr c5
          have c5b1 : (t234 != x1_1) = true := bne_iff_ne.mpr c5
          simp only [Option.some.injEq, Prod.mk.injEq] at H
          obtain ⟨rfl, rfl⟩ := H
          go_wp2_with (first | ((with_reducible refine gate_callee (f := 30) rfl ?_); refine goesL_ (some 14) rfl rfl Try.func30 (by kernel_rfl) rfl #[.slice A0 l0.length c0, .int .i64 x7_1] rfl (by (try simp only [List.map_toArray, List.map_cons, List.map_nil]); first | done | rfl | (simp only [List.length_drop, List.length_take]; rfl)) ?_; (with_reducible refine (impl_RecordAt.calls k1 _ _ l0 x7_1 t233 t234 t235 t236 t237 t238 t241 t242 _ ?side1 ?side2 A3.out).mono ?_); (case side1 => repeat (first | exact (Kd.C_below HR0.out HB.out) | (with_reducible refine Kd.C_alloc ?_ _) | (with_reducible refine Kd.C_drewN ?_ _) | (with_reducible refine Kd.C_drew ?_))); (case side2 => exact HC0.out); rintro e w14 ⟨v239, rfl, ho0, hb⟩; refine ⟨_, rfl, ?_⟩; have n0_ := Aside0.mk (Kd.S_elder' (by (with_reducible repeat (first | apply Kd.S_alloc | apply Kd.S_drewN | apply Kd.S_drew)); exact HO_6.out) (Kd.R_base ho0) hb); have n1_ := Aside0.mk (Kd.R_lower ho0 (below_size (by repeat (first | (with_reducible first | exact HB.out | apply below_alloc | apply pw_below_drewN | apply below_drew1) | exact HB.out)))); have n2_ := Aside0.mk (below_step (by repeat (first | (with_reducible first | exact HB.out | apply below_alloc | apply pw_below_drewN | apply below_drew1) | exact HB.out)) hb); clear HO_6; clear HB; have HO_6 := n0_; have HO240 := n1_; have HB := n2_; clear n0_ n1_ n2_; (try clear hb); (try clear hb2); (try clear hk); (try clear hi); (try clear ho0)) | ((with_reducible refine gate_dst (N := 8) rfl ?_); refine box_event ?hg (N := 8) ?hd (cs := #[.int .i64 0, .int .i64 0, .int .i64 0, .int .i64 0, .int .i64 0, .slice none 0 0]) (t := 37) ?hr ?_; (case hd => rfl); (case hg => rfl); (case hr => first | (go_simp; done) | (go_simp; rfl)); intro gb243 hg w15 hbox hb; have n0_ := Aside0.mk (Kd.S_below (Kd.S_elderB (by (with_reducible repeat (first | apply Kd.S_alloc | apply Kd.S_drewN | apply Kd.S_drew)); exact HO_6.out) gb243 (Nat.le_of_eq hg.symm)) hb); have n1_ := Aside0.mk (Kd.R_below (by (with_reducible repeat (first | apply Kd.R_alloc | apply Kd.R_drewN | apply Kd.R_drew)); exact HO240.out) hb); have n2_ := Aside0.mk (below_step (by repeat (first | (with_reducible first | exact HB.out | apply below_alloc | apply pw_below_drewN | apply below_drew1) | exact HB.out)) hb); have n3_ := Aside0.mk (hbox); have n4_ := Aside0.mk ((by rw [hg]; exact (below_size (by repeat (first | (with_reducible first | exact HB.out | apply below_alloc | apply pw_below_drewN | apply below_drew1) | exact HB.out))) : w.heap.size ≤ gb243)); have n5_ := Aside0.mk ((by rw [hg]; exact (below_size (by repeat (first | (with_reducible first | exact HB.out | apply below_alloc | apply pw_below_drewN | apply below_drew1) | exact HB.out))) : w.heap.size ≤ gb243)); clear HO_6; clear HO240; clear HB; have HO_6 := n0_; have HO240 := n1_; have HB := n2_; have BK243 := n3_; have GW243 := n4_; have GE243 := n5_; clear n0_ n1_ n2_ n3_ n4_ n5_; clear hb hbox hg; have hcz16_0 : w15.cell? ⟨gb243, 0, none⟩ = some (.int .i64 0) := (blk_cell BK243.out 0).trans rfl; have hcz16_1 : w15.cell? ⟨gb243, 1, none⟩ = some (.int .i64 0) := (blk_cell BK243.out 1).trans rfl; have hcz16_2 : w15.cell? ⟨gb243, 2, none⟩ = some (.int .i64 0) := (blk_cell BK243.out 2).trans rfl; have hcz16_3 : w15.cell? ⟨gb243, 3, none⟩ = some (.int .i64 0) := (blk_cell BK243.out 3).trans rfl; have hcz16_4 : w15.cell? ⟨gb243, 4, none⟩ = some (.int .i64 0) := (blk_cell BK243.out 4).trans rfl; have hcz16_5 : w15.cell? ⟨gb243, 5, none⟩ = some (.slice none 0 0) := (blk_cell BK243.out 5).trans rfl; have hfz16_0 := blk_frozen BK243.out 0; have hfz16_1 := blk_frozen BK243.out 1; have hfz16_2 := blk_frozen BK243.out 2; have hfz16_3 := blk_frozen BK243.out 3; have hfz16_4 := blk_frozen BK243.out 4; have hfz16_5 := blk_frozen BK243.out 5; obtain ⟨Ao17, co17, eo17⟩ := Kd.R_slice HO240.out; subst eo17))
          go_ret2
          exact ⟨_, by first | rfl | (simp [errW_none, errW_some] <;> rfl) | (simp [*, errW_none, errW_some] <;> rfl), by (with_reducible repeat (first | apply Kd.S_alloc | apply Kd.S_drewN | apply Kd.S_drew)); exact Kd.S_mono (Kd.S_far (p := ⟨gb243, 5, none⟩) (Kd.S_far (p := ⟨gb243, 4, none⟩) (Kd.S_far (p := ⟨gb243, 3, none⟩) (Kd.S_far (p := ⟨gb243, 2, none⟩) (Kd.S_far (p := ⟨gb243, 1, none⟩) (Kd.S_far (p := ⟨gb243, 0, none⟩) (Kd.S_mono HO_6.out (fun k_ hk => (⟨hk, hk.2⟩ : _ ∧ k_ ≠ gb243))) (fun _ hk => hk.2) (.int .i64 t233)) (fun _ hk => hk.2) (.int .i64 t234)) (fun _ hk => hk.2) (.int .i64 t235)) (fun _ hk => hk.2) (.int .i64 t236)) (fun _ hk => hk.2) (.int .i64 t237)) (fun _ hk => hk.2) (.slice Ao17 t238.length co17)) (fun _ hk => trivial), by repeat (first | (with_reducible first | exact HB.out | apply below_alloc | apply pw_below_drewN | apply below_drew1 | refine below_set ?_ GE243.out) | exact HB.out)⟩
      · rw [if_neg c4] at H
        have c4b0 : (t242 == 0) = false := beq_eq_false_iff_ne.mpr c4
        have c4b1 : (t242 != 0) = true := bne_iff_ne.mpr c4
        simp only [Option.some.injEq, Prod.mk.injEq] at H
        obtain ⟨rfl, rfl⟩ := H
        go_wp2_with (first | ((with_reducible refine gate_callee (f := 30) rfl ?_); refine goesL_ (some 14) rfl rfl Try.func30 (by kernel_rfl) rfl #[.slice A0 l0.length c0, .int .i64 x7_1] rfl (by (try simp only [List.map_toArray, List.map_cons, List.map_nil]); first | done | rfl | (simp only [List.length_drop, List.length_take]; rfl)) ?_; (with_reducible refine (impl_RecordAt.calls k1 _ _ l0 x7_1 t233 t234 t235 t236 t237 t238 t241 t242 _ ?side1 ?side2 A3.out).mono ?_); (case side1 => repeat (first | exact (Kd.C_below HR0.out HB.out) | (with_reducible refine Kd.C_alloc ?_ _) | (with_reducible refine Kd.C_drewN ?_ _) | (with_reducible refine Kd.C_drew ?_))); (case side2 => exact HC0.out); rintro e w18 ⟨v239, rfl, ho0, hb⟩; refine ⟨_, rfl, ?_⟩; have n0_ := Aside0.mk (Kd.S_elder' (by (with_reducible repeat (first | apply Kd.S_alloc | apply Kd.S_drewN | apply Kd.S_drew)); exact HO_6.out) (Kd.R_base ho0) hb); have n1_ := Aside0.mk (Kd.R_lower ho0 (below_size (by repeat (first | (with_reducible first | exact HB.out | apply below_alloc | apply pw_below_drewN | apply below_drew1) | exact HB.out)))); have n2_ := Aside0.mk (below_step (by repeat (first | (with_reducible first | exact HB.out | apply below_alloc | apply pw_below_drewN | apply below_drew1) | exact HB.out)) hb); clear HO_6; clear HB; have HO_6 := n0_; have HO240 := n1_; have HB := n2_; clear n0_ n1_ n2_; (try clear hb); (try clear hb2); (try clear hk); (try clear hi); (try clear ho0)) | ((with_reducible refine gate_dst (N := 8) rfl ?_); refine box_event ?hg (N := 8) ?hd (cs := #[.int .i64 0, .int .i64 0, .int .i64 0, .int .i64 0, .int .i64 0, .slice none 0 0]) (t := 37) ?hr ?_; (case hd => rfl); (case hg => rfl); (case hr => first | (go_simp; done) | (go_simp; rfl)); intro gb243 hg w19 hbox hb; have n0_ := Aside0.mk (Kd.S_below (Kd.S_elderB (by (with_reducible repeat (first | apply Kd.S_alloc | apply Kd.S_drewN | apply Kd.S_drew)); exact HO_6.out) gb243 (Nat.le_of_eq hg.symm)) hb); have n1_ := Aside0.mk (Kd.R_below (by (with_reducible repeat (first | apply Kd.R_alloc | apply Kd.R_drewN | apply Kd.R_drew)); exact HO240.out) hb); have n2_ := Aside0.mk (below_step (by repeat (first | (with_reducible first | exact HB.out | apply below_alloc | apply pw_below_drewN | apply below_drew1) | exact HB.out)) hb); have n3_ := Aside0.mk (hbox); have n4_ := Aside0.mk ((by rw [hg]; exact (below_size (by repeat (first | (with_reducible first | exact HB.out | apply below_alloc | apply pw_below_drewN | apply below_drew1) | exact HB.out))) : w.heap.size ≤ gb243)); have n5_ := Aside0.mk ((by rw [hg]; exact (below_size (by repeat (first | (with_reducible first | exact HB.out | apply below_alloc | apply pw_below_drewN | apply below_drew1) | exact HB.out))) : w.heap.size ≤ gb243)); clear HO_6; clear HO240; clear HB; have HO_6 := n0_; have HO240 := n1_; have HB := n2_; have BK243 := n3_; have GW243 := n4_; have GE243 := n5_; clear n0_ n1_ n2_ n3_ n4_ n5_; clear hb hbox hg; have hcz20_0 : w19.cell? ⟨gb243, 0, none⟩ = some (.int .i64 0) := (blk_cell BK243.out 0).trans rfl; have hcz20_1 : w19.cell? ⟨gb243, 1, none⟩ = some (.int .i64 0) := (blk_cell BK243.out 1).trans rfl; have hcz20_2 : w19.cell? ⟨gb243, 2, none⟩ = some (.int .i64 0) := (blk_cell BK243.out 2).trans rfl; have hcz20_3 : w19.cell? ⟨gb243, 3, none⟩ = some (.int .i64 0) := (blk_cell BK243.out 3).trans rfl; have hcz20_4 : w19.cell? ⟨gb243, 4, none⟩ = some (.int .i64 0) := (blk_cell BK243.out 4).trans rfl; have hcz20_5 : w19.cell? ⟨gb243, 5, none⟩ = some (.slice none 0 0) := (blk_cell BK243.out 5).trans rfl; have hfz20_0 := blk_frozen BK243.out 0; have hfz20_1 := blk_frozen BK243.out 1; have hfz20_2 := blk_frozen BK243.out 2; have hfz20_3 := blk_frozen BK243.out 3; have hfz20_4 := blk_frozen BK243.out 4; have hfz20_5 := blk_frozen BK243.out 5; obtain ⟨Ao21, co21, eo21⟩ := Kd.R_slice HO240.out; subst eo21))
        go_ret2
        exact ⟨_, by first | rfl | (simp [errW_none, errW_some] <;> rfl) | (simp [*, errW_none, errW_some] <;> rfl), by (with_reducible repeat (first | apply Kd.S_alloc | apply Kd.S_drewN | apply Kd.S_drew)); exact Kd.S_mono (Kd.S_far (p := ⟨gb243, 5, none⟩) (Kd.S_far (p := ⟨gb243, 4, none⟩) (Kd.S_far (p := ⟨gb243, 3, none⟩) (Kd.S_far (p := ⟨gb243, 2, none⟩) (Kd.S_far (p := ⟨gb243, 1, none⟩) (Kd.S_far (p := ⟨gb243, 0, none⟩) (Kd.S_mono HO_6.out (fun k_ hk => (⟨hk, hk.2⟩ : _ ∧ k_ ≠ gb243))) (fun _ hk => hk.2) (.int .i64 t233)) (fun _ hk => hk.2) (.int .i64 t234)) (fun _ hk => hk.2) (.int .i64 t235)) (fun _ hk => hk.2) (.int .i64 t236)) (fun _ hk => hk.2) (.int .i64 t237)) (fun _ hk => hk.2) (.slice Ao21 t238.length co21)) (fun _ hk => trivial), by repeat (first | (with_reducible first | exact HB.out | apply below_alloc | apply pw_below_drewN | apply below_drew1 | refine below_set ?_ GE243.out) | exact HB.out)⟩

/-! ### laws_eqRecord: function 25 -/
def laws_eqRecord.f (k : Nat) (a0_0 : Int) (a0_1 : Int) (a0_2 : Int) (a0_3 : Int) (a0_4 : Int) (l0_5 : List Int) (a1_0 : Int) (a1_1 : Int) (a1_2 : Int) (a1_3 : Int) (a1_4 : Int) (l1_5 : List Int) : Option (Bool) := if a0_0 = a1_0 then (if a0_1 = a1_1 then (if a0_2 = a1_2 then (if a0_3 = a1_3 then (if a0_4 = a1_4 then ((laws_eqByteS.f k l0_5 l1_5).bind fun t249 => (if t249 = true then (some true) else (some false))) else (some false)) else (some false)) else (some false)) else (some false)) else (some false)
theorem laws_eqRecord.mono : ∀ a0 a1 a2 a3 a4 a5 a6 a7 a8 a9 a10 a11 k, LeO (laws_eqRecord.f k a0 a1 a2 a3 a4 a5 a6 a7 a8 a9 a10 a11) (laws_eqRecord.f (k + 1) a0 a1 a2 a3 a4 a5 a6 a7 a8 a9 a10 a11) := by
  intro a0 a1 a2 a3 a4 a5 a6 a7 a8 a9 a10 a11 k
  unfold laws_eqRecord.f
  repeat' first
      | (with_reducible exact laws_eqByteS.mono _ _ _)
      | (with_reducible exact LeO.refl _)
      | (with_reducible exact LeO.none _)
      | (with_reducible refine LeO.ite ?_ ?_)
      | (with_reducible refine LeO.bind ?_ (fun _ => ?_))
      | exact laws_eqByteS.mono _ _ _
      | exact LeO.none _
      | refine LeO.ite ?_ ?_
      | refine LeO.bind ?_ (fun _ => ?_)
set_option maxHeartbeats 8000000 in
set_option maxRecDepth 100000 in
theorem laws_eqRecord.calls (k : Nat) (a0_0 : Int) (a0_1 : Int) (a0_2 : Int) (a0_3 : Int) (a0_4 : Int) (A0_5 : Option Addr) (c0_5 : Nat) (l0_5 : List Int) (a1_0 : Int) (a1_1 : Int) (a1_2 : Int) (a1_3 : Int) (a1_4 : Int) (A1_5 : Option Addr) (c1_5 : Nat) (l1_5 : List Int) (r : Bool) (w : World) (hr0_5 : Kd.C (Kd.int .u8) w A0_5 l0_5.length l0_5) (hc0_5 : l0_5.length ≤ c0_5) (hr1_5 : Kd.C (Kd.int .u8) w A1_5 l1_5.length l1_5) (hc1_5 : l1_5.length ≤ c1_5) (h : laws_eqRecord.f k a0_0 a0_1 a0_2 a0_3 a0_4 l0_5 a1_0 a1_1 a1_2 a1_3 a1_4 l1_5 = some r) :
    Calls Try.prog 25 #[.agg #[.int .i64 a0_0, .int .i64 a0_1, .int .i64 a0_2, .int .i64 a0_3, .int .i64 a0_4, .slice A0_5 l0_5.length c0_5], .agg #[.int .i64 a1_0, .int .i64 a1_1, .int .i64 a1_2, .int .i64 a1_3, .int .i64 a1_4, .slice A1_5 l1_5.length c1_5]] w fun e w' => e = .returned (.bool r) ∧ Below w.heap.size w w' := by
  have hu37 := Try.underlying37
  have HR0_5 := Aside0.mk hr0_5
  have HC0_5 := Aside0.mk hc0_5
  clear hr0_5 hc0_5
  have HR1_5 := Aside0.mk hr1_5
  have HC1_5 := Aside0.mk hc1_5
  clear hr1_5 hc1_5
  have HB := Aside0.mk (Below.refl w.heap.size w)
  have H : (if a0_0 = a1_0 then (if a0_1 = a1_1 then (if a0_2 = a1_2 then (if a0_3 = a1_3 then (if a0_4 = a1_4 then ((laws_eqByteS.f k l0_5 l1_5).bind fun t249 => (if t249 = true then (some true) else (some false))) else (some false)) else (some false)) else (some false)) else (some false)) else (some false)) = some r := h
  clear h
  by_cases c3 : a0_0 = a1_0
  · rw [if_pos c3] at H
    have c3b0 : (a0_0 == a1_0) = true := beq_iff_eq.mpr c3
    have c3b1 : (a0_0 != a1_0) = false := bne_eq_false_iff_eq.mpr c3
    clear c3
    by_cases c4 : a0_1 = a1_1
    · rw [if_pos c4] at H
      have c4b0 : (a0_1 == a1_1) = true := beq_iff_eq.mpr c4
      have c4b1 : (a0_1 != a1_1) = false := bne_eq_false_iff_eq.mpr c4
      clear c4
      by_cases c5 : a0_2 = a1_2
      · rw [if_pos c5] at H
        have c5b0 : (a0_2 == a1_2) = true := beq_iff_eq.mpr c5
        have c5b1 : (a0_2 != a1_2) = false := bne_eq_false_iff_eq.mpr c5
        clear c5
        by_cases c6 : a0_3 = a1_3
        · rw [if_pos c6] at H
          have c6b0 : (a0_3 == a1_3) = true := beq_iff_eq.mpr c6
          have c6b1 : (a0_3 != a1_3) = false := bne_eq_false_iff_eq.mpr c6
          clear c6
          by_cases c7 : a0_4 = a1_4
          · rw [if_pos c7] at H
            have c7b0 : (a0_4 == a1_4) = true := beq_iff_eq.mpr c7
            have c7b1 : (a0_4 != a1_4) = false := bne_eq_false_iff_eq.mpr c7
            clear c7
            replace H := Option.bind_eq_some_iff.mp H
            obtain ⟨t249, A80, H⟩ := H
            replace H : (if t249 = true then (some true) else (some false)) = some r := H
            have A8 := Aside0.mk A80
            clear A80
            by_cases c9 : t249 = true
            · subst c9
              have H1 : (some true) = some r := by rw [if_pos rfl] at H; exact H
              clear H
              have H := H1
              clear H1
              obtain rfl := Option.some.inj H
              go_enter Try.func25, Try.ntmps25
              go_wp2_with (first | ((with_reducible refine gate_dst (N := 2) rfl ?_); refine box_event ?hg (N := 2) ?hd (cs := #[.int .i64 a0_0, .int .i64 a0_1, .int .i64 a0_2, .int .i64 a0_3, .int .i64 a0_4, .slice A0_5 l0_5.length c0_5]) (t := 37) ?hr ?_; (case hd => rfl); (case hg => rfl); (case hr => first | (go_simp; done) | (go_simp; rfl)); intro gb247 hg w10 hbox hb; have n0_ := Aside0.mk (below_step (by repeat (first | (with_reducible first | exact HB.out | apply below_alloc | apply pw_below_drewN | apply below_drew1) | exact HB.out)) hb); have n1_ := Aside0.mk (hbox); have n2_ := Aside0.mk ((by rw [hg]; exact (below_size (by repeat (first | (with_reducible first | exact HB.out | apply below_alloc | apply pw_below_drewN | apply below_drew1) | exact HB.out))) : w.heap.size ≤ gb247)); have n3_ := Aside0.mk ((by rw [hg]; exact (below_size (by repeat (first | (with_reducible first | exact HB.out | apply below_alloc | apply pw_below_drewN | apply below_drew1) | exact HB.out))) : w.heap.size ≤ gb247)); clear HB; have HB := n0_; have BK247 := n1_; have GW247 := n2_; have GE247 := n3_; clear n0_ n1_ n2_ n3_; clear hb hbox hg) | ((with_reducible refine gate_dst (N := 3) rfl ?_); refine box_event ?hg (N := 3) ?hd (cs := #[.int .i64 a1_0, .int .i64 a1_1, .int .i64 a1_2, .int .i64 a1_3, .int .i64 a1_4, .slice A1_5 l1_5.length c1_5]) (t := 37) ?hr ?_; (case hd => rfl); (case hg => rfl); (case hr => first | (go_simp; done) | (go_simp; rfl)); intro gb248 hg w11 hbox hb; have n0_ := Aside0.mk (blk_below (g := gb247) (o := .cells #[.int .i64 a0_0, .int .i64 a0_1, .int .i64 a0_2, .int .i64 a0_3, .int .i64 a0_4, .slice A0_5 l0_5.length c0_5] 37 (0, 0)) (by (with_reducible repeat (first | refine blk_drewN ?_ _ | refine blk_drew ?_ | refine blk_alloc ?_ _)); exact BK247.out) hb); have n1_ := Aside0.mk (below_step (by repeat (first | (with_reducible first | exact HB.out | apply below_alloc | apply pw_below_drewN | apply below_drew1 | refine below_set ?_ GE247.out) | exact HB.out)) hb); have n2_ := Aside0.mk (hbox); have n3_ := Aside0.mk ((by rw [hg]; exact (below_size (by repeat (first | (with_reducible first | exact HB.out | apply below_alloc | apply pw_below_drewN | apply below_drew1 | refine below_set ?_ GE247.out) | exact HB.out))) : w.heap.size ≤ gb248)); have n4_ := Aside0.mk ((by rw [hg]; exact (below_size (by repeat (first | (with_reducible first | exact HB.out | apply below_alloc | apply pw_below_drewN | apply below_drew1 | refine below_set ?_ GE247.out) | exact HB.out))) : w.heap.size ≤ gb248)); have n5_ := Aside0.mk ((by rw [hg]; exact Nat.ne_of_lt (blk_lt (g := gb247) (o := .cells #[.int .i64 a0_0, .int .i64 a0_1, .int .i64 a0_2, .int .i64 a0_3, .int .i64 a0_4, .slice A0_5 l0_5.length c0_5] 37 (0, 0)) (by (with_reducible repeat (first | refine blk_drewN ?_ _ | refine blk_drew ?_ | refine blk_alloc ?_ _)); exact BK247.out)) : gb247 ≠ gb248)); have n6_ := Aside0.mk ((by rw [hg]; exact Nat.ne_of_gt (blk_lt (g := gb247) (o := .cells #[.int .i64 a0_0, .int .i64 a0_1, .int .i64 a0_2, .int .i64 a0_3, .int .i64 a0_4, .slice A0_5 l0_5.length c0_5] 37 (0, 0)) (by (with_reducible repeat (first | refine blk_drewN ?_ _ | refine blk_drew ?_ | refine blk_alloc ?_ _)); exact BK247.out)) : gb248 ≠ gb247)); clear BK247; clear HB; have BK247 := n0_; have HB := n1_; have BK248 := n2_; have GW248 := n3_; have GE248 := n4_; have NB247_248 := n5_; have NB248_247 := n6_; clear n0_ n1_ n2_ n3_ n4_ n5_ n6_; clear hb hbox hg; have hnb12 := NB247_248.out; have hnc12 := NB248_247.out; have hcz13_0 : w11.cell? ⟨gb247, 0, none⟩ = some (.int .i64 a0_0) := (blk_cell BK247.out 0).trans rfl; have hcz13_1 : w11.cell? ⟨gb247, 1, none⟩ = some (.int .i64 a0_1) := (blk_cell BK247.out 1).trans rfl; have hcz13_2 : w11.cell? ⟨gb247, 2, none⟩ = some (.int .i64 a0_2) := (blk_cell BK247.out 2).trans rfl; have hcz13_3 : w11.cell? ⟨gb247, 3, none⟩ = some (.int .i64 a0_3) := (blk_cell BK247.out 3).trans rfl; have hcz13_4 : w11.cell? ⟨gb247, 4, none⟩ = some (.int .i64 a0_4) := (blk_cell BK247.out 4).trans rfl; have hcz13_5 : w11.cell? ⟨gb247, 5, none⟩ = some (.slice A0_5 l0_5.length c0_5) := (blk_cell BK247.out 5).trans rfl; have hfz13_0 := blk_frozen BK247.out 0; have hfz13_1 := blk_frozen BK247.out 1; have hfz13_2 := blk_frozen BK247.out 2; have hfz13_3 := blk_frozen BK247.out 3; have hfz13_4 := blk_frozen BK247.out 4; have hfz13_5 := blk_frozen BK247.out 5; have hcz14_0 : w11.cell? ⟨gb248, 0, none⟩ = some (.int .i64 a1_0) := (blk_cell BK248.out 0).trans rfl; have hcz14_1 : w11.cell? ⟨gb248, 1, none⟩ = some (.int .i64 a1_1) := (blk_cell BK248.out 1).trans rfl; have hcz14_2 : w11.cell? ⟨gb248, 2, none⟩ = some (.int .i64 a1_2) := (blk_cell BK248.out 2).trans rfl; have hcz14_3 : w11.cell? ⟨gb248, 3, none⟩ = some (.int .i64 a1_3) := (blk_cell BK248.out 3).trans rfl; have hcz14_4 : w11.cell? ⟨gb248, 4, none⟩ = some (.int .i64 a1_4) := (blk_cell BK248.out 4).trans rfl; have hcz14_5 : w11.cell? ⟨gb248, 5, none⟩ = some (.slice A1_5 l1_5.length c1_5) := (blk_cell BK248.out 5).trans rfl; have hfz14_0 := blk_frozen BK248.out 0; have hfz14_1 := blk_frozen BK248.out 1; have hfz14_2 := blk_frozen BK248.out 2; have hfz14_3 := blk_frozen BK248.out 3; have hfz14_4 := blk_frozen BK248.out 4; have hfz14_5 := blk_frozen BK248.out 5) | ((with_reducible refine gate_callee (f := 14) rfl ?_); refine goesL_ (some 34) rfl rfl Try.func14 (by kernel_rfl) rfl #[.slice A0_5 l0_5.length c0_5, .slice A1_5 l1_5.length c1_5] rfl (by (try simp only [List.map_toArray, List.map_cons, List.map_nil]); first | done | rfl | (simp only [List.length_drop, List.length_take]; rfl)) ?_; (with_reducible refine (laws_eqByteS.calls k _ _ l0_5 _ _ l1_5 true _ ?side1 ?side2 ?side3 ?side4 A8.out).mono ?_); (case side1 => repeat (first | exact (Kd.C_below HR0_5.out HB.out) | (with_reducible refine Kd.C_alloc ?_ _) | (with_reducible refine Kd.C_drewN ?_ _) | (with_reducible refine Kd.C_drew ?_))); (case side2 => exact HC0_5.out); (case side3 => repeat (first | exact (Kd.C_below HR1_5.out HB.out) | (with_reducible refine Kd.C_alloc ?_ _) | (with_reducible refine Kd.C_drewN ?_ _) | (with_reducible refine Kd.C_drew ?_))); (case side4 => exact HC1_5.out); rintro e w' ⟨rfl, ⟨nd, rfl⟩⟩; refine ⟨_, rfl, ?_⟩))
              go_ret
              exact ⟨by first | rfl | (simp [errW_none, errW_some] <;> rfl) | (simp [*, errW_none, errW_some] <;> rfl), by repeat (first | (with_reducible first | exact HB.out | apply below_alloc | apply pw_below_drewN | apply below_drew1 | refine below_set ?_ GE247.out | refine below_set ?_ GE248.out) | exact HB.out)⟩
            · replace c9 := Bool.eq_false_iff.mpr c9
              subst c9
              have H1 : (some false) = some r := by rw [if_neg (show ¬ (false = true) by decide)] at H; exact H
              clear H
              have H := H1
              clear H1
              obtain rfl := Option.some.inj H
              go_enter Try.func25, Try.ntmps25
              go_wp2_with (first | ((with_reducible refine gate_dst (N := 2) rfl ?_); refine box_event ?hg (N := 2) ?hd (cs := #[.int .i64 a0_0, .int .i64 a0_1, .int .i64 a0_2, .int .i64 a0_3, .int .i64 a0_4, .slice A0_5 l0_5.length c0_5]) (t := 37) ?hr ?_; (case hd => rfl); (case hg => rfl); (case hr => first | (go_simp; done) | (go_simp; rfl)); intro gb247 hg w15 hbox hb; have n0_ := Aside0.mk (below_step (by repeat (first | (with_reducible first | exact HB.out | apply below_alloc | apply pw_below_drewN | apply below_drew1) | exact HB.out)) hb); have n1_ := Aside0.mk (hbox); have n2_ := Aside0.mk ((by rw [hg]; exact (below_size (by repeat (first | (with_reducible first | exact HB.out | apply below_alloc | apply pw_below_drewN | apply below_drew1) | exact HB.out))) : w.heap.size ≤ gb247)); have n3_ := Aside0.mk ((by rw [hg]; exact (below_size (by repeat (first | (with_reducible first | exact HB.out | apply below_alloc | apply pw_below_drewN | apply below_drew1) | exact HB.out))) : w.heap.size ≤ gb247)); clear HB; have HB := n0_; have BK247 := n1_; have GW247 := n2_; have GE247 := n3_; clear n0_ n1_ n2_ n3_; clear hb hbox hg) | ((with_reducible refine gate_dst (N := 3) rfl ?_); refine box_event ?hg (N := 3) ?hd (cs := #[.int .i64 a1_0, .int .i64 a1_1, .int .i64 a1_2, .int .i64 a1_3, .int .i64 a1_4, .slice A1_5 l1_5.length c1_5]) (t := 37) ?hr ?_; (case hd => rfl); (case hg => rfl); (case hr => first | (go_simp; done) | (go_simp; rfl)); intro gb248 hg w16 hbox hb; have n0_ := Aside0.mk (blk_below (g := gb247) (o := .cells #[.int .i64 a0_0, .int .i64 a0_1, .int .i64 a0_2, .int .i64 a0_3, .int .i64 a0_4, .slice A0_5 l0_5.length c0_5] 37 (0, 0)) (by (with_reducible repeat (first | refine blk_drewN ?_ _ | refine blk_drew ?_ | refine blk_alloc ?_ _)); exact BK247.out) hb); have n1_ := Aside0.mk (below_step (by repeat (first | (with_reducible first | exact HB.out | apply below_alloc | apply pw_below_drewN | apply below_drew1 | refine below_set ?_ GE247.out) | exact HB.out)) hb); have n2_ := Aside0.mk (hbox); have n3_ := Aside0.mk ((by rw [hg]; exact (below_size (by repeat (first | (with_reducible first | exact HB.out | apply below_alloc | apply pw_below_drewN | apply below_drew1 | refine below_set ?_ GE247.out) | exact HB.out))) : w.heap.size ≤ gb248)); have n4_ := Aside0.mk ((by rw [hg]; exact (below_size (by repeat (first | (with_reducible first | exact HB.out | apply below_alloc | apply pw_below_drewN | apply below_drew1 | refine below_set ?_ GE247.out) | exact HB.out))) : w.heap.size ≤ gb248)); have n5_ := Aside0.mk ((by rw [hg]; exact Nat.ne_of_lt (blk_lt (g := gb247) (o := .cells #[.int .i64 a0_0, .int .i64 a0_1, .int .i64 a0_2, .int .i64 a0_3, .int .i64 a0_4, .slice A0_5 l0_5.length c0_5] 37 (0, 0)) (by (with_reducible repeat (first | refine blk_drewN ?_ _ | refine blk_drew ?_ | refine blk_alloc ?_ _)); exact BK247.out)) : gb247 ≠ gb248)); have n6_ := Aside0.mk ((by rw [hg]; exact Nat.ne_of_gt (blk_lt (g := gb247) (o := .cells #[.int .i64 a0_0, .int .i64 a0_1, .int .i64 a0_2, .int .i64 a0_3, .int .i64 a0_4, .slice A0_5 l0_5.length c0_5] 37 (0, 0)) (by (with_reducible repeat (first | refine blk_drewN ?_ _ | refine blk_drew ?_ | refine blk_alloc ?_ _)); exact BK247.out)) : gb248 ≠ gb247)); clear BK247; clear HB; have BK247 := n0_; have HB := n1_; have BK248 := n2_; have GW248 := n3_; have GE248 := n4_; have NB247_248 := n5_; have NB248_247 := n6_; clear n0_ n1_ n2_ n3_ n4_ n5_ n6_; clear hb hbox hg; have hnb17 := NB247_248.out; have hnc17 := NB248_247.out; have hcz18_0 : w16.cell? ⟨gb247, 0, none⟩ = some (.int .i64 a0_0) := (blk_cell BK247.out 0).trans rfl; have hcz18_1 : w16.cell? ⟨gb247, 1, none⟩ = some (.int .i64 a0_1) := (blk_cell BK247.out 1).trans rfl; have hcz18_2 : w16.cell? ⟨gb247, 2, none⟩ = some (.int .i64 a0_2) := (blk_cell BK247.out 2).trans rfl; have hcz18_3 : w16.cell? ⟨gb247, 3, none⟩ = some (.int .i64 a0_3) := (blk_cell BK247.out 3).trans rfl; have hcz18_4 : w16.cell? ⟨gb247, 4, none⟩ = some (.int .i64 a0_4) := (blk_cell BK247.out 4).trans rfl; have hcz18_5 : w16.cell? ⟨gb247, 5, none⟩ = some (.slice A0_5 l0_5.length c0_5) := (blk_cell BK247.out 5).trans rfl; have hfz18_0 := blk_frozen BK247.out 0; have hfz18_1 := blk_frozen BK247.out 1; have hfz18_2 := blk_frozen BK247.out 2; have hfz18_3 := blk_frozen BK247.out 3; have hfz18_4 := blk_frozen BK247.out 4; have hfz18_5 := blk_frozen BK247.out 5; have hcz19_0 : w16.cell? ⟨gb248, 0, none⟩ = some (.int .i64 a1_0) := (blk_cell BK248.out 0).trans rfl; have hcz19_1 : w16.cell? ⟨gb248, 1, none⟩ = some (.int .i64 a1_1) := (blk_cell BK248.out 1).trans rfl; have hcz19_2 : w16.cell? ⟨gb248, 2, none⟩ = some (.int .i64 a1_2) := (blk_cell BK248.out 2).trans rfl; have hcz19_3 : w16.cell? ⟨gb248, 3, none⟩ = some (.int .i64 a1_3) := (blk_cell BK248.out 3).trans rfl; have hcz19_4 : w16.cell? ⟨gb248, 4, none⟩ = some (.int .i64 a1_4) := (blk_cell BK248.out 4).trans rfl; have hcz19_5 : w16.cell? ⟨gb248, 5, none⟩ = some (.slice A1_5 l1_5.length c1_5) := (blk_cell BK248.out 5).trans rfl; have hfz19_0 := blk_frozen BK248.out 0; have hfz19_1 := blk_frozen BK248.out 1; have hfz19_2 := blk_frozen BK248.out 2; have hfz19_3 := blk_frozen BK248.out 3; have hfz19_4 := blk_frozen BK248.out 4; have hfz19_5 := blk_frozen BK248.out 5) | ((with_reducible refine gate_callee (f := 14) rfl ?_); refine goesL_ (some 34) rfl rfl Try.func14 (by kernel_rfl) rfl #[.slice A0_5 l0_5.length c0_5, .slice A1_5 l1_5.length c1_5] rfl (by (try simp only [List.map_toArray, List.map_cons, List.map_nil]); first | done | rfl | (simp only [List.length_drop, List.length_take]; rfl)) ?_; (with_reducible refine (laws_eqByteS.calls k _ _ l0_5 _ _ l1_5 false _ ?side1 ?side2 ?side3 ?side4 A8.out).mono ?_); (case side1 => repeat (first | exact (Kd.C_below HR0_5.out HB.out) | (with_reducible refine Kd.C_alloc ?_ _) | (with_reducible refine Kd.C_drewN ?_ _) | (with_reducible refine Kd.C_drew ?_))); (case side2 => exact HC0_5.out); (case side3 => repeat (first | exact (Kd.C_below HR1_5.out HB.out) | (with_reducible refine Kd.C_alloc ?_ _) | (with_reducible refine Kd.C_drewN ?_ _) | (with_reducible refine Kd.C_drew ?_))); (case side4 => exact HC1_5.out); rintro e w' ⟨rfl, ⟨nd, rfl⟩⟩; refine ⟨_, rfl, ?_⟩))
              go_ret
              exact ⟨by first | rfl | (simp [errW_none, errW_some] <;> rfl) | (simp [*, errW_none, errW_some] <;> rfl), by repeat (first | (with_reducible first | exact HB.out | apply below_alloc | apply pw_below_drewN | apply below_drew1 | refine below_set ?_ GE247.out | refine below_set ?_ GE248.out) | exact HB.out)⟩
          · rw [if_neg c7] at H
            have c7b0 : (a0_4 == a1_4) = false := beq_eq_false_iff_ne.mpr c7
            have c7b1 : (a0_4 != a1_4) = true := bne_iff_ne.mpr c7
            obtain rfl := Option.some.inj H
            go_enter Try.func25, Try.ntmps25
            go_wp2_with (first | ((with_reducible refine gate_dst (N := 2) rfl ?_); refine box_event ?hg (N := 2) ?hd (cs := #[.int .i64 a0_0, .int .i64 a0_1, .int .i64 a0_2, .int .i64 a0_3, .int .i64 a0_4, .slice A0_5 l0_5.length c0_5]) (t := 37) ?hr ?_; (case hd => rfl); (case hg => rfl); (case hr => first | (go_simp; done) | (go_simp; rfl)); intro gb247 hg w20 hbox hb; have n0_ := Aside0.mk (below_step (by repeat (first | (with_reducible first | exact HB.out | apply below_alloc | apply pw_below_drewN | apply below_drew1) | exact HB.out)) hb); have n1_ := Aside0.mk (hbox); have n2_ := Aside0.mk ((by rw [hg]; exact (below_size (by repeat (first | (with_reducible first | exact HB.out | apply below_alloc | apply pw_below_drewN | apply below_drew1) | exact HB.out))) : w.heap.size ≤ gb247)); have n3_ := Aside0.mk ((by rw [hg]; exact (below_size (by repeat (first | (with_reducible first | exact HB.out | apply below_alloc | apply pw_below_drewN | apply below_drew1) | exact HB.out))) : w.heap.size ≤ gb247)); clear HB; have HB := n0_; have BK247 := n1_; have GW247 := n2_; have GE247 := n3_; clear n0_ n1_ n2_ n3_; clear hb hbox hg) | ((with_reducible refine gate_dst (N := 3) rfl ?_); refine box_event ?hg (N := 3) ?hd (cs := #[.int .i64 a1_0, .int .i64 a1_1, .int .i64 a1_2, .int .i64 a1_3, .int .i64 a1_4, .slice A1_5 l1_5.length c1_5]) (t := 37) ?hr ?_; (case hd => rfl); (case hg => rfl); (case hr => first | (go_simp; done) | (go_simp; rfl)); intro gb248 hg w21 hbox hb; have n0_ := Aside0.mk (blk_below (g := gb247) (o := .cells #[.int .i64 a0_0, .int .i64 a0_1, .int .i64 a0_2, .int .i64 a0_3, .int .i64 a0_4, .slice A0_5 l0_5.length c0_5] 37 (0, 0)) (by (with_reducible repeat (first | refine blk_drewN ?_ _ | refine blk_drew ?_ | refine blk_alloc ?_ _)); exact BK247.out) hb); have n1_ := Aside0.mk (below_step (by repeat (first | (with_reducible first | exact HB.out | apply below_alloc | apply pw_below_drewN | apply below_drew1 | refine below_set ?_ GE247.out) | exact HB.out)) hb); have n2_ := Aside0.mk (hbox); have n3_ := Aside0.mk ((by rw [hg]; exact (below_size (by repeat (first | (with_reducible first | exact HB.out | apply below_alloc | apply pw_below_drewN | apply below_drew1 | refine below_set ?_ GE247.out) | exact HB.out))) : w.heap.size ≤ gb248)); have n4_ := Aside0.mk ((by rw [hg]; exact (below_size (by repeat (first | (with_reducible first | exact HB.out | apply below_alloc | apply pw_below_drewN | apply below_drew1 | refine below_set ?_ GE247.out) | exact HB.out))) : w.heap.size ≤ gb248)); have n5_ := Aside0.mk ((by rw [hg]; exact Nat.ne_of_lt (blk_lt (g := gb247) (o := .cells #[.int .i64 a0_0, .int .i64 a0_1, .int .i64 a0_2, .int .i64 a0_3, .int .i64 a0_4, .slice A0_5 l0_5.length c0_5] 37 (0, 0)) (by (with_reducible repeat (first | refine blk_drewN ?_ _ | refine blk_drew ?_ | refine blk_alloc ?_ _)); exact BK247.out)) : gb247 ≠ gb248)); have n6_ := Aside0.mk ((by rw [hg]; exact Nat.ne_of_gt (blk_lt (g := gb247) (o := .cells #[.int .i64 a0_0, .int .i64 a0_1, .int .i64 a0_2, .int .i64 a0_3, .int .i64 a0_4, .slice A0_5 l0_5.length c0_5] 37 (0, 0)) (by (with_reducible repeat (first | refine blk_drewN ?_ _ | refine blk_drew ?_ | refine blk_alloc ?_ _)); exact BK247.out)) : gb248 ≠ gb247)); clear BK247; clear HB; have BK247 := n0_; have HB := n1_; have BK248 := n2_; have GW248 := n3_; have GE248 := n4_; have NB247_248 := n5_; have NB248_247 := n6_; clear n0_ n1_ n2_ n3_ n4_ n5_ n6_; clear hb hbox hg; have hnb22 := NB247_248.out; have hnc22 := NB248_247.out; have hcz23_0 : w21.cell? ⟨gb247, 0, none⟩ = some (.int .i64 a0_0) := (blk_cell BK247.out 0).trans rfl; have hcz23_1 : w21.cell? ⟨gb247, 1, none⟩ = some (.int .i64 a0_1) := (blk_cell BK247.out 1).trans rfl; have hcz23_2 : w21.cell? ⟨gb247, 2, none⟩ = some (.int .i64 a0_2) := (blk_cell BK247.out 2).trans rfl; have hcz23_3 : w21.cell? ⟨gb247, 3, none⟩ = some (.int .i64 a0_3) := (blk_cell BK247.out 3).trans rfl; have hcz23_4 : w21.cell? ⟨gb247, 4, none⟩ = some (.int .i64 a0_4) := (blk_cell BK247.out 4).trans rfl; have hcz23_5 : w21.cell? ⟨gb247, 5, none⟩ = some (.slice A0_5 l0_5.length c0_5) := (blk_cell BK247.out 5).trans rfl; have hfz23_0 := blk_frozen BK247.out 0; have hfz23_1 := blk_frozen BK247.out 1; have hfz23_2 := blk_frozen BK247.out 2; have hfz23_3 := blk_frozen BK247.out 3; have hfz23_4 := blk_frozen BK247.out 4; have hfz23_5 := blk_frozen BK247.out 5; have hcz24_0 : w21.cell? ⟨gb248, 0, none⟩ = some (.int .i64 a1_0) := (blk_cell BK248.out 0).trans rfl; have hcz24_1 : w21.cell? ⟨gb248, 1, none⟩ = some (.int .i64 a1_1) := (blk_cell BK248.out 1).trans rfl; have hcz24_2 : w21.cell? ⟨gb248, 2, none⟩ = some (.int .i64 a1_2) := (blk_cell BK248.out 2).trans rfl; have hcz24_3 : w21.cell? ⟨gb248, 3, none⟩ = some (.int .i64 a1_3) := (blk_cell BK248.out 3).trans rfl; have hcz24_4 : w21.cell? ⟨gb248, 4, none⟩ = some (.int .i64 a1_4) := (blk_cell BK248.out 4).trans rfl; have hcz24_5 : w21.cell? ⟨gb248, 5, none⟩ = some (.slice A1_5 l1_5.length c1_5) := (blk_cell BK248.out 5).trans rfl; have hfz24_0 := blk_frozen BK248.out 0; have hfz24_1 := blk_frozen BK248.out 1; have hfz24_2 := blk_frozen BK248.out 2; have hfz24_3 := blk_frozen BK248.out 3; have hfz24_4 := blk_frozen BK248.out 4; have hfz24_5 := blk_frozen BK248.out 5))
            go_ret
            exact ⟨by first | rfl | (simp [errW_none, errW_some] <;> rfl) | (simp [*, errW_none, errW_some] <;> rfl), by repeat (first | (with_reducible first | exact HB.out | apply below_alloc | apply pw_below_drewN | apply below_drew1 | refine below_set ?_ GE247.out | refine below_set ?_ GE248.out) | exact HB.out)⟩
        · rw [if_neg c6] at H
          have c6b0 : (a0_3 == a1_3) = false := beq_eq_false_iff_ne.mpr c6
          have c6b1 : (a0_3 != a1_3) = true := bne_iff_ne.mpr c6
          obtain rfl := Option.some.inj H
          go_enter Try.func25, Try.ntmps25
          go_wp2_with (first | ((with_reducible refine gate_dst (N := 2) rfl ?_); refine box_event ?hg (N := 2) ?hd (cs := #[.int .i64 a0_0, .int .i64 a0_1, .int .i64 a0_2, .int .i64 a0_3, .int .i64 a0_4, .slice A0_5 l0_5.length c0_5]) (t := 37) ?hr ?_; (case hd => rfl); (case hg => rfl); (case hr => first | (go_simp; done) | (go_simp; rfl)); intro gb247 hg w25 hbox hb; have n0_ := Aside0.mk (below_step (by repeat (first | (with_reducible first | exact HB.out | apply below_alloc | apply pw_below_drewN | apply below_drew1) | exact HB.out)) hb); have n1_ := Aside0.mk (hbox); have n2_ := Aside0.mk ((by rw [hg]; exact (below_size (by repeat (first | (with_reducible first | exact HB.out | apply below_alloc | apply pw_below_drewN | apply below_drew1) | exact HB.out))) : w.heap.size ≤ gb247)); have n3_ := Aside0.mk ((by rw [hg]; exact (below_size (by repeat (first | (with_reducible first | exact HB.out | apply below_alloc | apply pw_below_drewN | apply below_drew1) | exact HB.out))) : w.heap.size ≤ gb247)); clear HB; have HB := n0_; have BK247 := n1_; have GW247 := n2_; have GE247 := n3_; clear n0_ n1_ n2_ n3_; clear hb hbox hg) | ((with_reducible refine gate_dst (N := 3) rfl ?_); refine box_event ?hg (N := 3) ?hd (cs := #[.int .i64 a1_0, .int .i64 a1_1, .int .i64 a1_2, .int .i64 a1_3, .int .i64 a1_4, .slice A1_5 l1_5.length c1_5]) (t := 37) ?hr ?_; (case hd => rfl); (case hg => rfl); (case hr => first | (go_simp; done) | (go_simp; rfl)); intro gb248 hg w26 hbox hb; have n0_ := Aside0.mk (blk_below (g := gb247) (o := .cells #[.int .i64 a0_0, .int .i64 a0_1, .int .i64 a0_2, .int .i64 a0_3, .int .i64 a0_4, .slice A0_5 l0_5.length c0_5] 37 (0, 0)) (by (with_reducible repeat (first | refine blk_drewN ?_ _ | refine blk_drew ?_ | refine blk_alloc ?_ _)); exact BK247.out) hb); have n1_ := Aside0.mk (below_step (by repeat (first | (with_reducible first | exact HB.out | apply below_alloc | apply pw_below_drewN | apply below_drew1 | refine below_set ?_ GE247.out) | exact HB.out)) hb); have n2_ := Aside0.mk (hbox); have n3_ := Aside0.mk ((by rw [hg]; exact (below_size (by repeat (first | (with_reducible first | exact HB.out | apply below_alloc | apply pw_below_drewN | apply below_drew1 | refine below_set ?_ GE247.out) | exact HB.out))) : w.heap.size ≤ gb248)); have n4_ := Aside0.mk ((by rw [hg]; exact (below_size (by repeat (first | (with_reducible first | exact HB.out | apply below_alloc | apply pw_below_drewN | apply below_drew1 | refine below_set ?_ GE247.out) | exact HB.out))) : w.heap.size ≤ gb248)); have n5_ := Aside0.mk ((by rw [hg]; exact Nat.ne_of_lt (blk_lt (g := gb247) (o := .cells #[.int .i64 a0_0, .int .i64 a0_1, .int .i64 a0_2, .int .i64 a0_3, .int .i64 a0_4, .slice A0_5 l0_5.length c0_5] 37 (0, 0)) (by (with_reducible repeat (first | refine blk_drewN ?_ _ | refine blk_drew ?_ | refine blk_alloc ?_ _)); exact BK247.out)) : gb247 ≠ gb248)); have n6_ := Aside0.mk ((by rw [hg]; exact Nat.ne_of_gt (blk_lt (g := gb247) (o := .cells #[.int .i64 a0_0, .int .i64 a0_1, .int .i64 a0_2, .int .i64 a0_3, .int .i64 a0_4, .slice A0_5 l0_5.length c0_5] 37 (0, 0)) (by (with_reducible repeat (first | refine blk_drewN ?_ _ | refine blk_drew ?_ | refine blk_alloc ?_ _)); exact BK247.out)) : gb248 ≠ gb247)); clear BK247; clear HB; have BK247 := n0_; have HB := n1_; have BK248 := n2_; have GW248 := n3_; have GE248 := n4_; have NB247_248 := n5_; have NB248_247 := n6_; clear n0_ n1_ n2_ n3_ n4_ n5_ n6_; clear hb hbox hg; have hnb27 := NB247_248.out; have hnc27 := NB248_247.out; have hcz28_0 : w26.cell? ⟨gb247, 0, none⟩ = some (.int .i64 a0_0) := (blk_cell BK247.out 0).trans rfl; have hcz28_1 : w26.cell? ⟨gb247, 1, none⟩ = some (.int .i64 a0_1) := (blk_cell BK247.out 1).trans rfl; have hcz28_2 : w26.cell? ⟨gb247, 2, none⟩ = some (.int .i64 a0_2) := (blk_cell BK247.out 2).trans rfl; have hcz28_3 : w26.cell? ⟨gb247, 3, none⟩ = some (.int .i64 a0_3) := (blk_cell BK247.out 3).trans rfl; have hcz28_4 : w26.cell? ⟨gb247, 4, none⟩ = some (.int .i64 a0_4) := (blk_cell BK247.out 4).trans rfl; have hcz28_5 : w26.cell? ⟨gb247, 5, none⟩ = some (.slice A0_5 l0_5.length c0_5) := (blk_cell BK247.out 5).trans rfl; have hfz28_0 := blk_frozen BK247.out 0; have hfz28_1 := blk_frozen BK247.out 1; have hfz28_2 := blk_frozen BK247.out 2; have hfz28_3 := blk_frozen BK247.out 3; have hfz28_4 := blk_frozen BK247.out 4; have hfz28_5 := blk_frozen BK247.out 5; have hcz29_0 : w26.cell? ⟨gb248, 0, none⟩ = some (.int .i64 a1_0) := (blk_cell BK248.out 0).trans rfl; have hcz29_1 : w26.cell? ⟨gb248, 1, none⟩ = some (.int .i64 a1_1) := (blk_cell BK248.out 1).trans rfl; have hcz29_2 : w26.cell? ⟨gb248, 2, none⟩ = some (.int .i64 a1_2) := (blk_cell BK248.out 2).trans rfl; have hcz29_3 : w26.cell? ⟨gb248, 3, none⟩ = some (.int .i64 a1_3) := (blk_cell BK248.out 3).trans rfl; have hcz29_4 : w26.cell? ⟨gb248, 4, none⟩ = some (.int .i64 a1_4) := (blk_cell BK248.out 4).trans rfl; have hcz29_5 : w26.cell? ⟨gb248, 5, none⟩ = some (.slice A1_5 l1_5.length c1_5) := (blk_cell BK248.out 5).trans rfl; have hfz29_0 := blk_frozen BK248.out 0; have hfz29_1 := blk_frozen BK248.out 1; have hfz29_2 := blk_frozen BK248.out 2; have hfz29_3 := blk_frozen BK248.out 3; have hfz29_4 := blk_frozen BK248.out 4; have hfz29_5 := blk_frozen BK248.out 5))
          go_ret
          exact ⟨by first | rfl | (simp [errW_none, errW_some] <;> rfl) | (simp [*, errW_none, errW_some] <;> rfl), by repeat (first | (with_reducible first | exact HB.out | apply below_alloc | apply pw_below_drewN | apply below_drew1 | refine below_set ?_ GE247.out | refine below_set ?_ GE248.out) | exact HB.out)⟩
      · rw [if_neg c5] at H
        have c5b0 : (a0_2 == a1_2) = false := beq_eq_false_iff_ne.mpr c5
        have c5b1 : (a0_2 != a1_2) = true := bne_iff_ne.mpr c5
        obtain rfl := Option.some.inj H
        go_enter Try.func25, Try.ntmps25
        go_wp2_with (first | ((with_reducible refine gate_dst (N := 2) rfl ?_); refine box_event ?hg (N := 2) ?hd (cs := #[.int .i64 a0_0, .int .i64 a0_1, .int .i64 a0_2, .int .i64 a0_3, .int .i64 a0_4, .slice A0_5 l0_5.length c0_5]) (t := 37) ?hr ?_; (case hd => rfl); (case hg => rfl); (case hr => first | (go_simp; done) | (go_simp; rfl)); intro gb247 hg w30 hbox hb; have n0_ := Aside0.mk (below_step (by repeat (first | (with_reducible first | exact HB.out | apply below_alloc | apply pw_below_drewN | apply below_drew1) | exact HB.out)) hb); have n1_ := Aside0.mk (hbox); have n2_ := Aside0.mk ((by rw [hg]; exact (below_size (by repeat (first | (with_reducible first | exact HB.out | apply below_alloc | apply pw_below_drewN | apply below_drew1) | exact HB.out))) : w.heap.size ≤ gb247)); have n3_ := Aside0.mk ((by rw [hg]; exact (below_size (by repeat (first | (with_reducible first | exact HB.out | apply below_alloc | apply pw_below_drewN | apply below_drew1) | exact HB.out))) : w.heap.size ≤ gb247)); clear HB; have HB := n0_; have BK247 := n1_; have GW247 := n2_; have GE247 := n3_; clear n0_ n1_ n2_ n3_; clear hb hbox hg) | ((with_reducible refine gate_dst (N := 3) rfl ?_); refine box_event ?hg (N := 3) ?hd (cs := #[.int .i64 a1_0, .int .i64 a1_1, .int .i64 a1_2, .int .i64 a1_3, .int .i64 a1_4, .slice A1_5 l1_5.length c1_5]) (t := 37) ?hr ?_; (case hd => rfl); (case hg => rfl); (case hr => first | (go_simp; done) | (go_simp; rfl)); intro gb248 hg w31 hbox hb; have n0_ := Aside0.mk (blk_below (g := gb247) (o := .cells #[.int .i64 a0_0, .int .i64 a0_1, .int .i64 a0_2, .int .i64 a0_3, .int .i64 a0_4, .slice A0_5 l0_5.length c0_5] 37 (0, 0)) (by (with_reducible repeat (first | refine blk_drewN ?_ _ | refine blk_drew ?_ | refine blk_alloc ?_ _)); exact BK247.out) hb); have n1_ := Aside0.mk (below_step (by repeat (first | (with_reducible first | exact HB.out | apply below_alloc | apply pw_below_drewN | apply below_drew1 | refine below_set ?_ GE247.out) | exact HB.out)) hb); have n2_ := Aside0.mk (hbox); have n3_ := Aside0.mk ((by rw [hg]; exact (below_size (by repeat (first | (with_reducible first | exact HB.out | apply below_alloc | apply pw_below_drewN | apply below_drew1 | refine below_set ?_ GE247.out) | exact HB.out))) : w.heap.size ≤ gb248)); have n4_ := Aside0.mk ((by rw [hg]; exact (below_size (by repeat (first | (with_reducible first | exact HB.out | apply below_alloc | apply pw_below_drewN | apply below_drew1 | refine below_set ?_ GE247.out) | exact HB.out))) : w.heap.size ≤ gb248)); have n5_ := Aside0.mk ((by rw [hg]; exact Nat.ne_of_lt (blk_lt (g := gb247) (o := .cells #[.int .i64 a0_0, .int .i64 a0_1, .int .i64 a0_2, .int .i64 a0_3, .int .i64 a0_4, .slice A0_5 l0_5.length c0_5] 37 (0, 0)) (by (with_reducible repeat (first | refine blk_drewN ?_ _ | refine blk_drew ?_ | refine blk_alloc ?_ _)); exact BK247.out)) : gb247 ≠ gb248)); have n6_ := Aside0.mk ((by rw [hg]; exact Nat.ne_of_gt (blk_lt (g := gb247) (o := .cells #[.int .i64 a0_0, .int .i64 a0_1, .int .i64 a0_2, .int .i64 a0_3, .int .i64 a0_4, .slice A0_5 l0_5.length c0_5] 37 (0, 0)) (by (with_reducible repeat (first | refine blk_drewN ?_ _ | refine blk_drew ?_ | refine blk_alloc ?_ _)); exact BK247.out)) : gb248 ≠ gb247)); clear BK247; clear HB; have BK247 := n0_; have HB := n1_; have BK248 := n2_; have GW248 := n3_; have GE248 := n4_; have NB247_248 := n5_; have NB248_247 := n6_; clear n0_ n1_ n2_ n3_ n4_ n5_ n6_; clear hb hbox hg; have hnb32 := NB247_248.out; have hnc32 := NB248_247.out; have hcz33_0 : w31.cell? ⟨gb247, 0, none⟩ = some (.int .i64 a0_0) := (blk_cell BK247.out 0).trans rfl; have hcz33_1 : w31.cell? ⟨gb247, 1, none⟩ = some (.int .i64 a0_1) := (blk_cell BK247.out 1).trans rfl; have hcz33_2 : w31.cell? ⟨gb247, 2, none⟩ = some (.int .i64 a0_2) := (blk_cell BK247.out 2).trans rfl; have hcz33_3 : w31.cell? ⟨gb247, 3, none⟩ = some (.int .i64 a0_3) := (blk_cell BK247.out 3).trans rfl; have hcz33_4 : w31.cell? ⟨gb247, 4, none⟩ = some (.int .i64 a0_4) := (blk_cell BK247.out 4).trans rfl; have hcz33_5 : w31.cell? ⟨gb247, 5, none⟩ = some (.slice A0_5 l0_5.length c0_5) := (blk_cell BK247.out 5).trans rfl; have hfz33_0 := blk_frozen BK247.out 0; have hfz33_1 := blk_frozen BK247.out 1; have hfz33_2 := blk_frozen BK247.out 2; have hfz33_3 := blk_frozen BK247.out 3; have hfz33_4 := blk_frozen BK247.out 4; have hfz33_5 := blk_frozen BK247.out 5; have hcz34_0 : w31.cell? ⟨gb248, 0, none⟩ = some (.int .i64 a1_0) := (blk_cell BK248.out 0).trans rfl; have hcz34_1 : w31.cell? ⟨gb248, 1, none⟩ = some (.int .i64 a1_1) := (blk_cell BK248.out 1).trans rfl; have hcz34_2 : w31.cell? ⟨gb248, 2, none⟩ = some (.int .i64 a1_2) := (blk_cell BK248.out 2).trans rfl; have hcz34_3 : w31.cell? ⟨gb248, 3, none⟩ = some (.int .i64 a1_3) := (blk_cell BK248.out 3).trans rfl; have hcz34_4 : w31.cell? ⟨gb248, 4, none⟩ = some (.int .i64 a1_4) := (blk_cell BK248.out 4).trans rfl; have hcz34_5 : w31.cell? ⟨gb248, 5, none⟩ = some (.slice A1_5 l1_5.length c1_5) := (blk_cell BK248.out 5).trans rfl; have hfz34_0 := blk_frozen BK248.out 0; have hfz34_1 := blk_frozen BK248.out 1; have hfz34_2 := blk_frozen BK248.out 2; have hfz34_3 := blk_frozen BK248.out 3; have hfz34_4 := blk_frozen BK248.out 4; have hfz34_5 := blk_frozen BK248.out 5))
        go_ret
        exact ⟨by first | rfl | (simp [errW_none, errW_some] <;> rfl) | (simp [*, errW_none, errW_some] <;> rfl), by repeat (first | (with_reducible first | exact HB.out | apply below_alloc | apply pw_below_drewN | apply below_drew1 | refine below_set ?_ GE247.out | refine below_set ?_ GE248.out) | exact HB.out)⟩
    · rw [if_neg c4] at H
      have c4b0 : (a0_1 == a1_1) = false := beq_eq_false_iff_ne.mpr c4
      have c4b1 : (a0_1 != a1_1) = true := bne_iff_ne.mpr c4
      obtain rfl := Option.some.inj H
      go_enter Try.func25, Try.ntmps25
      go_wp2_with (first | ((with_reducible refine gate_dst (N := 2) rfl ?_); refine box_event ?hg (N := 2) ?hd (cs := #[.int .i64 a0_0, .int .i64 a0_1, .int .i64 a0_2, .int .i64 a0_3, .int .i64 a0_4, .slice A0_5 l0_5.length c0_5]) (t := 37) ?hr ?_; (case hd => rfl); (case hg => rfl); (case hr => first | (go_simp; done) | (go_simp; rfl)); intro gb247 hg w35 hbox hb; have n0_ := Aside0.mk (below_step (by repeat (first | (with_reducible first | exact HB.out | apply below_alloc | apply pw_below_drewN | apply below_drew1) | exact HB.out)) hb); have n1_ := Aside0.mk (hbox); have n2_ := Aside0.mk ((by rw [hg]; exact (below_size (by repeat (first | (with_reducible first | exact HB.out | apply below_alloc | apply pw_below_drewN | apply below_drew1) | exact HB.out))) : w.heap.size ≤ gb247)); have n3_ := Aside0.mk ((by rw [hg]; exact (below_size (by repeat (first | (with_reducible first | exact HB.out | apply below_alloc | apply pw_below_drewN | apply below_drew1) | exact HB.out))) : w.heap.size ≤ gb247)); clear HB; have HB := n0_; have BK247 := n1_; have GW247 := n2_; have GE247 := n3_; clear n0_ n1_ n2_ n3_; clear hb hbox hg) | ((with_reducible refine gate_dst (N := 3) rfl ?_); refine box_event ?hg (N := 3) ?hd (cs := #[.int .i64 a1_0, .int .i64 a1_1, .int .i64 a1_2, .int .i64 a1_3, .int .i64 a1_4, .slice A1_5 l1_5.length c1_5]) (t := 37) ?hr ?_; (case hd => rfl); (case hg => rfl); (case hr => first | (go_simp; done) | (go_simp; rfl)); intro gb248 hg w36 hbox hb; have n0_ := Aside0.mk (blk_below (g := gb247) (o := .cells #[.int .i64 a0_0, .int .i64 a0_1, .int .i64 a0_2, .int .i64 a0_3, .int .i64 a0_4, .slice A0_5 l0_5.length c0_5] 37 (0, 0)) (by (with_reducible repeat (first | refine blk_drewN ?_ _ | refine blk_drew ?_ | refine blk_alloc ?_ _)); exact BK247.out) hb); have n1_ := Aside0.mk (below_step (by repeat (first | (with_reducible first | exact HB.out | apply below_alloc | apply pw_below_drewN | apply below_drew1 | refine below_set ?_ GE247.out) | exact HB.out)) hb); have n2_ := Aside0.mk (hbox); have n3_ := Aside0.mk ((by rw [hg]; exact (below_size (by repeat (first | (with_reducible first | exact HB.out | apply below_alloc | apply pw_below_drewN | apply below_drew1 | refine below_set ?_ GE247.out) | exact HB.out))) : w.heap.size ≤ gb248)); have n4_ := Aside0.mk ((by rw [hg]; exact (below_size (by repeat (first | (with_reducible first | exact HB.out | apply below_alloc | apply pw_below_drewN | apply below_drew1 | refine below_set ?_ GE247.out) | exact HB.out))) : w.heap.size ≤ gb248)); have n5_ := Aside0.mk ((by rw [hg]; exact Nat.ne_of_lt (blk_lt (g := gb247) (o := .cells #[.int .i64 a0_0, .int .i64 a0_1, .int .i64 a0_2, .int .i64 a0_3, .int .i64 a0_4, .slice A0_5 l0_5.length c0_5] 37 (0, 0)) (by (with_reducible repeat (first | refine blk_drewN ?_ _ | refine blk_drew ?_ | refine blk_alloc ?_ _)); exact BK247.out)) : gb247 ≠ gb248)); have n6_ := Aside0.mk ((by rw [hg]; exact Nat.ne_of_gt (blk_lt (g := gb247) (o := .cells #[.int .i64 a0_0, .int .i64 a0_1, .int .i64 a0_2, .int .i64 a0_3, .int .i64 a0_4, .slice A0_5 l0_5.length c0_5] 37 (0, 0)) (by (with_reducible repeat (first | refine blk_drewN ?_ _ | refine blk_drew ?_ | refine blk_alloc ?_ _)); exact BK247.out)) : gb248 ≠ gb247)); clear BK247; clear HB; have BK247 := n0_; have HB := n1_; have BK248 := n2_; have GW248 := n3_; have GE248 := n4_; have NB247_248 := n5_; have NB248_247 := n6_; clear n0_ n1_ n2_ n3_ n4_ n5_ n6_; clear hb hbox hg; have hnb37 := NB247_248.out; have hnc37 := NB248_247.out; have hcz38_0 : w36.cell? ⟨gb247, 0, none⟩ = some (.int .i64 a0_0) := (blk_cell BK247.out 0).trans rfl; have hcz38_1 : w36.cell? ⟨gb247, 1, none⟩ = some (.int .i64 a0_1) := (blk_cell BK247.out 1).trans rfl; have hcz38_2 : w36.cell? ⟨gb247, 2, none⟩ = some (.int .i64 a0_2) := (blk_cell BK247.out 2).trans rfl; have hcz38_3 : w36.cell? ⟨gb247, 3, none⟩ = some (.int .i64 a0_3) := (blk_cell BK247.out 3).trans rfl; have hcz38_4 : w36.cell? ⟨gb247, 4, none⟩ = some (.int .i64 a0_4) := (blk_cell BK247.out 4).trans rfl; have hcz38_5 : w36.cell? ⟨gb247, 5, none⟩ = some (.slice A0_5 l0_5.length c0_5) := (blk_cell BK247.out 5).trans rfl; have hfz38_0 := blk_frozen BK247.out 0; have hfz38_1 := blk_frozen BK247.out 1; have hfz38_2 := blk_frozen BK247.out 2; have hfz38_3 := blk_frozen BK247.out 3; have hfz38_4 := blk_frozen BK247.out 4; have hfz38_5 := blk_frozen BK247.out 5; have hcz39_0 : w36.cell? ⟨gb248, 0, none⟩ = some (.int .i64 a1_0) := (blk_cell BK248.out 0).trans rfl; have hcz39_1 : w36.cell? ⟨gb248, 1, none⟩ = some (.int .i64 a1_1) := (blk_cell BK248.out 1).trans rfl; have hcz39_2 : w36.cell? ⟨gb248, 2, none⟩ = some (.int .i64 a1_2) := (blk_cell BK248.out 2).trans rfl; have hcz39_3 : w36.cell? ⟨gb248, 3, none⟩ = some (.int .i64 a1_3) := (blk_cell BK248.out 3).trans rfl; have hcz39_4 : w36.cell? ⟨gb248, 4, none⟩ = some (.int .i64 a1_4) := (blk_cell BK248.out 4).trans rfl; have hcz39_5 : w36.cell? ⟨gb248, 5, none⟩ = some (.slice A1_5 l1_5.length c1_5) := (blk_cell BK248.out 5).trans rfl; have hfz39_0 := blk_frozen BK248.out 0; have hfz39_1 := blk_frozen BK248.out 1; have hfz39_2 := blk_frozen BK248.out 2; have hfz39_3 := blk_frozen BK248.out 3; have hfz39_4 := blk_frozen BK248.out 4; have hfz39_5 := blk_frozen BK248.out 5))
      go_ret
      exact ⟨by first | rfl | (simp [errW_none, errW_some] <;> rfl) | (simp [*, errW_none, errW_some] <;> rfl), by repeat (first | (with_reducible first | exact HB.out | apply below_alloc | apply pw_below_drewN | apply below_drew1 | refine below_set ?_ GE247.out | refine below_set ?_ GE248.out) | exact HB.out)⟩
  · rw [if_neg c3] at H
    have c3b0 : (a0_0 == a1_0) = false := beq_eq_false_iff_ne.mpr c3
    have c3b1 : (a0_0 != a1_0) = true := bne_iff_ne.mpr c3
    obtain rfl := Option.some.inj H
    go_enter Try.func25, Try.ntmps25
    go_wp2_with (first | ((with_reducible refine gate_dst (N := 2) rfl ?_); refine box_event ?hg (N := 2) ?hd (cs := #[.int .i64 a0_0, .int .i64 a0_1, .int .i64 a0_2, .int .i64 a0_3, .int .i64 a0_4, .slice A0_5 l0_5.length c0_5]) (t := 37) ?hr ?_; (case hd => rfl); (case hg => rfl); (case hr => first | (go_simp; done) | (go_simp; rfl)); intro gb247 hg w40 hbox hb; have n0_ := Aside0.mk (below_step (by repeat (first | (with_reducible first | exact HB.out | apply below_alloc | apply pw_below_drewN | apply below_drew1) | exact HB.out)) hb); have n1_ := Aside0.mk (hbox); have n2_ := Aside0.mk ((by rw [hg]; exact (below_size (by repeat (first | (with_reducible first | exact HB.out | apply below_alloc | apply pw_below_drewN | apply below_drew1) | exact HB.out))) : w.heap.size ≤ gb247)); have n3_ := Aside0.mk ((by rw [hg]; exact (below_size (by repeat (first | (with_reducible first | exact HB.out | apply below_alloc | apply pw_below_drewN | apply below_drew1) | exact HB.out))) : w.heap.size ≤ gb247)); clear HB; have HB := n0_; have BK247 := n1_; have GW247 := n2_; have GE247 := n3_; clear n0_ n1_ n2_ n3_; clear hb hbox hg) | ((with_reducible refine gate_dst (N := 3) rfl ?_); refine box_event ?hg (N := 3) ?hd (cs := #[.int .i64 a1_0, .int .i64 a1_1, .int .i64 a1_2, .int .i64 a1_3, .int .i64 a1_4, .slice A1_5 l1_5.length c1_5]) (t := 37) ?hr ?_; (case hd => rfl); (case hg => rfl); (case hr => first | (go_simp; done) | (go_simp; rfl)); intro gb248 hg w41 hbox hb; have n0_ := Aside0.mk (blk_below (g := gb247) (o := .cells #[.int .i64 a0_0, .int .i64 a0_1, .int .i64 a0_2, .int .i64 a0_3, .int .i64 a0_4, .slice A0_5 l0_5.length c0_5] 37 (0, 0)) (by (with_reducible repeat (first | refine blk_drewN ?_ _ | refine blk_drew ?_ | refine blk_alloc ?_ _)); exact BK247.out) hb); have n1_ := Aside0.mk (below_step (by repeat (first | (with_reducible first | exact HB.out | apply below_alloc | apply pw_below_drewN | apply below_drew1 | refine below_set ?_ GE247.out) | exact HB.out)) hb); have n2_ := Aside0.mk (hbox); have n3_ := Aside0.mk ((by rw [hg]; exact (below_size (by repeat (first | (with_reducible first | exact HB.out | apply below_alloc | apply pw_below_drewN | apply below_drew1 | refine below_set ?_ GE247.out) | exact HB.out))) : w.heap.size ≤ gb248)); have n4_ := Aside0.mk ((by rw [hg]; exact (below_size (by repeat (first | (with_reducible first | exact HB.out | apply below_alloc | apply pw_below_drewN | apply below_drew1 | refine below_set ?_ GE247.out) | exact HB.out))) : w.heap.size ≤ gb248)); have n5_ := Aside0.mk ((by rw [hg]; exact Nat.ne_of_lt (blk_lt (g := gb247) (o := .cells #[.int .i64 a0_0, .int .i64 a0_1, .int .i64 a0_2, .int .i64 a0_3, .int .i64 a0_4, .slice A0_5 l0_5.length c0_5] 37 (0, 0)) (by (with_reducible repeat (first | refine blk_drewN ?_ _ | refine blk_drew ?_ | refine blk_alloc ?_ _)); exact BK247.out)) : gb247 ≠ gb248)); have n6_ := Aside0.mk ((by rw [hg]; exact Nat.ne_of_gt (blk_lt (g := gb247) (o := .cells #[.int .i64 a0_0, .int .i64 a0_1, .int .i64 a0_2, .int .i64 a0_3, .int .i64 a0_4, .slice A0_5 l0_5.length c0_5] 37 (0, 0)) (by (with_reducible repeat (first | refine blk_drewN ?_ _ | refine blk_drew ?_ | refine blk_alloc ?_ _)); exact BK247.out)) : gb248 ≠ gb247)); clear BK247; clear HB; have BK247 := n0_; have HB := n1_; have BK248 := n2_; have GW248 := n3_; have GE248 := n4_; have NB247_248 := n5_; have NB248_247 := n6_; clear n0_ n1_ n2_ n3_ n4_ n5_ n6_; clear hb hbox hg; have hnb42 := NB247_248.out; have hnc42 := NB248_247.out; have hcz43_0 : w41.cell? ⟨gb247, 0, none⟩ = some (.int .i64 a0_0) := (blk_cell BK247.out 0).trans rfl; have hcz43_1 : w41.cell? ⟨gb247, 1, none⟩ = some (.int .i64 a0_1) := (blk_cell BK247.out 1).trans rfl; have hcz43_2 : w41.cell? ⟨gb247, 2, none⟩ = some (.int .i64 a0_2) := (blk_cell BK247.out 2).trans rfl; have hcz43_3 : w41.cell? ⟨gb247, 3, none⟩ = some (.int .i64 a0_3) := (blk_cell BK247.out 3).trans rfl; have hcz43_4 : w41.cell? ⟨gb247, 4, none⟩ = some (.int .i64 a0_4) := (blk_cell BK247.out 4).trans rfl; have hcz43_5 : w41.cell? ⟨gb247, 5, none⟩ = some (.slice A0_5 l0_5.length c0_5) := (blk_cell BK247.out 5).trans rfl; have hfz43_0 := blk_frozen BK247.out 0; have hfz43_1 := blk_frozen BK247.out 1; have hfz43_2 := blk_frozen BK247.out 2; have hfz43_3 := blk_frozen BK247.out 3; have hfz43_4 := blk_frozen BK247.out 4; have hfz43_5 := blk_frozen BK247.out 5; have hcz44_0 : w41.cell? ⟨gb248, 0, none⟩ = some (.int .i64 a1_0) := (blk_cell BK248.out 0).trans rfl; have hcz44_1 : w41.cell? ⟨gb248, 1, none⟩ = some (.int .i64 a1_1) := (blk_cell BK248.out 1).trans rfl; have hcz44_2 : w41.cell? ⟨gb248, 2, none⟩ = some (.int .i64 a1_2) := (blk_cell BK248.out 2).trans rfl; have hcz44_3 : w41.cell? ⟨gb248, 3, none⟩ = some (.int .i64 a1_3) := (blk_cell BK248.out 3).trans rfl; have hcz44_4 : w41.cell? ⟨gb248, 4, none⟩ = some (.int .i64 a1_4) := (blk_cell BK248.out 4).trans rfl; have hcz44_5 : w41.cell? ⟨gb248, 5, none⟩ = some (.slice A1_5 l1_5.length c1_5) := (blk_cell BK248.out 5).trans rfl; have hfz44_0 := blk_frozen BK248.out 0; have hfz44_1 := blk_frozen BK248.out 1; have hfz44_2 := blk_frozen BK248.out 2; have hfz44_3 := blk_frozen BK248.out 3; have hfz44_4 := blk_frozen BK248.out 4; have hfz44_5 := blk_frozen BK248.out 5))
    go_ret
    exact ⟨by first | rfl | (simp [errW_none, errW_some] <;> rfl) | (simp [*, errW_none, errW_some] <;> rfl), by repeat (first | (with_reducible first | exact HB.out | apply below_alloc | apply pw_below_drewN | apply below_drew1 | refine below_set ?_ GE247.out | refine below_set ?_ GE248.out) | exact HB.out)⟩

/-! ### laws_eqRecordS: function 34 -/
def laws_eqRecordS.l0 : Nat → List (S37) → List (S37) → Int → Option (Bool)
  | 0, _, _, _ => none
  | k + 1, x0, x1, x5 => if x5 < (x0.length : Int) then (if 0 ≤ x5 then (if x5 < (x1.length : Int) then ((laws_eqRecord.f k ((rd_T37 x0 x5).f0) ((rd_T37 x0 x5).f1) ((rd_T37 x0 x5).f2) ((rd_T37 x0 x5).f3) ((rd_T37 x0 x5).f4) ((rd_T37 x0 x5).f5) ((rd_T37 x1 x5).f0) ((rd_T37 x1 x5).f1) ((rd_T37 x1 x5).f2) ((rd_T37 x1 x5).f3) ((rd_T37 x1 x5).f4) ((rd_T37 x1 x5).f5)).bind fun t252 => (if t252 = true then (laws_eqRecordS.l0 k x0 x1 (wrap64 (x5 + 1))) else (some false))) else (none)) else (none)) else (some true)
def laws_eqRecordS.f (k : Nat) (l0 : List (S37)) (l1 : List (S37)) : Option (Bool) := if (l0.length : Int) = (l1.length : Int) then (laws_eqRecordS.l0 k l0 l1 0) else (some false)
theorem laws_eqRecordS.mono_l : ∀ k, (∀ y0 y1 y2, LeO (laws_eqRecordS.l0 k y0 y1 y2) (laws_eqRecordS.l0 (k + 1) y0 y1 y2))
  | 0 => fun _ _ _ r h => by simp [laws_eqRecordS.l0] at h
  | k + 1 => by
    have ih0 := laws_eqRecordS.mono_l k
    · intro y0 y1 y2
      unfold laws_eqRecordS.l0
      repeat' first
      | (with_reducible exact ih0 _ _ _)
      | (with_reducible exact laws_eqRecord.mono _ _ _ _ _ _ _ _ _ _ _ _ _)
      | (with_reducible exact LeO.refl _)
      | (with_reducible exact LeO.none _)
      | (with_reducible refine LeO.ite ?_ ?_)
      | (with_reducible refine LeO.bind ?_ (fun _ => ?_))
      | exact ih0 _ _ _
      | exact laws_eqRecord.mono _ _ _ _ _ _ _ _ _ _ _ _ _
      | exact LeO.none _
      | refine LeO.ite ?_ ?_
      | refine LeO.bind ?_ (fun _ => ?_)
theorem laws_eqRecordS.mono : ∀ a0 a1 k, LeO (laws_eqRecordS.f k a0 a1) (laws_eqRecordS.f (k + 1) a0 a1) := by
  intro a0 a1 k
  have ih0 := laws_eqRecordS.mono_l k
  unfold laws_eqRecordS.f
  repeat' first
      | (with_reducible exact ih0 _ _ _)
      | (with_reducible exact laws_eqRecord.mono _ _ _ _ _ _ _ _ _ _ _ _ _)
      | (with_reducible exact LeO.refl _)
      | (with_reducible exact LeO.none _)
      | (with_reducible refine LeO.ite ?_ ?_)
      | (with_reducible refine LeO.bind ?_ (fun _ => ?_))
      | exact ih0 _ _ _
      | exact laws_eqRecord.mono _ _ _ _ _ _ _ _ _ _ _ _ _
      | exact LeO.none _
      | refine LeO.ite ?_ ?_
      | refine LeO.bind ?_ (fun _ => ?_)
def laws_eqRecordS.T6 : Bool × List (List Nat × List Nat) := (true, [([], []), ([], []), ([0, 1], [0, 1]), ([2], [2]), ([], []), ([], []), ([4, 5], [4, 5]), ([6], [6]), ([3, 7], [3, 7]), ([8], [8])])
def laws_eqRecordS.B6 : List Nat := [0, 0, 3, 7, 0, 0, 48, 112, 255, 511]
theorem laws_eqRecordS.tab6 : rtab .any (opsOf Try.f34 6) = laws_eqRecordS.T6 := by kernel_rfl
theorem laws_eqRecordS.bits6 : waitsOk laws_eqRecordS.T6.2 laws_eqRecordS.B6 = true := by kernel_rfl
set_option maxHeartbeats 8000000 in
set_option maxRecDepth 100000 in
theorem laws_eqRecordS.calls (k : Nat) (A0 : Option Addr) (c0 : Nat) (l0 : List (S37)) (A1 : Option Addr) (c1 : Nat) (l1 : List (S37)) (r : Bool) (w : World) (hr0 : Kd.C k37 w A0 l0.length l0) (hc0 : l0.length ≤ c0) (hr1 : Kd.C k37 w A1 l1.length l1) (hc1 : l1.length ≤ c1) (h : laws_eqRecordS.f k l0 l1 = some r) :
    Calls Try.prog 34 #[.slice A0 l0.length c0, .slice A1 l1.length c1] w fun e w' => e = .returned (.bool r) ∧ Below w.heap.size w w' := by
  have hu37 := Try.underlying37
  have HR0 := Aside0.mk hr0
  have HC0 := Aside0.mk hc0
  clear hr0 hc0
  have HR1 := Aside0.mk hr1
  have HC1 := Aside0.mk hc1
  clear hr1 hc1
  have HB := Aside0.mk (Below.refl w.heap.size w)
  have H : (if (l0.length : Int) = (l1.length : Int) then (laws_eqRecordS.l0 k l0 l1 0) else (some false)) = some r := h
  clear h
  by_cases c3 : (l0.length : Int) = (l1.length : Int)
  · rw [if_pos c3] at H
    have c3b0 : ((l0.length : Int) == (l1.length : Int)) = true := beq_iff_eq.mpr c3
    have c3b1 : ((l0.length : Int) != (l1.length : Int)) = false := bne_eq_false_iff_eq.mpr c3
    have c3b2 : (l0.length == l1.length) = true := by first | simpa using c3 | (simp at c3 ⊢; omega)
    clear c3
    have H' := Aside0.mk H
    clear H
    go_enter Try.func34, Try.ntmps34
    go_wp2
    go_loopg [5] k (fun kq v5 w' => ∃ (x5_1 : Int), v5 = .int .i64 x5_1 ∧ Aside0 (laws_eqRecordS.l0 kq l0 l1 x5_1 = some r) ∧ Aside0 (kq ≤ k) ∧ Aside0 (Below w.heap.size w w'))
    case atStart => exact ⟨(0), (by first | rfl | (simp; done) | (simp [*]; done)), H', ⟨Nat.le_refl _⟩, ⟨by repeat (first | (with_reducible first | exact HB.out | apply below_alloc | apply pw_below_drewN | apply below_drew1) | exact HB.out)⟩⟩
    case round =>
      clear H'
      try clear c1
      try clear p2
      try clear c3
      try clear c3b0
      try clear c3b1
      try clear c3b2
      obtain ⟨x5_1, rfl, HA, HK1, HB⟩ := hrel
      cases gk with
      | zero => exact absurd HA.out (by simp [laws_eqRecordS.l0])
      | succ k1 =>
        have H := HA.out
        clear HA
        simp only [laws_eqRecordS.l0] at H
        by_cases c4 : x5_1 < (l0.length : Int)
        · rw [if_pos c4] at H
          have c4b0 : decide (x5_1 < (l0.length : Int)) = true := decide_eq_true c4
          clear c4
          by_cases c5 : 0 ≤ x5_1
          · rw [if_pos c5] at H
            have c5b0 : decide (0 ≤ x5_1) = true := decide_eq_true c5
            clear c5
            by_cases c6 : x5_1 < (l1.length : Int)
            · rw [if_pos c6] at H
              have c6b0 : decide (x5_1 < (l1.length : Int)) = true := decide_eq_true c6
              clear c6
              replace H := Option.bind_eq_some_iff.mp H
              obtain ⟨t252, A70, H⟩ := H
              replace H : (if t252 = true then (laws_eqRecordS.l0 k1 l0 l1 (wrap64 (x5_1 + 1))) else (some false)) = some r := H
              have A7 := Aside0.mk A70
              clear A70
              by_cases c8 : t252 = true
              · subst c8
                have H1 : (laws_eqRecordS.l0 k1 l0 l1 (wrap64 (x5_1 + 1))) = some r := by rw [if_pos rfl] at H; exact H
                clear H
                have H := H1
                clear H1
                have H' := Aside0.mk H
                clear H
                try go_wp2
                have n0_ := Aside0.mk (below_drew1 HB.out)
                clear HB
                have HB := n0_
                clear n0_
                have p250 : 0 ≤ (x5_1 : Int) := of_decide_eq_true (by first | (with_reducible assumption) | assumption)
                have q250 : x5_1 < (l0.length : Int) := of_decide_eq_true (by first | (with_reducible assumption) | assumption)
                obtain ⟨ad250, A250_5, c250_5, e250, hx250_0, hx250_1, hx250_2, hx250_3, hx250_4, hx250_5, hl250_5, hi250_5⟩ := at_T37 HR0.out x5_1 p250 q250
                have hw250_5 := hx250_5
                have hw250_4 := hx250_4
                have hw250_3 := hx250_3
                have hw250_2 := hx250_2
                have hw250_1 := hx250_1
                have hw250_0 := hx250_0
                cases e250
                replace hx250_0 := (HB.out.cell (World.block_lt_of_cell? w _ hx250_0)).trans hx250_0
                replace hx250_1 := (HB.out.cell (World.block_lt_of_cell? w _ hx250_1)).trans hx250_1
                replace hx250_2 := (HB.out.cell (World.block_lt_of_cell? w _ hx250_2)).trans hx250_2
                replace hx250_3 := (HB.out.cell (World.block_lt_of_cell? w _ hx250_3)).trans hx250_3
                replace hx250_4 := (HB.out.cell (World.block_lt_of_cell? w _ hx250_4)).trans hx250_4
                replace hx250_5 := (HB.out.cell (World.block_lt_of_cell? w _ hx250_5)).trans hx250_5
                have HR250_5 := Aside0.mk hi250_5
                have HC250_5 := Aside0.mk hl250_5
                clear hi250_5 hl250_5
                replace p250 := eq_true p250
                replace q250 := eq_true q250
                have p251 : 0 ≤ (x5_1 : Int) := of_decide_eq_true (by first | (with_reducible assumption) | assumption)
                have q251 : x5_1 < (l1.length : Int) := of_decide_eq_true (by first | (with_reducible assumption) | assumption)
                obtain ⟨ad251, A251_5, c251_5, e251, hx251_0, hx251_1, hx251_2, hx251_3, hx251_4, hx251_5, hl251_5, hi251_5⟩ := at_T37 HR1.out x5_1 p251 q251
                have hw251_5 := hx251_5
                have hw251_4 := hx251_4
                have hw251_3 := hx251_3
                have hw251_2 := hx251_2
                have hw251_1 := hx251_1
                have hw251_0 := hx251_0
                cases e251
                replace hx251_0 := (HB.out.cell (World.block_lt_of_cell? w _ hx251_0)).trans hx251_0
                replace hx251_1 := (HB.out.cell (World.block_lt_of_cell? w _ hx251_1)).trans hx251_1
                replace hx251_2 := (HB.out.cell (World.block_lt_of_cell? w _ hx251_2)).trans hx251_2
                replace hx251_3 := (HB.out.cell (World.block_lt_of_cell? w _ hx251_3)).trans hx251_3
                replace hx251_4 := (HB.out.cell (World.block_lt_of_cell? w _ hx251_4)).trans hx251_4
                replace hx251_5 := (HB.out.cell (World.block_lt_of_cell? w _ hx251_5)).trans hx251_5
                have HR251_5 := Aside0.mk hi251_5
                have HC251_5 := Aside0.mk hl251_5
                clear hi251_5 hl251_5
                replace p251 := eq_true p251
                replace q251 := eq_true q251
                refine start_ (n := 10) (S := fun w' => w'.cell? (ad250.add ((x5_1).toNat * 6)) = some (.int .i64 ((rd_T37 l0 x5_1).f0)) ∧ w'.cell? ⟨(ad250.add ((x5_1).toNat * 6)).block, (ad250.add ((x5_1).toNat * 6)).off + 1, none⟩ = some (.int .i64 ((rd_T37 l0 x5_1).f1)) ∧ w'.cell? ⟨(ad250.add ((x5_1).toNat * 6)).block, (ad250.add ((x5_1).toNat * 6)).off + 2, none⟩ = some (.int .i64 ((rd_T37 l0 x5_1).f2)) ∧ w'.cell? ⟨(ad250.add ((x5_1).toNat * 6)).block, (ad250.add ((x5_1).toNat * 6)).off + 3, none⟩ = some (.int .i64 ((rd_T37 l0 x5_1).f3)) ∧ w'.cell? ⟨(ad250.add ((x5_1).toNat * 6)).block, (ad250.add ((x5_1).toNat * 6)).off + 4, none⟩ = some (.int .i64 ((rd_T37 l0 x5_1).f4)) ∧ w'.cell? ⟨(ad250.add ((x5_1).toNat * 6)).block, (ad250.add ((x5_1).toNat * 6)).off + 5, none⟩ = some (.slice A250_5 ((rd_T37 l0 x5_1).f5).length c250_5) ∧ w'.cell? (ad251.add ((x5_1).toNat * 6)) = some (.int .i64 ((rd_T37 l1 x5_1).f0)) ∧ w'.cell? ⟨(ad251.add ((x5_1).toNat * 6)).block, (ad251.add ((x5_1).toNat * 6)).off + 1, none⟩ = some (.int .i64 ((rd_T37 l1 x5_1).f1)) ∧ w'.cell? ⟨(ad251.add ((x5_1).toNat * 6)).block, (ad251.add ((x5_1).toNat * 6)).off + 2, none⟩ = some (.int .i64 ((rd_T37 l1 x5_1).f2)) ∧ w'.cell? ⟨(ad251.add ((x5_1).toNat * 6)).block, (ad251.add ((x5_1).toNat * 6)).off + 3, none⟩ = some (.int .i64 ((rd_T37 l1 x5_1).f3)) ∧ w'.cell? ⟨(ad251.add ((x5_1).toNat * 6)).block, (ad251.add ((x5_1).toNat * 6)).off + 4, none⟩ = some (.int .i64 ((rd_T37 l1 x5_1).f4)) ∧ w'.cell? ⟨(ad251.add ((x5_1).toNat * 6)).block, (ad251.add ((x5_1).toNat * 6)).off + 5, none⟩ = some (.slice A251_5 ((rd_T37 l1 x5_1).f5).length c251_5)) (ds := []) #[false, false, false, false, false, false, false, false, false, false] (by kernel_rfl) rfl rfl ⟨((HB.out.cell (World.block_lt_of_cell? w _ hw250_0)).trans hw250_0), ((HB.out.cell (World.block_lt_of_cell? w _ hw250_1)).trans hw250_1), ((HB.out.cell (World.block_lt_of_cell? w _ hw250_2)).trans hw250_2), ((HB.out.cell (World.block_lt_of_cell? w _ hw250_3)).trans hw250_3), ((HB.out.cell (World.block_lt_of_cell? w _ hw250_4)).trans hw250_4), ((HB.out.cell (World.block_lt_of_cell? w _ hw250_5)).trans hw250_5), ((HB.out.cell (World.block_lt_of_cell? w _ hw251_0)).trans hw251_0), ((HB.out.cell (World.block_lt_of_cell? w _ hw251_1)).trans hw251_1), ((HB.out.cell (World.block_lt_of_cell? w _ hw251_2)).trans hw251_2), ((HB.out.cell (World.block_lt_of_cell? w _ hw251_3)).trans hw251_3), ((HB.out.cell (World.block_lt_of_cell? w _ hw251_4)).trans hw251_4), ((HB.out.cell (World.block_lt_of_cell? w _ hw251_5)).trans hw251_5)⟩ (fun hHeld => ?_); refine with_tabW laws_eqRecordS.tab6 laws_eqRecordS.bits6 (fun HT_ HW_ => ?_)
                generalize wr.drew = w9 at HB HR250_5 HR251_5 hx250_0 hx250_1 hx250_2 hx250_3 hx250_4 hx250_5 hx251_0 hx251_1 hx251_2 hx251_3 hx251_4 hx251_5 hHeld ⊢
                refine pure_ (i := 0) (N := some 17) (v := ?_) (a' := ?_) #[true, false, false, false, false, false, false, false, false, false] rfl rfl (any_of HT_.out (by kernel_rfl)) (fun _ _ _ h => h) (Or.inl ⟨by rfl, ?_⟩) ?_ ?_
                rotate_left
                · intro w'
                  go_simp
                  with_reducible rfl
                rotate_left
                · simp only [Act.put, List.setIfInBounds_toArray, List.set_cons_zero, List.set_cons_succ, i64_w, i32_w]
                  rfl
                refine pure_ (i := 1) (N := some 18) (v := ?_) (a' := ?_) #[true, true, false, false, false, false, false, false, false, false] rfl rfl (any_of HT_.out (by kernel_rfl)) (fun _ _ _ h => h) (Or.inl ⟨by rfl, ?_⟩) ?_ ?_
                rotate_left
                · intro w'
                  go_simp
                  with_reducible rfl
                rotate_left
                · simp only [Act.put, List.setIfInBounds_toArray, List.set_cons_zero, List.set_cons_succ, i64_w, i32_w]
                  rfl
                refine pure_ (i := 2) (N := some 19) (v := ?_) (a' := ?_) #[true, true, true, false, false, false, false, false, false, false] rfl rfl (any_of HT_.out (by kernel_rfl)) (fun _ _ _ h => h) (Or.inl ⟨by rfl, ?_⟩) ?_ ?_
                rotate_left
                · intro w'
                  go_simp
                  with_reducible rfl
                rotate_left
                · simp only [Act.put, List.setIfInBounds_toArray, List.set_cons_zero, List.set_cons_succ, i64_w, i32_w]
                  rfl
                refine pure_ (i := 4) (N := some 21) (v := ?_) (a' := ?_) #[true, true, true, false, true, false, false, false, false, false] rfl rfl (any_of HT_.out (by kernel_rfl)) (fun _ _ _ h => h) (Or.inl ⟨by rfl, ?_⟩) ?_ ?_
                rotate_left
                · intro w'
                  go_simp
                  with_reducible rfl
                rotate_left
                · simp only [Act.put, List.setIfInBounds_toArray, List.set_cons_zero, List.set_cons_succ, i64_w, i32_w]
                  rfl
                refine pure_ (i := 5) (N := some 22) (v := ?_) (a' := ?_) #[true, true, true, false, true, true, false, false, false, false] rfl rfl (any_of HT_.out (by kernel_rfl)) (fun _ _ _ h => h) (Or.inl ⟨by rfl, ?_⟩) ?_ ?_
                rotate_left
                · intro w'
                  go_simp
                  with_reducible rfl
                rotate_left
                · simp only [Act.put, List.setIfInBounds_toArray, List.set_cons_zero, List.set_cons_succ, i64_w, i32_w]
                  rfl
                refine pure_ (i := 6) (N := some 23) (v := ?_) (a' := ?_) #[true, true, true, false, true, true, true, false, false, false] rfl rfl (any_of HT_.out (by kernel_rfl)) (fun _ _ _ h => h) (Or.inl ⟨by rfl, ?_⟩) ?_ ?_
                rotate_left
                · intro w'
                  go_simp
                  with_reducible rfl
                rotate_left
                · simp only [Act.put, List.setIfInBounds_toArray, List.set_cons_zero, List.set_cons_succ, i64_w, i32_w]
                  rfl
                refine take_ (i := 3) (N := some 20) (v := ?_) (a' := ?_) #[true, true, true, true, true, true, true, false, false, false] rfl rfl (take_ofW HT_.out HW_.out (by kernel_rfl)) (fun _ _ _ h => h) (Or.inl ⟨by rfl, ?_⟩) hHeld ?_ ?_
                rotate_left
                · rintro w' ⟨s0, s1, s2, s3, s4, s5, s6, s7, s8, s9, s10, s11⟩
                  go_simp
                  with_reducible rfl
                rotate_left
                · simp only [Act.put, List.setIfInBounds_toArray, List.set_cons_zero, List.set_cons_succ, i64_w, i32_w]
                  rfl
                refine take_ (i := 7) (N := some 24) (v := ?_) (a' := ?_) #[true, true, true, true, true, true, true, true, false, false] rfl rfl (take_ofW HT_.out HW_.out (by kernel_rfl)) (fun _ _ _ h => h) (Or.inl ⟨by rfl, ?_⟩) hHeld ?_ ?_
                rotate_left
                · rintro w' ⟨s0, s1, s2, s3, s4, s5, s6, s7, s8, s9, s10, s11⟩
                  go_simp
                  with_reducible rfl
                rotate_left
                · simp only [Act.put, List.setIfInBounds_toArray, List.set_cons_zero, List.set_cons_succ, i64_w, i32_w]
                  rfl
                refine one_ (i := 8) (N := some 25) #[true, true, true, true, true, true, true, true, true, false] rfl rfl (one_of HT_.out (by kernel_rfl)) (by decide) (fun K hK => ?_)
                refine goes_ Try.func25 (by kernel_rfl) rfl #[.agg #[.int .i64 ((rd_T37 l0 x5_1).f0), .int .i64 ((rd_T37 l0 x5_1).f1), .int .i64 ((rd_T37 l0 x5_1).f2), .int .i64 ((rd_T37 l0 x5_1).f3), .int .i64 ((rd_T37 l0 x5_1).f4), .slice A250_5 ((rd_T37 l0 x5_1).f5).length c250_5], .agg #[.int .i64 ((rd_T37 l1 x5_1).f0), .int .i64 ((rd_T37 l1 x5_1).f1), .int .i64 ((rd_T37 l1 x5_1).f2), .int .i64 ((rd_T37 l1 x5_1).f3), .int .i64 ((rd_T37 l1 x5_1).f4), .slice A251_5 ((rd_T37 l1 x5_1).f5).length c251_5]] (by rfl) rfl rfl (by (try simp only [List.map_toArray, List.map_cons, List.map_nil]); first | done | rfl | (simp only [List.length_drop, List.length_take]; rfl)) ?_
                with_reducible refine (laws_eqRecord.calls k1 ((rd_T37 l0 x5_1).f0) ((rd_T37 l0 x5_1).f1) ((rd_T37 l0 x5_1).f2) ((rd_T37 l0 x5_1).f3) ((rd_T37 l0 x5_1).f4) _ _ ((rd_T37 l0 x5_1).f5) ((rd_T37 l1 x5_1).f0) ((rd_T37 l1 x5_1).f1) ((rd_T37 l1 x5_1).f2) ((rd_T37 l1 x5_1).f3) ((rd_T37 l1 x5_1).f4) _ _ ((rd_T37 l1 x5_1).f5) true _ ?side1 ?side2 ?side3 ?side4 A7.out).mono ?_
                (case side1 => repeat (first | exact (Kd.C_below HR250_5.out HB.out) | (with_reducible refine Kd.C_alloc ?_ _) | (with_reducible refine Kd.C_drewN ?_ _) | (with_reducible refine Kd.C_drew ?_)))
                (case side2 => exact HC250_5.out)
                (case side3 => repeat (first | exact (Kd.C_below HR251_5.out HB.out) | (with_reducible refine Kd.C_alloc ?_ _) | (with_reducible refine Kd.C_drewN ?_ _) | (with_reducible refine Kd.C_drew ?_)))
                (case side4 => exact HC251_5.out)
                rintro e w10 ⟨rfl, hb⟩
                refine ⟨_, rfl, ?_⟩
                have n0_ := Aside0.mk (below_step (by repeat (first | (with_reducible first | exact HB.out | apply below_alloc | apply pw_below_drewN | apply below_drew1) | exact HB.out)) hb)
                clear HB
                have HB := n0_
                clear n0_
                (try clear hb)
                (try clear hb2)
                (try clear hk)
                (try clear hi)
                refine hK.out _ _ ⟨((HB.out.cell (World.block_lt_of_cell? w _ hw250_0)).trans hw250_0), ((HB.out.cell (World.block_lt_of_cell? w _ hw250_1)).trans hw250_1), ((HB.out.cell (World.block_lt_of_cell? w _ hw250_2)).trans hw250_2), ((HB.out.cell (World.block_lt_of_cell? w _ hw250_3)).trans hw250_3), ((HB.out.cell (World.block_lt_of_cell? w _ hw250_4)).trans hw250_4), ((HB.out.cell (World.block_lt_of_cell? w _ hw250_5)).trans hw250_5), ((HB.out.cell (World.block_lt_of_cell? w _ hw251_0)).trans hw251_0), ((HB.out.cell (World.block_lt_of_cell? w _ hw251_1)).trans hw251_1), ((HB.out.cell (World.block_lt_of_cell? w _ hw251_2)).trans hw251_2), ((HB.out.cell (World.block_lt_of_cell? w _ hw251_3)).trans hw251_3), ((HB.out.cell (World.block_lt_of_cell? w _ hw251_4)).trans hw251_4), ((HB.out.cell (World.block_lt_of_cell? w _ hw251_5)).trans hw251_5)⟩ (fun hHeld => ?_)
                clear hK K
                refine norm_ (a' := ?_) ?_ ?_
                rotate_left
                · show Act.put _ (some 25) _ = _
                  simp only [Act.put, List.setIfInBounds_toArray, List.set_cons_zero, List.set_cons_succ, i64_w, i32_w]
                  rfl
                refine pure_ (i := 9) (N := some 26) (v := ?_) (a' := ?_) #[true, true, true, true, true, true, true, true, true, true] rfl rfl (any_of HT_.out (by kernel_rfl)) (fun _ _ _ h => h) (Or.inl ⟨by rfl, ?_⟩) ?_ ?_
                rotate_left
                · intro w'
                  go_simp
                  with_reducible rfl
                rotate_left
                · simp only [Act.put, List.setIfInBounds_toArray, List.set_cons_zero, List.set_cons_succ, i64_w, i32_w]
                  rfl
                refine done_ (done_of HT_.out (by kernel_rfl)) ?_
                try go_wp2
                go_roundg k1
                case measure => have := HK1.out; omega
                case rel => exact ⟨(wrap64 (x5_1 + 1)), (by first | rfl | (simp; done) | (simp [*]; done)), H', ⟨by have := HK1.out; omega⟩, ⟨by repeat (first | (with_reducible first | exact HB.out | apply below_alloc | apply pw_below_drewN | apply below_drew1) | exact HB.out)⟩⟩
              · replace c8 := Bool.eq_false_iff.mpr c8
                subst c8
                have H1 : (some false) = some r := by rw [if_neg (show ¬ (false = true) by decide)] at H; exact H
                clear H
                have H := H1
                clear H1
                obtain rfl := Option.some.inj H
                try go_wp2
                have n0_ := Aside0.mk (below_drew1 HB.out)
                clear HB
                have HB := n0_
                clear n0_
                have p250 : 0 ≤ (x5_1 : Int) := of_decide_eq_true (by first | (with_reducible assumption) | assumption)
                have q250 : x5_1 < (l0.length : Int) := of_decide_eq_true (by first | (with_reducible assumption) | assumption)
                obtain ⟨ad250, A250_5, c250_5, e250, hx250_0, hx250_1, hx250_2, hx250_3, hx250_4, hx250_5, hl250_5, hi250_5⟩ := at_T37 HR0.out x5_1 p250 q250
                have hw250_5 := hx250_5
                have hw250_4 := hx250_4
                have hw250_3 := hx250_3
                have hw250_2 := hx250_2
                have hw250_1 := hx250_1
                have hw250_0 := hx250_0
                cases e250
                replace hx250_0 := (HB.out.cell (World.block_lt_of_cell? w _ hx250_0)).trans hx250_0
                replace hx250_1 := (HB.out.cell (World.block_lt_of_cell? w _ hx250_1)).trans hx250_1
                replace hx250_2 := (HB.out.cell (World.block_lt_of_cell? w _ hx250_2)).trans hx250_2
                replace hx250_3 := (HB.out.cell (World.block_lt_of_cell? w _ hx250_3)).trans hx250_3
                replace hx250_4 := (HB.out.cell (World.block_lt_of_cell? w _ hx250_4)).trans hx250_4
                replace hx250_5 := (HB.out.cell (World.block_lt_of_cell? w _ hx250_5)).trans hx250_5
                have HR250_5 := Aside0.mk hi250_5
                have HC250_5 := Aside0.mk hl250_5
                clear hi250_5 hl250_5
                replace p250 := eq_true p250
                replace q250 := eq_true q250
                have p251 : 0 ≤ (x5_1 : Int) := of_decide_eq_true (by first | (with_reducible assumption) | assumption)
                have q251 : x5_1 < (l1.length : Int) := of_decide_eq_true (by first | (with_reducible assumption) | assumption)
                obtain ⟨ad251, A251_5, c251_5, e251, hx251_0, hx251_1, hx251_2, hx251_3, hx251_4, hx251_5, hl251_5, hi251_5⟩ := at_T37 HR1.out x5_1 p251 q251
                have hw251_5 := hx251_5
                have hw251_4 := hx251_4
                have hw251_3 := hx251_3
                have hw251_2 := hx251_2
                have hw251_1 := hx251_1
                have hw251_0 := hx251_0
                cases e251
                replace hx251_0 := (HB.out.cell (World.block_lt_of_cell? w _ hx251_0)).trans hx251_0
                replace hx251_1 := (HB.out.cell (World.block_lt_of_cell? w _ hx251_1)).trans hx251_1
                replace hx251_2 := (HB.out.cell (World.block_lt_of_cell? w _ hx251_2)).trans hx251_2
                replace hx251_3 := (HB.out.cell (World.block_lt_of_cell? w _ hx251_3)).trans hx251_3
                replace hx251_4 := (HB.out.cell (World.block_lt_of_cell? w _ hx251_4)).trans hx251_4
                replace hx251_5 := (HB.out.cell (World.block_lt_of_cell? w _ hx251_5)).trans hx251_5
                have HR251_5 := Aside0.mk hi251_5
                have HC251_5 := Aside0.mk hl251_5
                clear hi251_5 hl251_5
                replace p251 := eq_true p251
                replace q251 := eq_true q251
                refine start_ (n := 10) (S := fun w' => w'.cell? (ad250.add ((x5_1).toNat * 6)) = some (.int .i64 ((rd_T37 l0 x5_1).f0)) ∧ w'.cell? ⟨(ad250.add ((x5_1).toNat * 6)).block, (ad250.add ((x5_1).toNat * 6)).off + 1, none⟩ = some (.int .i64 ((rd_T37 l0 x5_1).f1)) ∧ w'.cell? ⟨(ad250.add ((x5_1).toNat * 6)).block, (ad250.add ((x5_1).toNat * 6)).off + 2, none⟩ = some (.int .i64 ((rd_T37 l0 x5_1).f2)) ∧ w'.cell? ⟨(ad250.add ((x5_1).toNat * 6)).block, (ad250.add ((x5_1).toNat * 6)).off + 3, none⟩ = some (.int .i64 ((rd_T37 l0 x5_1).f3)) ∧ w'.cell? ⟨(ad250.add ((x5_1).toNat * 6)).block, (ad250.add ((x5_1).toNat * 6)).off + 4, none⟩ = some (.int .i64 ((rd_T37 l0 x5_1).f4)) ∧ w'.cell? ⟨(ad250.add ((x5_1).toNat * 6)).block, (ad250.add ((x5_1).toNat * 6)).off + 5, none⟩ = some (.slice A250_5 ((rd_T37 l0 x5_1).f5).length c250_5) ∧ w'.cell? (ad251.add ((x5_1).toNat * 6)) = some (.int .i64 ((rd_T37 l1 x5_1).f0)) ∧ w'.cell? ⟨(ad251.add ((x5_1).toNat * 6)).block, (ad251.add ((x5_1).toNat * 6)).off + 1, none⟩ = some (.int .i64 ((rd_T37 l1 x5_1).f1)) ∧ w'.cell? ⟨(ad251.add ((x5_1).toNat * 6)).block, (ad251.add ((x5_1).toNat * 6)).off + 2, none⟩ = some (.int .i64 ((rd_T37 l1 x5_1).f2)) ∧ w'.cell? ⟨(ad251.add ((x5_1).toNat * 6)).block, (ad251.add ((x5_1).toNat * 6)).off + 3, none⟩ = some (.int .i64 ((rd_T37 l1 x5_1).f3)) ∧ w'.cell? ⟨(ad251.add ((x5_1).toNat * 6)).block, (ad251.add ((x5_1).toNat * 6)).off + 4, none⟩ = some (.int .i64 ((rd_T37 l1 x5_1).f4)) ∧ w'.cell? ⟨(ad251.add ((x5_1).toNat * 6)).block, (ad251.add ((x5_1).toNat * 6)).off + 5, none⟩ = some (.slice A251_5 ((rd_T37 l1 x5_1).f5).length c251_5)) (ds := []) #[false, false, false, false, false, false, false, false, false, false] (by kernel_rfl) rfl rfl ⟨((HB.out.cell (World.block_lt_of_cell? w _ hw250_0)).trans hw250_0), ((HB.out.cell (World.block_lt_of_cell? w _ hw250_1)).trans hw250_1), ((HB.out.cell (World.block_lt_of_cell? w _ hw250_2)).trans hw250_2), ((HB.out.cell (World.block_lt_of_cell? w _ hw250_3)).trans hw250_3), ((HB.out.cell (World.block_lt_of_cell? w _ hw250_4)).trans hw250_4), ((HB.out.cell (World.block_lt_of_cell? w _ hw250_5)).trans hw250_5), ((HB.out.cell (World.block_lt_of_cell? w _ hw251_0)).trans hw251_0), ((HB.out.cell (World.block_lt_of_cell? w _ hw251_1)).trans hw251_1), ((HB.out.cell (World.block_lt_of_cell? w _ hw251_2)).trans hw251_2), ((HB.out.cell (World.block_lt_of_cell? w _ hw251_3)).trans hw251_3), ((HB.out.cell (World.block_lt_of_cell? w _ hw251_4)).trans hw251_4), ((HB.out.cell (World.block_lt_of_cell? w _ hw251_5)).trans hw251_5)⟩ (fun hHeld => ?_); refine with_tabW laws_eqRecordS.tab6 laws_eqRecordS.bits6 (fun HT_ HW_ => ?_)
                generalize wr.drew = w11 at HB HR250_5 HR251_5 hx250_0 hx250_1 hx250_2 hx250_3 hx250_4 hx250_5 hx251_0 hx251_1 hx251_2 hx251_3 hx251_4 hx251_5 hHeld ⊢
                refine pure_ (i := 0) (N := some 17) (v := ?_) (a' := ?_) #[true, false, false, false, false, false, false, false, false, false] rfl rfl (any_of HT_.out (by kernel_rfl)) (fun _ _ _ h => h) (Or.inl ⟨by rfl, ?_⟩) ?_ ?_
                rotate_left
                · intro w'
                  go_simp
                  with_reducible rfl
                rotate_left
                · simp only [Act.put, List.setIfInBounds_toArray, List.set_cons_zero, List.set_cons_succ, i64_w, i32_w]
                  rfl
                refine pure_ (i := 1) (N := some 18) (v := ?_) (a' := ?_) #[true, true, false, false, false, false, false, false, false, false] rfl rfl (any_of HT_.out (by kernel_rfl)) (fun _ _ _ h => h) (Or.inl ⟨by rfl, ?_⟩) ?_ ?_
                rotate_left
                · intro w'
                  go_simp
                  with_reducible rfl
                rotate_left
                · simp only [Act.put, List.setIfInBounds_toArray, List.set_cons_zero, List.set_cons_succ, i64_w, i32_w]
                  rfl
                refine pure_ (i := 2) (N := some 19) (v := ?_) (a' := ?_) #[true, true, true, false, false, false, false, false, false, false] rfl rfl (any_of HT_.out (by kernel_rfl)) (fun _ _ _ h => h) (Or.inl ⟨by rfl, ?_⟩) ?_ ?_
                rotate_left
                · intro w'
                  go_simp
                  with_reducible rfl
                rotate_left
                · simp only [Act.put, List.setIfInBounds_toArray, List.set_cons_zero, List.set_cons_succ, i64_w, i32_w]
                  rfl
                refine pure_ (i := 4) (N := some 21) (v := ?_) (a' := ?_) #[true, true, true, false, true, false, false, false, false, false] rfl rfl (any_of HT_.out (by kernel_rfl)) (fun _ _ _ h => h) (Or.inl ⟨by rfl, ?_⟩) ?_ ?_
                rotate_left
                · intro w'
                  go_simp
                  with_reducible rfl
                rotate_left
                · simp only [Act.put, List.setIfInBounds_toArray, List.set_cons_zero, List.set_cons_succ, i64_w, i32_w]
                  rfl
                refine pure_ (i := 5) (N := some 22) (v := ?_) (a' := ?_) #[true, true, true, false, true, true, false, false, false, false] rfl rfl (any_of HT_.out (by kernel_rfl)) (fun _ _ _ h => h) (Or.inl ⟨by rfl, ?_⟩) ?_ ?_
                rotate_left
                · intro w'
                  go_simp
                  with_reducible rfl
                rotate_left
                · simp only [Act.put, List.setIfInBounds_toArray, List.set_cons_zero, List.set_cons_succ, i64_w, i32_w]
                  rfl
                refine pure_ (i := 6) (N := some 23) (v := ?_) (a' := ?_) #[true, true, true, false, true, true, true, false, false, false] rfl rfl (any_of HT_.out (by kernel_rfl)) (fun _ _ _ h => h) (Or.inl ⟨by rfl, ?_⟩) ?_ ?_
                rotate_left
                · intro w'
                  go_simp
                  with_reducible rfl
                rotate_left
                · simp only [Act.put, List.setIfInBounds_toArray, List.set_cons_zero, List.set_cons_succ, i64_w, i32_w]
                  rfl
                refine take_ (i := 3) (N := some 20) (v := ?_) (a' := ?_) #[true, true, true, true, true, true, true, false, false, false] rfl rfl (take_ofW HT_.out HW_.out (by kernel_rfl)) (fun _ _ _ h => h) (Or.inl ⟨by rfl, ?_⟩) hHeld ?_ ?_
                rotate_left
                · rintro w' ⟨s0, s1, s2, s3, s4, s5, s6, s7, s8, s9, s10, s11⟩
                  go_simp
                  with_reducible rfl
                rotate_left
                · simp only [Act.put, List.setIfInBounds_toArray, List.set_cons_zero, List.set_cons_succ, i64_w, i32_w]
                  rfl
                refine take_ (i := 7) (N := some 24) (v := ?_) (a' := ?_) #[true, true, true, true, true, true, true, true, false, false] rfl rfl (take_ofW HT_.out HW_.out (by kernel_rfl)) (fun _ _ _ h => h) (Or.inl ⟨by rfl, ?_⟩) hHeld ?_ ?_
                rotate_left
                · rintro w' ⟨s0, s1, s2, s3, s4, s5, s6, s7, s8, s9, s10, s11⟩
                  go_simp
                  with_reducible rfl
                rotate_left
                · simp only [Act.put, List.setIfInBounds_toArray, List.set_cons_zero, List.set_cons_succ, i64_w, i32_w]
                  rfl
                refine one_ (i := 8) (N := some 25) #[true, true, true, true, true, true, true, true, true, false] rfl rfl (one_of HT_.out (by kernel_rfl)) (by decide) (fun K hK => ?_)
                refine goes_ Try.func25 (by kernel_rfl) rfl #[.agg #[.int .i64 ((rd_T37 l0 x5_1).f0), .int .i64 ((rd_T37 l0 x5_1).f1), .int .i64 ((rd_T37 l0 x5_1).f2), .int .i64 ((rd_T37 l0 x5_1).f3), .int .i64 ((rd_T37 l0 x5_1).f4), .slice A250_5 ((rd_T37 l0 x5_1).f5).length c250_5], .agg #[.int .i64 ((rd_T37 l1 x5_1).f0), .int .i64 ((rd_T37 l1 x5_1).f1), .int .i64 ((rd_T37 l1 x5_1).f2), .int .i64 ((rd_T37 l1 x5_1).f3), .int .i64 ((rd_T37 l1 x5_1).f4), .slice A251_5 ((rd_T37 l1 x5_1).f5).length c251_5]] (by rfl) rfl rfl (by (try simp only [List.map_toArray, List.map_cons, List.map_nil]); first | done | rfl | (simp only [List.length_drop, List.length_take]; rfl)) ?_
                with_reducible refine (laws_eqRecord.calls k1 ((rd_T37 l0 x5_1).f0) ((rd_T37 l0 x5_1).f1) ((rd_T37 l0 x5_1).f2) ((rd_T37 l0 x5_1).f3) ((rd_T37 l0 x5_1).f4) _ _ ((rd_T37 l0 x5_1).f5) ((rd_T37 l1 x5_1).f0) ((rd_T37 l1 x5_1).f1) ((rd_T37 l1 x5_1).f2) ((rd_T37 l1 x5_1).f3) ((rd_T37 l1 x5_1).f4) _ _ ((rd_T37 l1 x5_1).f5) false _ ?side1 ?side2 ?side3 ?side4 A7.out).mono ?_
                (case side1 => repeat (first | exact (Kd.C_below HR250_5.out HB.out) | (with_reducible refine Kd.C_alloc ?_ _) | (with_reducible refine Kd.C_drewN ?_ _) | (with_reducible refine Kd.C_drew ?_)))
                (case side2 => exact HC250_5.out)
                (case side3 => repeat (first | exact (Kd.C_below HR251_5.out HB.out) | (with_reducible refine Kd.C_alloc ?_ _) | (with_reducible refine Kd.C_drewN ?_ _) | (with_reducible refine Kd.C_drew ?_)))
                (case side4 => exact HC251_5.out)
                rintro e w12 ⟨rfl, hb⟩
                refine ⟨_, rfl, ?_⟩
                have n0_ := Aside0.mk (below_step (by repeat (first | (with_reducible first | exact HB.out | apply below_alloc | apply pw_below_drewN | apply below_drew1) | exact HB.out)) hb)
                clear HB
                have HB := n0_
                clear n0_
                (try clear hb)
                (try clear hb2)
                (try clear hk)
                (try clear hi)
                refine hK.out _ _ ⟨((HB.out.cell (World.block_lt_of_cell? w _ hw250_0)).trans hw250_0), ((HB.out.cell (World.block_lt_of_cell? w _ hw250_1)).trans hw250_1), ((HB.out.cell (World.block_lt_of_cell? w _ hw250_2)).trans hw250_2), ((HB.out.cell (World.block_lt_of_cell? w _ hw250_3)).trans hw250_3), ((HB.out.cell (World.block_lt_of_cell? w _ hw250_4)).trans hw250_4), ((HB.out.cell (World.block_lt_of_cell? w _ hw250_5)).trans hw250_5), ((HB.out.cell (World.block_lt_of_cell? w _ hw251_0)).trans hw251_0), ((HB.out.cell (World.block_lt_of_cell? w _ hw251_1)).trans hw251_1), ((HB.out.cell (World.block_lt_of_cell? w _ hw251_2)).trans hw251_2), ((HB.out.cell (World.block_lt_of_cell? w _ hw251_3)).trans hw251_3), ((HB.out.cell (World.block_lt_of_cell? w _ hw251_4)).trans hw251_4), ((HB.out.cell (World.block_lt_of_cell? w _ hw251_5)).trans hw251_5)⟩ (fun hHeld => ?_)
                clear hK K
                refine norm_ (a' := ?_) ?_ ?_
                rotate_left
                · show Act.put _ (some 25) _ = _
                  simp only [Act.put, List.setIfInBounds_toArray, List.set_cons_zero, List.set_cons_succ, i64_w, i32_w]
                  rfl
                refine pure_ (i := 9) (N := some 26) (v := ?_) (a' := ?_) #[true, true, true, true, true, true, true, true, true, true] rfl rfl (any_of HT_.out (by kernel_rfl)) (fun _ _ _ h => h) (Or.inl ⟨by rfl, ?_⟩) ?_ ?_
                rotate_left
                · intro w'
                  go_simp
                  with_reducible rfl
                rotate_left
                · simp only [Act.put, List.setIfInBounds_toArray, List.set_cons_zero, List.set_cons_succ, i64_w, i32_w]
                  rfl
                refine done_ (done_of HT_.out (by kernel_rfl)) ?_
                try go_wp2
                go_ret
                exact ⟨by first | rfl | (simp [errW_none, errW_some] <;> rfl) | (simp [*, errW_none, errW_some] <;> rfl), by repeat (first | (with_reducible first | exact HB.out | apply below_alloc | apply pw_below_drewN | apply below_drew1) | exact HB.out)⟩
            · rw [if_neg c6] at H
              exact absurd H (by simp)
          · rw [if_neg c5] at H
            exact absurd H (by simp)
        · rw [if_neg c4] at H
          have c4b0 : decide (x5_1 < (l0.length : Int)) = false := decide_eq_false c4
          clear c4
          obtain rfl := Option.some.inj H
          go_wp2
          go_ret
          exact ⟨by first | rfl | (simp [errW_none, errW_some] <;> rfl) | (simp [*, errW_none, errW_some] <;> rfl), by repeat (first | (with_reducible first | exact HB.out | apply below_alloc | apply pw_below_drewN | apply below_drew1) | exact HB.out)⟩
  · rw [if_neg c3] at H
    have c3b0 : ((l0.length : Int) == (l1.length : Int)) = false := beq_eq_false_iff_ne.mpr c3
    have c3b1 : ((l0.length : Int) != (l1.length : Int)) = true := bne_iff_ne.mpr c3
    have c3b2 : (l0.length == l1.length) = false := by first | simpa using c3 | (simp at c3 ⊢; omega)
    obtain rfl := Option.some.inj H
    go_enter Try.func34, Try.ntmps34
    go_wp2
    go_ret
    exact ⟨by first | rfl | (simp [errW_none, errW_some] <;> rfl) | (simp [*, errW_none, errW_some] <;> rfl), by repeat (first | (with_reducible first | exact HB.out | apply below_alloc | apply pw_below_drewN | apply below_drew1) | exact HB.out)⟩

/-! ### laws_markRecordS: function 35 -/
def laws_markRecordS.go (k : Nat) : Nat → Nat → List S37 → Int → Option (Int × List S37)
  | 0, _, y, a => some (a, y)
  | d + 1, i, y, a => if 0 ≤ a ∧ a ≤ 1000000000000 then (laws_markByteS.f k ((y.getD i z37).f5) (a + 1 + 1 + 1 + 1 + 1)).bind fun t => laws_markRecordS.go k d (i + 1) (y.set i ⟨(a), (a + 1), (a + 1 + 1), (a + 1 + 1 + 1), (a + 1 + 1 + 1 + 1), t.2⟩) t.1 else none
def laws_markRecordS.f (k : Nat) (l0 : List (S37)) (a1 : Int) : Option (Int × (List (S37))) := if l0.length ≤ 1048576 then laws_markRecordS.go k l0.length 0 l0 a1 else none
set_option maxHeartbeats 8000000 in
set_option maxRecDepth 100000 in
theorem laws_markRecordS.calls (k : Nat) (P0_ : Nat → Prop) (A0 : Option Addr) (c0 : Nat) (l0 : List (S37)) (a1 : Int) (r1 : Int) (r2 : List (S37)) (w0 w : World) (hB : Below w0.heap.size w0 w) (ho0 : Kd.S k37 37 w w0.heap.size P0_ (.slice A0 l0.length c0) l0) (h : laws_markRecordS.f k l0 a1 = some (r1, r2)) :
    Calls Try.prog 35 #[.slice A0 l0.length c0, .int .i64 a1] w fun e w' => e = .returned (.int .i64 r1) ∧ Kd.S k37 37 w' w0.heap.size P0_ (.slice A0 l0.length c0) r2 ∧ Below w0.heap.size w0 w' ∧ Kept w w' P0_ := by
  have hu := Try.underlying37
  unfold laws_markRecordS.f at h
  by_cases hlen : l0.length ≤ 1048576
  case neg =>
    rw [if_neg hlen] at h
    cases h
  rw [if_pos hlen] at h
  have H' := Aside0.mk h
  have HO := Aside0.mk ho0
  have HB := Aside0.mk hB
  clear h ho0 hB
  go_enter Try.func35, Try.ntmps35
  go_wp2
  go_loopw [1, 5] (fun v1 v5 wr => ∃ (i : Nat) (a : Int) (y : List (S37)), v1 = .int .i64 a ∧ v5 = .int .i64 (i : Int) ∧ Aside0 (i ≤ l0.length ∧ y.length = l0.length ∧ laws_markRecordS.go k (l0.length - i) i y a = some (r1, r2)) ∧ Aside0 (Kd.S k37 37 wr w0.heap.size P0_ (.slice A0 l0.length c0) y) ∧ Aside0 (Below w0.heap.size w0 wr) ∧ Aside0 (Kept w wr P0_)) (fun _ v _ => l0.length - (intOf v).toNat)
  case atStart => exact ⟨0, a1, l0, rfl, rfl, ⟨by omega, rfl, H'.out⟩, HO, HB, ⟨Kept.refl _ _⟩⟩
  case round =>
    obtain ⟨i, a, y, rfl, rfl, ⟨hi, hy, hg⟩, HO2, HB2, HK2⟩ := hrel
    by_cases hlt : i < l0.length
    · have cc : decide ((i : Int) < (l0.length : Int)) = true := decide_eq_true (by omega)
      have p1 : 0 ≤ (i : Int) := by omega
      obtain ⟨g, cap, ev, hbg, hgl, _⟩ := Kd.S_form HO2.out (by omega)
      rw [hy] at ev
      injection ev with ea en ec
      subst ea
      subst ec
      have HL := Kd.S_elem HO2.out z37 (i : Int) p1 (by omega)
      obtain ⟨oki, c, hcl, hM, hcc, hfr, hoki, hH⟩ := HL
      obtain ⟨v, rfl, hR⟩ := k37_openM hM
      have hgP : P0_ g := (Kd.S_R HO2.out).1 g (by simp [Value.ownBlock])
      rw [Int.toNat_natCast] at hcc hfr
      rw [show l0.length - i = (l0.length - (i + 1)) + 1 by omega] at hg
      rw [laws_markRecordS.go] at hg
      by_cases hab : 0 ≤ a ∧ a ≤ 1000000000000
      case neg =>
        rw [if_neg hab] at hg
        cases hg
      rw [if_pos hab] at hg
      obtain ⟨h0a, h1a⟩ := hab
      obtain ⟨⟨t1, t2⟩, hA, hg⟩ := Option.bind_eq_some_iff.1 hg
      dsimp only at hg
      have hx0 : wr.cell? ⟨g, i * 6, none⟩ = some (.int .i64 (rdOf z37 y (i : Int)).f0) := hcc 0 _ rfl
      have hx1 : wr.cell? ⟨g, i * 6 + 1, none⟩ = some (.int .i64 (rdOf z37 y (i : Int)).f1) := hcc 1 _ rfl
      have hx2 : wr.cell? ⟨g, i * 6 + 2, none⟩ = some (.int .i64 (rdOf z37 y (i : Int)).f2) := hcc 2 _ rfl
      have hx3 : wr.cell? ⟨g, i * 6 + 3, none⟩ = some (.int .i64 (rdOf z37 y (i : Int)).f3) := hcc 3 _ rfl
      have hx4 : wr.cell? ⟨g, i * 6 + 4, none⟩ = some (.int .i64 (rdOf z37 y (i : Int)).f4) := hcc 4 _ rfl
      have hx5 : wr.cell? ⟨g, i * 6 + 5, none⟩ = some v := hcc 5 v rfl
      have hf0 : wr.frozen? ⟨g, i * 6, none⟩ = false := hfr 0
      have hf1 : wr.frozen? ⟨g, i * 6 + 1, none⟩ = false := hfr 1
      have hf2 : wr.frozen? ⟨g, i * 6 + 2, none⟩ = false := hfr 2
      have hf3 : wr.frozen? ⟨g, i * 6 + 3, none⟩ = false := hfr 3
      have hf4 : wr.frozen? ⟨g, i * 6 + 4, none⟩ = false := hfr 4
      have hf5 : wr.frozen? ⟨g, i * 6 + 5, none⟩ = false := hfr 5
      have HA := Aside0.mk hA
      have HH := Aside0.mk hH
      have HR := Aside0.mk hR
      have HOK := Aside0.mk hoki
      have HGB := Aside0.mk hbg
      clear hcc hfr hA hH hR hoki hM hcl hbg
      have HBW := HB2
      have HKW := HK2
      have hs := Kd.H_seg HH.out p1 (by omega) (seg := [.int .i64 (a)]) (j := 0) (show 0 + 1 ≤ 6 by decide) (by intro q hq; rw [List.mem_singleton.1 hq]; rfl)
      rw [Int.toNat_natCast] at hs
      have hH2 : Kd.H k37 37 (wr.setCell ⟨g, i * 6, none⟩ (.int .i64 (a))) w0.heap.size P0_ (.slice (some ⟨g, 0, none⟩) l0.length c0) y (i : Int) oki [.int .i64 (a), .int .i64 (rdOf z37 y (i : Int)).f1, .int .i64 (rdOf z37 y (i : Int)).f2, .int .i64 (rdOf z37 y (i : Int)).f3, .int .i64 (rdOf z37 y (i : Int)).f4, v] := hs.1
      have hR2 : Kd.R (Kd.int .u8) 5 (wr.setCell ⟨g, i * 6, none⟩ (.int .i64 (a))) w0.heap.size oki v (y.getD i z37).f5 := Kd.R_far (p := ⟨g, i * 6, none⟩) HR.out (fun k hk he => (HOK.out k hk).2 he) _
      have hB2 : Below w0.heap.size w0 (wr.setCell ⟨g, i * 6, none⟩ (.int .i64 (a))) := below_set HBW.out HGB.out
      have hK2 : Kept w (wr.setCell ⟨g, i * 6, none⟩ (.int .i64 (a))) P0_ := Kept.setCell HKW.out (.inl hgP) _
      clear hs HH HR HBW HKW
      have HH := Aside0.mk hH2
      have HR := Aside0.mk hR2
      have HBW := Aside0.mk hB2
      have HKW := Aside0.mk hK2
      clear hH2 hR2 hB2 hK2
      have hs := Kd.H_seg HH.out p1 (by omega) (seg := [.int .i64 (a + 1)]) (j := 1) (show 1 + 1 ≤ 6 by decide) (by intro q hq; rw [List.mem_singleton.1 hq]; rfl)
      rw [Int.toNat_natCast] at hs
      have hH2 : Kd.H k37 37 ((wr.setCell ⟨g, i * 6, none⟩ (.int .i64 (a))).setCell ⟨g, i * 6 + 1, none⟩ (.int .i64 (a + 1))) w0.heap.size P0_ (.slice (some ⟨g, 0, none⟩) l0.length c0) y (i : Int) oki [.int .i64 (a), .int .i64 (a + 1), .int .i64 (rdOf z37 y (i : Int)).f2, .int .i64 (rdOf z37 y (i : Int)).f3, .int .i64 (rdOf z37 y (i : Int)).f4, v] := hs.1
      have hR2 : Kd.R (Kd.int .u8) 5 ((wr.setCell ⟨g, i * 6, none⟩ (.int .i64 (a))).setCell ⟨g, i * 6 + 1, none⟩ (.int .i64 (a + 1))) w0.heap.size oki v (y.getD i z37).f5 := Kd.R_far (p := ⟨g, i * 6 + 1, none⟩) HR.out (fun k hk he => (HOK.out k hk).2 he) _
      have hB2 : Below w0.heap.size w0 ((wr.setCell ⟨g, i * 6, none⟩ (.int .i64 (a))).setCell ⟨g, i * 6 + 1, none⟩ (.int .i64 (a + 1))) := below_set HBW.out HGB.out
      have hK2 : Kept w ((wr.setCell ⟨g, i * 6, none⟩ (.int .i64 (a))).setCell ⟨g, i * 6 + 1, none⟩ (.int .i64 (a + 1))) P0_ := Kept.setCell HKW.out (.inl hgP) _
      clear hs HH HR HBW HKW
      have HH := Aside0.mk hH2
      have HR := Aside0.mk hR2
      have HBW := Aside0.mk hB2
      have HKW := Aside0.mk hK2
      clear hH2 hR2 hB2 hK2
      have hs := Kd.H_seg HH.out p1 (by omega) (seg := [.int .i64 (a + 1 + 1)]) (j := 2) (show 2 + 1 ≤ 6 by decide) (by intro q hq; rw [List.mem_singleton.1 hq]; rfl)
      rw [Int.toNat_natCast] at hs
      have hH2 : Kd.H k37 37 (((wr.setCell ⟨g, i * 6, none⟩ (.int .i64 (a))).setCell ⟨g, i * 6 + 1, none⟩ (.int .i64 (a + 1))).setCell ⟨g, i * 6 + 2, none⟩ (.int .i64 (a + 1 + 1))) w0.heap.size P0_ (.slice (some ⟨g, 0, none⟩) l0.length c0) y (i : Int) oki [.int .i64 (a), .int .i64 (a + 1), .int .i64 (a + 1 + 1), .int .i64 (rdOf z37 y (i : Int)).f3, .int .i64 (rdOf z37 y (i : Int)).f4, v] := hs.1
      have hR2 : Kd.R (Kd.int .u8) 5 (((wr.setCell ⟨g, i * 6, none⟩ (.int .i64 (a))).setCell ⟨g, i * 6 + 1, none⟩ (.int .i64 (a + 1))).setCell ⟨g, i * 6 + 2, none⟩ (.int .i64 (a + 1 + 1))) w0.heap.size oki v (y.getD i z37).f5 := Kd.R_far (p := ⟨g, i * 6 + 2, none⟩) HR.out (fun k hk he => (HOK.out k hk).2 he) _
      have hB2 : Below w0.heap.size w0 (((wr.setCell ⟨g, i * 6, none⟩ (.int .i64 (a))).setCell ⟨g, i * 6 + 1, none⟩ (.int .i64 (a + 1))).setCell ⟨g, i * 6 + 2, none⟩ (.int .i64 (a + 1 + 1))) := below_set HBW.out HGB.out
      have hK2 : Kept w (((wr.setCell ⟨g, i * 6, none⟩ (.int .i64 (a))).setCell ⟨g, i * 6 + 1, none⟩ (.int .i64 (a + 1))).setCell ⟨g, i * 6 + 2, none⟩ (.int .i64 (a + 1 + 1))) P0_ := Kept.setCell HKW.out (.inl hgP) _
      clear hs HH HR HBW HKW
      have HH := Aside0.mk hH2
      have HR := Aside0.mk hR2
      have HBW := Aside0.mk hB2
      have HKW := Aside0.mk hK2
      clear hH2 hR2 hB2 hK2
      have hs := Kd.H_seg HH.out p1 (by omega) (seg := [.int .i64 (a + 1 + 1 + 1)]) (j := 3) (show 3 + 1 ≤ 6 by decide) (by intro q hq; rw [List.mem_singleton.1 hq]; rfl)
      rw [Int.toNat_natCast] at hs
      have hH2 : Kd.H k37 37 ((((wr.setCell ⟨g, i * 6, none⟩ (.int .i64 (a))).setCell ⟨g, i * 6 + 1, none⟩ (.int .i64 (a + 1))).setCell ⟨g, i * 6 + 2, none⟩ (.int .i64 (a + 1 + 1))).setCell ⟨g, i * 6 + 3, none⟩ (.int .i64 (a + 1 + 1 + 1))) w0.heap.size P0_ (.slice (some ⟨g, 0, none⟩) l0.length c0) y (i : Int) oki [.int .i64 (a), .int .i64 (a + 1), .int .i64 (a + 1 + 1), .int .i64 (a + 1 + 1 + 1), .int .i64 (rdOf z37 y (i : Int)).f4, v] := hs.1
      have hR2 : Kd.R (Kd.int .u8) 5 ((((wr.setCell ⟨g, i * 6, none⟩ (.int .i64 (a))).setCell ⟨g, i * 6 + 1, none⟩ (.int .i64 (a + 1))).setCell ⟨g, i * 6 + 2, none⟩ (.int .i64 (a + 1 + 1))).setCell ⟨g, i * 6 + 3, none⟩ (.int .i64 (a + 1 + 1 + 1))) w0.heap.size oki v (y.getD i z37).f5 := Kd.R_far (p := ⟨g, i * 6 + 3, none⟩) HR.out (fun k hk he => (HOK.out k hk).2 he) _
      have hB2 : Below w0.heap.size w0 ((((wr.setCell ⟨g, i * 6, none⟩ (.int .i64 (a))).setCell ⟨g, i * 6 + 1, none⟩ (.int .i64 (a + 1))).setCell ⟨g, i * 6 + 2, none⟩ (.int .i64 (a + 1 + 1))).setCell ⟨g, i * 6 + 3, none⟩ (.int .i64 (a + 1 + 1 + 1))) := below_set HBW.out HGB.out
      have hK2 : Kept w ((((wr.setCell ⟨g, i * 6, none⟩ (.int .i64 (a))).setCell ⟨g, i * 6 + 1, none⟩ (.int .i64 (a + 1))).setCell ⟨g, i * 6 + 2, none⟩ (.int .i64 (a + 1 + 1))).setCell ⟨g, i * 6 + 3, none⟩ (.int .i64 (a + 1 + 1 + 1))) P0_ := Kept.setCell HKW.out (.inl hgP) _
      clear hs HH HR HBW HKW
      have HH := Aside0.mk hH2
      have HR := Aside0.mk hR2
      have HBW := Aside0.mk hB2
      have HKW := Aside0.mk hK2
      clear hH2 hR2 hB2 hK2
      have hs := Kd.H_seg HH.out p1 (by omega) (seg := [.int .i64 (a + 1 + 1 + 1 + 1)]) (j := 4) (show 4 + 1 ≤ 6 by decide) (by intro q hq; rw [List.mem_singleton.1 hq]; rfl)
      rw [Int.toNat_natCast] at hs
      have hH2 : Kd.H k37 37 (((((wr.setCell ⟨g, i * 6, none⟩ (.int .i64 (a))).setCell ⟨g, i * 6 + 1, none⟩ (.int .i64 (a + 1))).setCell ⟨g, i * 6 + 2, none⟩ (.int .i64 (a + 1 + 1))).setCell ⟨g, i * 6 + 3, none⟩ (.int .i64 (a + 1 + 1 + 1))).setCell ⟨g, i * 6 + 4, none⟩ (.int .i64 (a + 1 + 1 + 1 + 1))) w0.heap.size P0_ (.slice (some ⟨g, 0, none⟩) l0.length c0) y (i : Int) oki [.int .i64 (a), .int .i64 (a + 1), .int .i64 (a + 1 + 1), .int .i64 (a + 1 + 1 + 1), .int .i64 (a + 1 + 1 + 1 + 1), v] := hs.1
      have hR2 : Kd.R (Kd.int .u8) 5 (((((wr.setCell ⟨g, i * 6, none⟩ (.int .i64 (a))).setCell ⟨g, i * 6 + 1, none⟩ (.int .i64 (a + 1))).setCell ⟨g, i * 6 + 2, none⟩ (.int .i64 (a + 1 + 1))).setCell ⟨g, i * 6 + 3, none⟩ (.int .i64 (a + 1 + 1 + 1))).setCell ⟨g, i * 6 + 4, none⟩ (.int .i64 (a + 1 + 1 + 1 + 1))) w0.heap.size oki v (y.getD i z37).f5 := Kd.R_far (p := ⟨g, i * 6 + 4, none⟩) HR.out (fun k hk he => (HOK.out k hk).2 he) _
      have hB2 : Below w0.heap.size w0 (((((wr.setCell ⟨g, i * 6, none⟩ (.int .i64 (a))).setCell ⟨g, i * 6 + 1, none⟩ (.int .i64 (a + 1))).setCell ⟨g, i * 6 + 2, none⟩ (.int .i64 (a + 1 + 1))).setCell ⟨g, i * 6 + 3, none⟩ (.int .i64 (a + 1 + 1 + 1))).setCell ⟨g, i * 6 + 4, none⟩ (.int .i64 (a + 1 + 1 + 1 + 1))) := below_set HBW.out HGB.out
      have hK2 : Kept w (((((wr.setCell ⟨g, i * 6, none⟩ (.int .i64 (a))).setCell ⟨g, i * 6 + 1, none⟩ (.int .i64 (a + 1))).setCell ⟨g, i * 6 + 2, none⟩ (.int .i64 (a + 1 + 1))).setCell ⟨g, i * 6 + 3, none⟩ (.int .i64 (a + 1 + 1 + 1))).setCell ⟨g, i * 6 + 4, none⟩ (.int .i64 (a + 1 + 1 + 1 + 1))) P0_ := Kept.setCell HKW.out (.inl hgP) _
      clear hs HH HR HBW HKW
      have HH := Aside0.mk hH2
      have HR := Aside0.mk hR2
      have HBW := Aside0.mk hB2
      have HKW := Aside0.mk hK2
      clear hH2 hR2 hB2 hK2
      go_wp2_with (first | (go_at_call 17; refine (laws_markByteS.calls k oki v ((y.getD i z37).f5) (a + 1 + 1 + 1 + 1 + 1) t1 t2 w0 _ HBW.out HR.out HA.out).mono ?_; rintro e w' ⟨rfl, hR3, hB3, hK3⟩))
      have HS := Aside0.mk (Kd.H_back (Kd.H_kept HH.out hK3 (fun _ _ hn => hn)) (x' := (⟨(a), (a + 1), (a + 1 + 1), (a + 1 + 1 + 1), (a + 1 + 1 + 1 + 1), t2⟩ : S37)) (okp := oki) (k37_mkM _ _ _ (⟨(a), (a + 1), (a + 1 + 1), (a + 1 + 1 + 1), (a + 1 + 1 + 1 + 1), t2⟩ : S37) (Kd.R_back HR.out hR3 rfl)) (fun _ hk => hk))
      have HK4 := Aside0.mk (HKW.out.then_ hK3 (fun k hk => .inl (HOK.out k hk).1))
      have HB4 := Aside0.mk hB3
      clear hR3 hK3 hB3
      rw [Int.toNat_natCast] at HS
      go_roundw
      case measure => simp [intOf]; omega
      case rel => exact ⟨i + 1, t1, y.set i ⟨(a), (a + 1), (a + 1 + 1), (a + 1 + 1 + 1), (a + 1 + 1 + 1 + 1), t2⟩, rfl, by rw [Int.natCast_add]; rfl, ⟨by omega, by rw [List.length_set]; exact hy, hg⟩, HS, HB4, HK4⟩
    · have cc : decide ((i : Int) < (l0.length : Int)) = false := decide_eq_false (by omega)
      rw [show l0.length - i = 0 by omega, laws_markRecordS.go] at hg
      injection hg with hg
      injection hg with e1 e2
      subst e1
      subst e2
      go_wp2
      go_ret
      exact ⟨rfl, HO2.out, HB2.out, HK2.out⟩

end Go.Proofs.Ytkbclccnnllddaa.PFnExactLogScan
