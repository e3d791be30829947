-- By this session's own program (wip/xprint.py), over the kit's print.
import Derived.Test.YtokpniagnbaflaaPFnExactPageReadx0
import Derived.Test.YtokpniagnbaflaaPFnExactPageReadx2
namespace Go.Proofs.Ytokpniagnbaflaa.PFnExactPageRead
open Go.RowKit Go.Proofs.YtokpniagnbaflaaW.PrintWords Go.Proofs.YtokpniagnbaflaaW.PrintLast Go.Proofs.YtokpniagnbaflaaW.PrintMore
attribute [local go_sem] max2_int min2_int max_two min_two max_three min_three max_four min_four   -- for this text's walks alone
attribute [local go_sem high] fl_eql fl_neq fl_lss fl_leq fl_gtr fl_geq fl_add fl_sub fl_mul fl_quo fl_neg fl_ofInt fl_toInt fl_store sub_sign fl_nan_quo fl_nan_add fl_nan_mul fl_nan_sub
open Go.Proofs.YtokpniagnbaflaaW.PrintWords renaming below_alloc → h1, pw_below_drewN → h2, below_drew1 → h3, below_set → h4, blk_drewN → b1, blk_drew → b2, blk_alloc → b3
set_option linter.unusedVariables false
set_option linter.unusedSimpArgs false

/-! ### spec_PageBytes: function 27 -/
mutual
def spec_PageBytes.l0 : Nat → List Int → Int → Int → List (List Int) → Option (List Int)
 | 0, _, _, _, _ => none
 | k + 1, x3, x4, x129000, x129001 => if x4 < (x129001.length : Int) then (if 0 ≤ x4 then (if x3.length < 140737488355328 then (spec_PageBytes.l0 k (x3 ++ [(((rd_L1 x129001 x4).length : Int)) % 256]) (wrap64 (x4 + 1)) x129000 x129001) else (none)) else (none)) else (spec_PageBytes.l1 k x3 0 x129000 x129001)
def spec_PageBytes.l1 : Nat → List Int → Int → Int → List (List Int) → Option (List Int)
 | 0, _, _, _, _ => none
 | k + 1, x3, x5, x129000, x129001 => if x5 < (x129001.length : Int) then (if 0 ≤ x5 then (if x3.length + (rd_L1 x129001 x5).length < 140737488355328 then (spec_PageBytes.l1 k (x3 ++ (rd_L1 x129001 x5)) (wrap64 (x5 + 1)) x129000 x129001) else (none)) else (none)) else (spec_PageBytes.l2 k x3 x129000 x129001)
def spec_PageBytes.l2 : Nat → List Int → Int → List (List Int) → Option (List Int)
 | 0, _, _, _ => none
 | k + 1, x3, x129000, x129001 => if (x3.length : Int) < 240 then (if x3.length < 140737488355328 then (spec_PageBytes.l2 k (x3 ++ [0]) x129000 x129001) else (none)) else (spec_PageBytes.l3 k x3 ([] : List Int) 0 x129000 x129001)
def spec_PageBytes.l3 : Nat → List Int → List Int → Int → Int → List (List Int) → Option (List Int)
 | 0, _, _, _, _, _ => none
 | k + 1, x3, x6, x7, x129000, x129001 => if x7 < (x3.length : Int) then ((spec_PutNum.f k x129000 4).bind fun t144 => (if x6.length + t144.length < 140737488355328 then ((some (x6 ++ t144 : List Int)).bind fun y147 => (if 0 ≤ x7 then (if x7 ≤ (wrap64 (x7 + 60)) then (if (wrap64 (x7 + 60)) ≤ (x3.length : Int) then ((some ((x3.take ((wrap64 (x7 + 60)) : Int).toNat).drop (x7 : Int).toNat : List Int)).bind fun y150 => (if y147.length + y150.length < 140737488355328 then (spec_PageBytes.l3 k x3 (y147 ++ y150) (wrap64 (x7 + 60)) x129000 x129001) else (none))) else (none)) else (none)) else (none))) else (none))) else (some x6)
end
def spec_PageBytes.f (k : Nat) (a0_0 : Int) (l0_1 : List (List Int)) : Option (List Int) := (spec_PageUsed.f k a0_0 l0_1).bind fun t129 => (if t129 < 0 then (some ([] : List Int)) else (spec_PageBytes.l0 k (([((l0_1.length : Int)) % 256] : List Int)) 0 a0_0 l0_1))
set_option maxRecDepth 100000 in
theorem spec_PageBytes.mono_l : ∀ k, (∀ y0 y1 y2 y3, LeO (spec_PageBytes.l0 k y0 y1 y2 y3) (spec_PageBytes.l0 (k + 1) y0 y1 y2 y3)) ∧ (∀ y0 y1 y2 y3, LeO (spec_PageBytes.l1 k y0 y1 y2 y3) (spec_PageBytes.l1 (k + 1) y0 y1 y2 y3)) ∧ (∀ y0 y1 y2, LeO (spec_PageBytes.l2 k y0 y1 y2) (spec_PageBytes.l2 (k + 1) y0 y1 y2)) ∧ (∀ y0 y1 y2 y3 y4, LeO (spec_PageBytes.l3 k y0 y1 y2 y3 y4) (spec_PageBytes.l3 (k + 1) y0 y1 y2 y3 y4))
 | 0 => ⟨fun _ _ _ _ r h => (by unfold spec_PageBytes.l0 at h; exact absurd h (by simp)), fun _ _ _ _ r h => (by unfold spec_PageBytes.l1 at h; exact absurd h (by simp)), fun _ _ _ r h => (by unfold spec_PageBytes.l2 at h; exact absurd h (by simp)), fun _ _ _ _ _ r h => (by unfold spec_PageBytes.l3 at h; exact absurd h (by simp))⟩
 | k + 1 => by
  obtain ⟨ih0, ih1, ih2, ih3⟩ := spec_PageBytes.mono_l k
  refine ⟨?_, ?_, ?_, ?_⟩
  ·intro y0 y1 y2 y3
   unfold spec_PageBytes.l0
   repeat' with_reducible first | exact ih0 _ _ _ _ | exact ih1 _ _ _ _ | exact ih2 _ _ _ | exact ih3 _ _ _ _ _ | exact spec_PageUsed.mono _ _ _ | exact spec_PutNum.mono _ _ _ | exact LeO.refl _ | exact LeO.none _ | refine LeO.ite ?_ ?_ | refine LeO.bind ?_ (fun _ => ?_)
  ·intro y0 y1 y2 y3
   unfold spec_PageBytes.l1
   repeat' with_reducible first | exact ih0 _ _ _ _ | exact ih1 _ _ _ _ | exact ih2 _ _ _ | exact ih3 _ _ _ _ _ | exact spec_PageUsed.mono _ _ _ | exact spec_PutNum.mono _ _ _ | exact LeO.refl _ | exact LeO.none _ | refine LeO.ite ?_ ?_ | refine LeO.bind ?_ (fun _ => ?_)
  ·intro y0 y1 y2
   unfold spec_PageBytes.l2
   repeat' with_reducible first | exact ih0 _ _ _ _ | exact ih1 _ _ _ _ | exact ih2 _ _ _ | exact ih3 _ _ _ _ _ | exact spec_PageUsed.mono _ _ _ | exact spec_PutNum.mono _ _ _ | exact LeO.refl _ | exact LeO.none _ | refine LeO.ite ?_ ?_ | refine LeO.bind ?_ (fun _ => ?_)
  ·intro y0 y1 y2 y3 y4
   unfold spec_PageBytes.l3
   repeat' with_reducible first | exact ih0 _ _ _ _ | exact ih1 _ _ _ _ | exact ih2 _ _ _ | exact ih3 _ _ _ _ _ | exact spec_PageUsed.mono _ _ _ | exact spec_PutNum.mono _ _ _ | exact LeO.refl _ | exact LeO.none _ | refine LeO.ite ?_ ?_ | refine LeO.bind ?_ (fun _ => ?_)
set_option maxRecDepth 100000 in
theorem spec_PageBytes.mono : ∀ a0 a1 k, LeO (spec_PageBytes.f k a0 a1) (spec_PageBytes.f (k + 1) a0 a1) := by
 intro a0 a1 k
 obtain ⟨ih0, ih1, ih2, ih3⟩ := spec_PageBytes.mono_l k
 unfold spec_PageBytes.f
 repeat' with_reducible first | exact ih0 _ _ _ _ | exact ih1 _ _ _ _ | exact ih2 _ _ _ | exact ih3 _ _ _ _ _ | exact spec_PageUsed.mono _ _ _ | exact spec_PutNum.mono _ _ _ | exact LeO.refl _ | exact LeO.none _ | refine LeO.ite ?_ ?_ | refine LeO.bind ?_ (fun _ => ?_)
set_option maxHeartbeats 8000000 in
set_option maxRecDepth 100000 in
theorem spec_PageBytes.calls (k : Nat) (a0_0 : Int) (A0_1 : Option Addr) (c0_1 : Nat) (l0_1 : List (List Int)) (r : List Int) (w : World) (hr0_1 : Kd.C (Kd.slice 5 (Kd.int .u8)) w A0_1 l0_1.length l0_1) (hc0_1 : l0_1.length ≤ c0_1) (h : spec_PageBytes.f k a0_0 l0_1 = some r) :
  Calls Try.prog 27 #[.agg #[.int .i64 a0_0, .slice A0_1 l0_1.length c0_1]] w fun e w' => ∃ v0_ : Value, e = .returned (v0_) ∧ Kd.R (Kd.int .u8) 5 w' w.heap.size (fun _ => True) v0_ r ∧ Below w.heap.size w w' := by
 have hu27 := Try.underlying27
 have HR0_1 := Aside0.mk hr0_1
 have HC0_1 := Aside0.mk hc0_1
 clear hr0_1 hc0_1
 have HB := Aside0.mk (Below.refl w.heap.size w)
 have H : ((spec_PageUsed.f k a0_0 l0_1).bind fun t129 => (if t129 < 0 then (some ([] : List Int)) else (spec_PageBytes.l0 k (([((l0_1.length : Int)) % 256] : List Int)) 0 a0_0 l0_1))) = some r := h
 clear h
 replace H := Option.bind_eq_some_iff.mp H
 obtain ⟨t129, A20, H⟩ := H
 replace H : (if t129 < 0 then (some ([] : List Int)) else (spec_PageBytes.l0 k (([((l0_1.length : Int)) % 256] : List Int)) 0 a0_0 l0_1)) = some r := H
 have A2 := Aside0.mk A20
 clear A20
 by_cases c3 : t129 < 0
 ·rw [if_pos c3] at H
  have c3b0 : decide (t129 < 0) = true := decide_eq_true c3
  clear c3
  obtain rfl := Option.some.inj H
  go_enter Try.func27, Try.ntmps27
  go_wp2_with (first | ((with_reducible refine gate_dst (N := 1) rfl ?_); refine box_event ?hg (N := 1) ?hd (cs := #[.int .i64 a0_0, .slice A0_1 l0_1.length c0_1]) (t := 27) ?hr ?_; (case hd => rfl); (case hg => rfl); (case hr => first | (go_simp; done) | (go_simp; rfl)); intro gb128 hg w4 hbox hb; have n0_ := Aside0.mk (below_step (hup HB.out) hb); have n1_ := Aside0.mk (hbox); have n2_ := Aside0.mk ((by rw [hg]; exact (below_size (hup HB.out)) : w.heap.size ≤ gb128)); have n3_ := Aside0.mk ((by rw [hg]; exact (below_size (hup HB.out)) : w.heap.size ≤ gb128)); clear HB; have HB := n0_; have BK128 := n1_; have GW128 := n2_; have GE128 := n3_; clear n0_ n1_ n2_ n3_; clear hb hbox hg; obtain ⟨hcz5_0, hcz5_1⟩ := blk_cells2 BK128.out; obtain ⟨hfz5_0, hfz5_1⟩ := blk_frozens2 BK128.out) | ((with_reducible refine gate_callee (f := 12) rfl ?_); refine goesL_ (some 9) rfl rfl Try.func12 (by kernel_rfl) rfl #[.agg #[.int .i64 a0_0, .slice A0_1 l0_1.length c0_1]] rfl (by (try simp only [List.map_toArray, List.map_cons, List.map_nil]); first | done | rfl) ?_; (with_reducible refine (spec_PageUsed.calls k a0_0 _ _ l0_1 t129 _ ?side1 ?side2 A2.out).mono ?_); (case side1 => repeat (first | exact (Kd.C_below HR0_1.out HB.out) | (with_reducible refine Kd.C_alloc ?_ _) | (with_reducible refine Kd.C_drewN ?_ _) | (with_reducible refine Kd.C_drew ?_))); (case side2 => exact HC0_1.out); rintro e w6 ⟨rfl, hb⟩; refine ⟨_, rfl, ?_⟩; have n0_ := Aside0.mk (blk_below (g := gb128) (o := .cells #[.int .i64 a0_0, .slice A0_1 l0_1.length c0_1] 27 (0, 0)) (bup BK128.out) hb); have n1_ := Aside0.mk (below_step (by with_reducible repeat (first | exact HB.out | refine h4 ?_ GE128.out | apply h1 | apply h2 | apply h3)) hb); clear BK128; clear HB; have BK128 := n0_; have HB := n1_; clear n0_ n1_; (try clear hb); (try clear hb2); (try clear hk); (try clear hi)))
  go_ret
  exact ⟨_, by first | rfl | (simp [errW_none, errW_some] <;> rfl) | (simp [*, errW_none, errW_some] <;> rfl), by first | exact Kd.R_nil _ _ _ _ _ | exact Kd.N_nil _ _ _ _ _ | exact Kd.V_nil _ _ _ _ _ | exact Kd.Q_nil _ _ _ _ _ | exact Kd.S_nil _ _ _ _ _, by with_reducible repeat (first | exact HB.out | refine h4 ?_ GE128.out | apply h1 | apply h2 | apply h3)⟩
 ·rw [if_neg c3] at H
  have c3b0 : decide (t129 < 0) = false := decide_eq_false c3
  clear c3
  obtain ⟨y130, hy130⟩ : ∃ y_ : List Int, y_ = (([((l0_1.length : Int)) % 256] : List Int)) := ⟨_, rfl⟩
  replace H : (spec_PageBytes.l0 k y130 0 a0_0 l0_1) = some r := by first | (rw [hy130]; with_reducible exact H) | (have H2_ := (Option.bind_some _ _).symm.trans H; rw [hy130]; with_reducible exact H2_) | (have H2_ := (Option.bind_some _ _).symm.trans H; with_reducible exact H2_) | with_reducible exact H | (rw [hy130]; exact H) | exact H
  have Ny130 := Aside0.mk hy130
  clear hy130
  have H' := Aside0.mk H
  clear H
  go_enter Try.func27, Try.ntmps27
  go_wp2_with (first | ((with_reducible refine gate_dst (N := 1) rfl ?_); refine box_event ?hg (N := 1) ?hd (cs := #[.int .i64 a0_0, .slice A0_1 l0_1.length c0_1]) (t := 27) ?hr ?_; (case hd => rfl); (case hg => rfl); (case hr => first | (go_simp; done) | (go_simp; rfl)); intro gb128 hg w7 hbox hb; have n0_ := Aside0.mk (below_step (hup HB.out) hb); have n1_ := Aside0.mk (hbox); have n2_ := Aside0.mk ((by rw [hg]; exact (below_size (hup HB.out)) : w.heap.size ≤ gb128)); have n3_ := Aside0.mk ((by rw [hg]; exact (below_size (hup HB.out)) : w.heap.size ≤ gb128)); clear HB; have HB := n0_; have BK128 := n1_; have GW128 := n2_; have GE128 := n3_; clear n0_ n1_ n2_ n3_; clear hb hbox hg; obtain ⟨hcz8_0, hcz8_1⟩ := blk_cells2 BK128.out; obtain ⟨hfz8_0, hfz8_1⟩ := blk_frozens2 BK128.out) | ((with_reducible refine gate_callee (f := 12) rfl ?_); refine goesL_ (some 9) rfl rfl Try.func12 (by kernel_rfl) rfl #[.agg #[.int .i64 a0_0, .slice A0_1 l0_1.length c0_1]] rfl (by (try simp only [List.map_toArray, List.map_cons, List.map_nil]); first | done | rfl) ?_; (with_reducible refine (spec_PageUsed.calls k a0_0 _ _ l0_1 t129 _ ?side1 ?side2 A2.out).mono ?_); (case side1 => repeat (first | exact (Kd.C_below HR0_1.out HB.out) | (with_reducible refine Kd.C_alloc ?_ _) | (with_reducible refine Kd.C_drewN ?_ _) | (with_reducible refine Kd.C_drew ?_))); (case side2 => exact HC0_1.out); rintro e w9 ⟨rfl, hb⟩; refine ⟨_, rfl, ?_⟩; have n0_ := Aside0.mk (blk_below (g := gb128) (o := .cells #[.int .i64 a0_0, .slice A0_1 l0_1.length c0_1] 27 (0, 0)) (bup BK128.out) hb); have n1_ := Aside0.mk (below_step (by with_reducible repeat (first | exact HB.out | refine h4 ?_ GE128.out | apply h1 | apply h2 | apply h3)) hb); clear BK128; clear HB; have BK128 := n0_; have HB := n1_; clear n0_ n1_; (try clear hb); (try clear hb2); (try clear hk); (try clear hi); obtain ⟨hcz10_0, hcz10_1⟩ := blk_cells2 BK128.out; obtain ⟨hfz10_0, hfz10_1⟩ := blk_frozens2 BK128.out) | ((with_reducible refine gate_dst (N := 15) rfl ?_); refine Kd.R_lit (Kd.int .u8) _ 5 ?hg (N := 15) ?hd (xs := ([((l0_1.length : Int)) % 256] : List Int)) (inner := [.int .u8 (((l0_1.length : Int)) % 256)]) (ok := fun _ => True) (okp := fun _ => True) ?hr ?hp (fun _ hk => hk) trivial (Below.refl _ _) (Nat.le_refl _) (by simp) ?_; (case hd => rfl); (case hg => rfl); (case hr => first | (go_simp; done) | (go_simp; rfl)); (case hp => exact (Reps.one (show Kd.M (Kd.int .u8) _ _ _ (((l0_1.length : Int)) % 256) [.int .u8 (((l0_1.length : Int)) % 256)] from rfl) (Reps.none _ _))); intro v131 w11 ho12 hb hg_ hnew_; clear hg_ hnew_; (first | rw [← Ny130.out] at ho12 | (simp only [Int.reduceToNat] at ho12; rw [← Ny130.out] at ho12)); have n0_ := Aside0.mk (Kd.R_lower ho12 (below_size (by with_reducible repeat (first | exact HB.out | refine h4 ?_ GE128.out | apply h1 | apply h2 | apply h3)))); have n1_ := Aside0.mk (blk_below (g := gb128) (o := .cells #[.int .i64 a0_0, .slice A0_1 l0_1.length c0_1] 27 (0, 0)) (bup BK128.out) hb); have n2_ := Aside0.mk (below_step (by with_reducible repeat (first | exact HB.out | refine h4 ?_ GE128.out | apply h1 | apply h2 | apply h3)) hb); clear BK128; clear HB; have HO132 := n0_; have BK128 := n1_; have HB := n2_; clear n0_ n1_ n2_; clear hb ho12))
  go_loopg [3, 4] k (fun kq v3 v4 w' => ∃ (x3_1 : List Int) (x4_1 : Int), v4 = .int .i64 x4_1 ∧ Aside0 (spec_PageBytes.l0 kq x3_1 x4_1 a0_0 l0_1 = some r) ∧ Aside0 (kq ≤ k) ∧ Aside0 (Kd.R (Kd.int .u8) 5 w' w.heap.size (fun _ => True) v3 x3_1) ∧ Aside0 (w'.heap[gb128]? = some (.cells #[.int .i64 a0_0, (.slice A0_1 l0_1.length c0_1)] 27 (0, 0))) ∧ Aside0 (Below w.heap.size w w'))
  case atStart => exact ⟨(y130), (0), (by first | rfl | (simp; done) | (simp [*]; done)), H', ⟨Nat.le_refl _⟩, ⟨by exact Kd.rup HO132.out⟩, ⟨by exact bup BK128.out⟩, ⟨by with_reducible repeat (first | exact HB.out | refine h4 ?_ GE128.out | apply h1 | apply h2 | apply h3)⟩⟩
  case round =>
   clear H'
   try clear c1
   try clear c2
   try clear p2
   try clear c3
   try clear c3b0
   try clear c12
   try clear hcz10_0
   try clear hcz10_1
   try clear hcz5_0
   try clear hcz5_1
   try clear hcz8_0
   try clear hcz8_1
   try clear hfz10_0
   try clear hfz10_1
   try clear hfz5_0
   try clear hfz5_1
   try clear hfz8_0
   try clear hfz8_1
   obtain ⟨x3_1, x4_1, rfl, HA, HK1, HO_3, BK128, HB⟩ := hrel
   cases gk with
   | zero => exact absurd HA.out (by unfold spec_PageBytes.l0; simp)
   | succ k1 =>
    have H := HA.out
    clear HA
    unfold spec_PageBytes.l0 at H; try dsimp only at H
    by_cases c13 : x4_1 < (l0_1.length : Int)
    ·rw [if_pos c13] at H
     have c13b0 : decide (x4_1 < (l0_1.length : Int)) = true := decide_eq_true c13
     clear c13
     by_cases c14 : 0 ≤ x4_1
     ·rw [if_pos c14] at H
      have c14b0 : decide (0 ≤ x4_1) = true := decide_eq_true c14
      clear c14
      by_cases c15 : x3_1.length < 140737488355328
      ·rw [if_pos c15] at H
       have LMc15 := Aside0.mk c15
       clear c15
       obtain ⟨y134, hy134⟩ : ∃ y_ : List Int, y_ = (x3_1 ++ [(((rd_L1 l0_1 x4_1).length : Int)) % 256]) := ⟨_, rfl⟩
       replace H : (spec_PageBytes.l0 k1 y134 (wrap64 (x4_1 + 1)) a0_0 l0_1) = some r := by first | (rw [hy134]; with_reducible exact H) | (have H2_ := (Option.bind_some _ _).symm.trans H; rw [hy134]; with_reducible exact H2_) | (have H2_ := (Option.bind_some _ _).symm.trans H; with_reducible exact H2_) | with_reducible exact H | (rw [hy134]; exact H) | exact H
       have Ny134 := Aside0.mk hy134
       clear hy134
       have H' := Aside0.mk H
       clear H
       obtain ⟨hcz16_0, hcz16_1⟩ := blk_cells2 BK128.out
       obtain ⟨hfz16_0, hfz16_1⟩ := blk_frozens2 BK128.out
       have p133 : 0 ≤ (x4_1 : Int) := of_decide_eq_true (by first | (with_reducible assumption) | assumption)
       have q133 : x4_1 < (l0_1.length : Int) := of_decide_eq_true (by first | (with_reducible assumption) | assumption)
       obtain ⟨ad133, A133_0, c133_0, e133, hx133_0, hl133_0, hi133_0⟩ := at_L1 HR0_1.out x4_1 p133 q133
       cases e133
       replace hx133_0 := (HB.out.cell (World.block_lt_of_cell? w _ hx133_0)).trans hx133_0
       have HR133_0 := Aside0.mk hi133_0
       have HC133_0 := Aside0.mk hl133_0
       clear hi133_0 hl133_0
       replace p133 := eq_true p133
       replace q133 := eq_true q133
       go_wp2_with (first | ((with_reducible refine gate_builtin (b := .append) (xs := #[.tmp 23, .tmp 31]) rfl ?_); at_builtin; refine Kd.R_append (Kd.int .u8) (w0 := w) w.heap.size rfl (.tmp 23) (.tmp 31) 36 5 (.int .u8 0) 1 rfl Try.underlying36 info5 rfl (by decide) (by omega) u3 x3_1 ((((rd_L1 l0_1 x4_1).length : Int)) % 256) [.int .u8 ((((rd_L1 l0_1 x4_1).length : Int)) % 256)] (fun _ => True) (fun _ => False) rfl rfl ?aP (fun _ hk => hk.elim) ?aF ?aO ?aB ?aS ?aL ?_; (case aP => exact rfl); (case aB => exact (by with_reducible repeat (first | exact HB.out | refine h4 ?_ GE128.out | apply h1 | apply h2 | apply h3))); (case aF => exact (fun _ _ => trivial)); (case aO => exact (Kd.rup HO_3.out)); (case aS => exact (below_size (by with_reducible repeat (first | exact HB.out | refine h4 ?_ GE128.out | apply h1 | apply h2 | apply h3)))); (case aL => have := LMc15.out; omega); intro v135 w17 ho hb hg hat; rw [← Ny134.out] at ho; have n0_ := Aside0.mk (blk_grown (g := gb128) (o := .cells #[.int .i64 a0_0, .slice (some ad133) l0_1.length c0_1] 27 (0, 0)) (bup BK128.out) hg (Kd.R_ne HO_3.out BK128.out (by decide))); have n1_ := Aside0.mk (hb); have n2_ := Aside0.mk (ho); clear BK128; clear HB; clear HO_3; have BK128 := n0_; have HB := n1_; have HO136 := n2_; clear n0_ n1_ n2_; clear ho hb hg hat))
       go_roundg k1
       case measure => have := HK1.out; omega
       case rel => exact ⟨(y134), (wrap64 (x4_1 + 1)), (by first | rfl | (simp; done) | (simp [*]; done)), H', ⟨by have := HK1.out; omega⟩, ⟨by exact Kd.rup HO136.out⟩, ⟨by exact bup BK128.out⟩, ⟨by with_reducible repeat (first | exact HB.out | refine h4 ?_ GE128.out | apply h1 | apply h2 | apply h3)⟩⟩
      ·rw [if_neg c15] at H
       exact absurd H (by simp)
     ·rw [if_neg c14] at H
      exact absurd H (by simp)
    ·rw [if_neg c13] at H
     have c13b0 : decide (x4_1 < (l0_1.length : Int)) = false := decide_eq_false c13
     clear c13
     have H' := Aside0.mk H
     clear H
     obtain ⟨hcz18_0, hcz18_1⟩ := blk_cells2 BK128.out
     obtain ⟨hfz18_0, hfz18_1⟩ := blk_frozens2 BK128.out
     go_wp2
     go_loopg [3, 5] k1 (fun kq v3 v5 w' => ∃ (x3_2 : List Int) (x5_2 : Int), v5 = .int .i64 x5_2 ∧ Aside0 (spec_PageBytes.l1 kq x3_2 x5_2 a0_0 l0_1 = some r) ∧ Aside0 (kq ≤ k1) ∧ Aside0 (Kd.R (Kd.int .u8) 5 w' w.heap.size (fun _ => True) v3 x3_2) ∧ Aside0 (w'.heap[gb128]? = some (.cells #[.int .i64 a0_0, (.slice A0_1 l0_1.length c0_1)] 27 (0, 0))) ∧ Aside0 (Below w.heap.size w w'))
     case atStart => exact ⟨(x3_1), (0), (by first | rfl | (simp; done) | (simp [*]; done)), H', ⟨Nat.le_refl _⟩, ⟨by exact Kd.rup HO_3.out⟩, ⟨by exact bup BK128.out⟩, ⟨by with_reducible repeat (first | exact HB.out | refine h4 ?_ GE128.out | apply h1 | apply h2 | apply h3)⟩⟩
     case round =>
      clear H'
      try clear c1
      try clear p1
      try clear q1
      try clear hx1
      try clear c2
      try clear p2
      try clear c3
      try clear c3b0
      try clear p6
      try clear c12
      try clear c13
      try clear c13b0
      try clear p13
      try clear q13
      try clear hx13
      try clear c14
      try clear c14b0
      try clear c15
      try clear hcz10_0
      try clear hcz10_1
      try clear hcz16_0
      try clear hcz16_1
      try clear hcz18_0
      try clear hcz18_1
      try clear hcz5_0
      try clear hcz5_1
      try clear hcz8_0
      try clear hcz8_1
      try clear hfz10_0
      try clear hfz10_1
      try clear hfz16_0
      try clear hfz16_1
      try clear hfz18_0
      try clear hfz18_1
      try clear hfz5_0
      try clear hfz5_1
      try clear hfz8_0
      try clear hfz8_1
      try clear hx133_0
      try clear p133
      try clear p2
      try clear q133
      obtain ⟨x3_2, x5_2, rfl, HA, HK2, HO_3, BK128, HB⟩ := hrel
      cases gk with
      | zero => exact absurd HA.out (by unfold spec_PageBytes.l1; simp)
      | succ k2 =>
       have H := HA.out
       clear HA
       unfold spec_PageBytes.l1 at H; try dsimp only at H
       by_cases c19 : x5_2 < (l0_1.length : Int)
       ·rw [if_pos c19] at H
        have c19b0 : decide (x5_2 < (l0_1.length : Int)) = true := decide_eq_true c19
        clear c19
        by_cases c20 : 0 ≤ x5_2
        ·rw [if_pos c20] at H
         have c20b0 : decide (0 ≤ x5_2) = true := decide_eq_true c20
         clear c20
         by_cases c21 : x3_2.length + (rd_L1 l0_1 x5_2).length < 140737488355328
         ·rw [if_pos c21] at H
          have LMc21 := Aside0.mk c21
          clear c21
          obtain ⟨y138, hy138⟩ : ∃ y_ : List Int, y_ = (x3_2 ++ (rd_L1 l0_1 x5_2)) := ⟨_, rfl⟩
          replace H : (spec_PageBytes.l1 k2 y138 (wrap64 (x5_2 + 1)) a0_0 l0_1) = some r := by first | (rw [hy138]; with_reducible exact H) | (have H2_ := (Option.bind_some _ _).symm.trans H; rw [hy138]; with_reducible exact H2_) | (have H2_ := (Option.bind_some _ _).symm.trans H; with_reducible exact H2_) | with_reducible exact H | (rw [hy138]; exact H) | exact H
          have Ny138 := Aside0.mk hy138
          clear hy138
          have H' := Aside0.mk H
          clear H
          obtain ⟨hcz22_0, hcz22_1⟩ := blk_cells2 BK128.out
          obtain ⟨hfz22_0, hfz22_1⟩ := blk_frozens2 BK128.out
          have p137 : 0 ≤ (x5_2 : Int) := of_decide_eq_true (by first | (with_reducible assumption) | assumption)
          have q137 : x5_2 < (l0_1.length : Int) := of_decide_eq_true (by first | (with_reducible assumption) | assumption)
          obtain ⟨ad137, A137_0, c137_0, e137, hx137_0, hl137_0, hi137_0⟩ := at_L1 HR0_1.out x5_2 p137 q137
          cases e137
          replace hx137_0 := (HB.out.cell (World.block_lt_of_cell? w _ hx137_0)).trans hx137_0
          have HR137_0 := Aside0.mk hi137_0
          have HC137_0 := Aside0.mk hl137_0
          clear hi137_0 hl137_0
          replace p137 := eq_true p137
          replace q137 := eq_true q137
          go_wp2_with (first | ((with_reducible refine gate_builtin (b := .append) (xs := #[.tmp 40, .tmp 45]) rfl ?_); at_builtin; refine Kd.R_append_rows (Kd.int .u8) (w0 := w) w.heap.size rfl (.tmp 40) (.tmp 45) 36 5 (.int .u8 0) 1 rfl Try.underlying36 info5 rfl (by decide) (by omega) u3 x3_2 (rd_L1 l0_1 x5_2) _ _ _ (fun _ => True) (fun _ => False) rfl rfl ?aO ?aR (fun _ _ h => h) (fun _ h => h.elim) ?aF ?aB ?aS ?aL ?_; (case aR => repeat (first | exact (Kd.C_below HR137_0.out HB.out) | (with_reducible refine Kd.C_alloc ?_ _) | (with_reducible refine Kd.C_drewN ?_ _) | (with_reducible refine Kd.C_drew ?_))); (case aB => exact (by with_reducible repeat (first | exact HB.out | refine h4 ?_ GE128.out | apply h1 | apply h2 | apply h3))); (case aF => exact (fun _ _ => trivial)); (case aO => exact (Kd.rup HO_3.out)); (case aS => exact (below_size (by with_reducible repeat (first | exact HB.out | refine h4 ?_ GE128.out | apply h1 | apply h2 | apply h3)))); (case aL => have := LMc21.out; omega); intro v139 w23 ho hb hg hat; rw [← Ny138.out] at ho; have n0_ := Aside0.mk (blk_grown (g := gb128) (o := .cells #[.int .i64 a0_0, .slice (some ad137) l0_1.length c0_1] 27 (0, 0)) (bup BK128.out) hg (Kd.R_ne HO_3.out BK128.out (by decide))); have n1_ := Aside0.mk (hb); have n2_ := Aside0.mk (ho); clear BK128; clear HB; clear HO_3; have BK128 := n0_; have HB := n1_; have HO140 := n2_; clear n0_ n1_ n2_; clear ho hb hg hat))
          go_roundg k2
          case measure => have := HK1.out; have := HK2.out; omega
          case rel => exact ⟨(y138), (wrap64 (x5_2 + 1)), (by first | rfl | (simp; done) | (simp [*]; done)), H', ⟨by have := HK1.out; have := HK2.out; omega⟩, ⟨by exact Kd.rup HO140.out⟩, ⟨by exact bup BK128.out⟩, ⟨by with_reducible repeat (first | exact HB.out | refine h4 ?_ GE128.out | apply h1 | apply h2 | apply h3)⟩⟩
         ·rw [if_neg c21] at H
          exact absurd H (by simp)
        ·rw [if_neg c20] at H
         exact absurd H (by simp)
       ·rw [if_neg c19] at H
        have c19b0 : decide (x5_2 < (l0_1.length : Int)) = false := decide_eq_false c19
        clear c19
        have H' := Aside0.mk H
        clear H
        obtain ⟨hcz24_0, hcz24_1⟩ := blk_cells2 BK128.out
        obtain ⟨hfz24_0, hfz24_1⟩ := blk_frozens2 BK128.out
        go_wp2
        go_loopg [3] k2 (fun kq v3 w' => ∃ (x3_3 : List Int), Aside0 (spec_PageBytes.l2 kq x3_3 a0_0 l0_1 = some r) ∧ Aside0 (kq ≤ k2) ∧ Aside0 (Kd.R (Kd.int .u8) 5 w' w.heap.size (fun _ => True) v3 x3_3) ∧ Aside0 (w'.heap[gb128]? = some (.cells #[.int .i64 a0_0, (.slice A0_1 l0_1.length c0_1)] 27 (0, 0))) ∧ Aside0 (Below w.heap.size w w'))
        case atStart => exact ⟨(x3_2), H', ⟨Nat.le_refl _⟩, ⟨by exact Kd.rup HO_3.out⟩, ⟨by exact bup BK128.out⟩, ⟨by with_reducible repeat (first | exact HB.out | refine h4 ?_ GE128.out | apply h1 | apply h2 | apply h3)⟩⟩
        case round =>
         clear H'
         try clear c1
         try clear p1
         try clear q1
         try clear hx1
         try clear c2
         try clear p2
         try clear c3
         try clear c3b0
         try clear p6
         try clear c12
         try clear c13
         try clear c13b0
         try clear p13
         try clear q13
         try clear hx13
         try clear c14
         try clear c14b0
         try clear c15
         try clear c19
         try clear c19b0
         try clear c20
         try clear c20b0
         try clear c21
         try clear hcz10_0
         try clear hcz10_1
         try clear hcz16_0
         try clear hcz16_1
         try clear hcz18_0
         try clear hcz18_1
         try clear hcz22_0
         try clear hcz22_1
         try clear hcz24_0
         try clear hcz24_1
         try clear hcz5_0
         try clear hcz5_1
         try clear hcz8_0
         try clear hcz8_1
         try clear hfz10_0
         try clear hfz10_1
         try clear hfz16_0
         try clear hfz16_1
         try clear hfz18_0
         try clear hfz18_1
         try clear hfz22_0
         try clear hfz22_1
         try clear hfz24_0
         try clear hfz24_1
         try clear hfz5_0
         try clear hfz5_1
         try clear hfz8_0
         try clear hfz8_1
         try clear hx133_0
         try clear hx137_0
         try clear p1
         try clear p13
         try clear p133
         try clear p137
         try clear p2
         try clear p6
         try clear q1
         try clear q13
         try clear q133
         try clear q137
         obtain ⟨x3_3, HA, HK3, HO_3, BK128, HB⟩ := hrel
         cases gk with
         | zero => exact absurd HA.out (by unfold spec_PageBytes.l2; simp)
         | succ k3 =>
          have H := HA.out
          clear HA
          unfold spec_PageBytes.l2 at H; try dsimp only at H
          by_cases c25 : (x3_3.length : Int) < 240
          ·rw [if_pos c25] at H
           have c25b0 : decide ((x3_3.length : Int) < 240) = true := decide_eq_true c25
           have c25b1 : decide (x3_3.length < 240) = true := decide_eq_true (by omega)
           clear c25
           by_cases c26 : x3_3.length < 140737488355328
           ·rw [if_pos c26] at H
            have LMc26 := Aside0.mk c26
            clear c26
            obtain ⟨y141, hy141⟩ : ∃ y_ : List Int, y_ = (x3_3 ++ [0]) := ⟨_, rfl⟩
            replace H : (spec_PageBytes.l2 k3 y141 a0_0 l0_1) = some r := by first | (rw [hy141]; with_reducible exact H) | (have H2_ := (Option.bind_some _ _).symm.trans H; rw [hy141]; with_reducible exact H2_) | (have H2_ := (Option.bind_some _ _).symm.trans H; with_reducible exact H2_) | with_reducible exact H | (rw [hy141]; exact H) | exact H
            have Ny141 := Aside0.mk hy141
            clear hy141
            have H' := Aside0.mk H
            clear H
            obtain ⟨Ao27, co27, eo27⟩ := Kd.R_slice HO_3.out
            subst eo27
            go_wp2_with (first | ((with_reducible refine gate_builtin (b := .append) (xs := #[.tmp 50, .tmp 51]) rfl ?_); at_builtin; refine Kd.R_append (Kd.int .u8) (w0 := w) w.heap.size rfl (.tmp 50) (.tmp 51) 36 5 (.int .u8 0) 1 rfl Try.underlying36 info5 rfl (by decide) (by omega) (.slice Ao27 x3_3.length co27) x3_3 0 [.int .u8 0] (fun _ => True) (fun _ => False) rfl rfl ?aP (fun _ hk => hk.elim) ?aF ?aO ?aB ?aS ?aL ?_; (case aP => exact rfl); (case aB => exact (by with_reducible repeat (first | exact HB.out | refine h4 ?_ GE128.out | apply h1 | apply h2 | apply h3))); (case aF => exact (fun _ _ => trivial)); (case aO => exact (Kd.rup HO_3.out)); (case aS => exact (below_size (by with_reducible repeat (first | exact HB.out | refine h4 ?_ GE128.out | apply h1 | apply h2 | apply h3)))); (case aL => have := LMc26.out; omega); intro v142 w28 ho hb hg hat; rw [← Ny141.out] at ho; have n0_ := Aside0.mk (blk_grown (g := gb128) (o := .cells #[.int .i64 a0_0, .slice A0_1 l0_1.length c0_1] 27 (0, 0)) (bup BK128.out) hg (Kd.R_ne HO_3.out BK128.out (by decide))); have n1_ := Aside0.mk (hb); have n2_ := Aside0.mk (ho); clear BK128; clear HB; clear HO_3; have BK128 := n0_; have HB := n1_; have HO143 := n2_; clear n0_ n1_ n2_; clear ho hb hg hat))
            go_roundg k3
            case measure => have := HK1.out; have := HK2.out; have := HK3.out; omega
            case rel => exact ⟨(y141), H', ⟨by have := HK1.out; have := HK2.out; have := HK3.out; omega⟩, ⟨by exact Kd.rup HO143.out⟩, ⟨by exact bup BK128.out⟩, ⟨by with_reducible repeat (first | exact HB.out | refine h4 ?_ GE128.out | apply h1 | apply h2 | apply h3)⟩⟩
           ·rw [if_neg c26] at H
            exact absurd H (by simp)
          ·rw [if_neg c25] at H
           have c25b0 : decide ((x3_3.length : Int) < 240) = false := decide_eq_false c25
           have c25b1 : decide (x3_3.length < 240) = false := decide_eq_false (by omega)
           clear c25
           have H' := Aside0.mk H
           clear H
           obtain ⟨Ao29, co29, eo29⟩ := Kd.R_slice HO_3.out
           subst eo29
           go_wp2
           go_loopg [6, 7] k3 (fun kq v6 v7 w' => ∃ (x6_4 : List Int) (x7_4 : Int), v7 = .int .i64 x7_4 ∧ Aside0 (spec_PageBytes.l3 kq x3_3 x6_4 x7_4 a0_0 l0_1 = some r) ∧ Aside0 (kq ≤ k3) ∧ Aside0 (Kd.R (Kd.int .u8) 5 w' w.heap.size (fun k_ => some k_ ≠ (v6 : Value).ownBlock) (.slice Ao29 x3_3.length co29) x3_3) ∧ Aside0 (Kd.R (Kd.int .u8) 5 w' w.heap.size (fun k_ => some k_ ≠ ((.slice Ao29 x3_3.length co29) : Value).ownBlock) v6 x6_4) ∧ Aside0 (w'.heap[gb128]? = some (.cells #[.int .i64 a0_0, (.slice A0_1 l0_1.length c0_1)] 27 (0, 0))) ∧ Aside0 (Below w.heap.size w w'))
           case atStart => exact ⟨(([] : List Int)), (0), (by first | rfl | (simp; done) | (simp [*]; done)), H', ⟨Nat.le_refl _⟩, ⟨by exact Kd.rup (Kd.R_mono HO_3.out (fun _ hk => (by simp [Value.ownBlock])))⟩, ⟨by first | exact Kd.R_nil _ _ _ _ _ | exact Kd.N_nil _ _ _ _ _ | exact Kd.V_nil _ _ _ _ _ | exact Kd.Q_nil _ _ _ _ _ | exact Kd.S_nil _ _ _ _ _⟩, ⟨by exact bup BK128.out⟩, ⟨by with_reducible repeat (first | exact HB.out | refine h4 ?_ GE128.out | apply h1 | apply h2 | apply h3)⟩⟩
           case round =>
            clear H'
            try clear c1
            try clear p1
            try clear q1
            try clear hx1
            try clear c2
            try clear p2
            try clear c3
            try clear c3b0
            try clear p6
            try clear c12
            try clear c13
            try clear c13b0
            try clear p13
            try clear q13
            try clear hx13
            try clear c14
            try clear c14b0
            try clear c15
            try clear c19
            try clear c19b0
            try clear c20
            try clear c20b0
            try clear c21
            try clear c25
            try clear c25b0
            try clear c25b1
            try clear c26
            try clear c27
            try clear hcz10_0
            try clear hcz10_1
            try clear hcz16_0
            try clear hcz16_1
            try clear hcz18_0
            try clear hcz18_1
            try clear hcz22_0
            try clear hcz22_1
            try clear hcz24_0
            try clear hcz24_1
            try clear hcz5_0
            try clear hcz5_1
            try clear hcz8_0
            try clear hcz8_1
            try clear hfz10_0
            try clear hfz10_1
            try clear hfz16_0
            try clear hfz16_1
            try clear hfz18_0
            try clear hfz18_1
            try clear hfz22_0
            try clear hfz22_1
            try clear hfz24_0
            try clear hfz24_1
            try clear hfz5_0
            try clear hfz5_1
            try clear hfz8_0
            try clear hfz8_1
            try clear hx133_0
            try clear hx137_0
            try clear p1
            try clear p13
            try clear p133
            try clear p137
            try clear p2
            try clear p6
            try clear q1
            try clear q13
            try clear q133
            try clear q137
            obtain ⟨x6_4, x7_4, rfl, HA, HK4, HO_3, HO_6, BK128, HB⟩ := hrel
            cases gk with
            | zero => exact absurd HA.out (by unfold spec_PageBytes.l3; simp)
            | succ k4 =>
             have H := HA.out
             clear HA
             unfold spec_PageBytes.l3 at H; try dsimp only at H
             by_cases c30 : x7_4 < (x3_3.length : Int)
             ·rw [if_pos c30] at H
              have c30b0 : decide (x7_4 < (x3_3.length : Int)) = true := decide_eq_true c30
              clear c30
              replace H := Option.bind_eq_some_iff.mp H
              obtain ⟨t144, A310, H⟩ := H
              replace H : (if x6_4.length + t144.length < 140737488355328 then ((some (x6_4 ++ t144 : List Int)).bind fun y147 => (if 0 ≤ x7_4 then (if x7_4 ≤ (wrap64 (x7_4 + 60)) then (if (wrap64 (x7_4 + 60)) ≤ (x3_3.length : Int) then ((some ((x3_3.take ((wrap64 (x7_4 + 60)) : Int).toNat).drop (x7_4 : Int).toNat : List Int)).bind fun y150 => (if y147.length + y150.length < 140737488355328 then (spec_PageBytes.l3 k4 x3_3 (y147 ++ y150) (wrap64 (x7_4 + 60)) a0_0 l0_1) else (none))) else (none)) else (none)) else (none))) else (none)) = some r := H
              have A31 := Aside0.mk A310
              clear A310
              by_cases c32 : x6_4.length + t144.length < 140737488355328
              ·rw [if_pos c32] at H
               have LMc32 := Aside0.mk c32
               clear c32
               obtain ⟨y147, hy147⟩ : ∃ y_ : List Int, y_ = (x6_4 ++ t144) := ⟨_, rfl⟩
               replace H : (if 0 ≤ x7_4 then (if x7_4 ≤ (wrap64 (x7_4 + 60)) then (if (wrap64 (x7_4 + 60)) ≤ (x3_3.length : Int) then ((some ((x3_3.take ((wrap64 (x7_4 + 60)) : Int).toNat).drop (x7_4 : Int).toNat : List Int)).bind fun y150 => (if y147.length + y150.length < 140737488355328 then (spec_PageBytes.l3 k4 x3_3 (y147 ++ y150) (wrap64 (x7_4 + 60)) a0_0 l0_1) else (none))) else (none)) else (none)) else (none)) = some r := by first | (rw [hy147]; with_reducible exact H) | (have H2_ := (Option.bind_some _ _).symm.trans H; rw [hy147]; with_reducible exact H2_) | (have H2_ := (Option.bind_some _ _).symm.trans H; with_reducible exact H2_) | with_reducible exact H | (rw [hy147]; exact H) | exact H
               have Ny147 := Aside0.mk hy147
               clear hy147
               by_cases c33 : 0 ≤ x7_4
               ·rw [if_pos c33] at H
                have c33b0 := eq_true c33
                have c33b1 : decide (0 ≤ x7_4) = true := decide_eq_true c33
                clear c33
                by_cases c34 : x7_4 ≤ (wrap64 (x7_4 + 60))
                ·rw [if_pos c34] at H
                 have c34b0 := eq_true c34
                 have c34b1 : decide (x7_4 ≤ (wrap64 (x7_4 + 60))) = true := decide_eq_true c34
                 by_cases c35 : (wrap64 (x7_4 + 60)) ≤ (x3_3.length : Int)
                 ·rw [if_pos c35] at H
                  have c35b0 := eq_true c35
                  have c35b1 : decide ((wrap64 (x7_4 + 60)) ≤ (x3_3.length : Int)) = true := decide_eq_true c35
                  obtain ⟨y150, hy150⟩ : ∃ y_ : List Int, y_ = ((x3_3.take ((wrap64 (x7_4 + 60)) : Int).toNat).drop (x7_4 : Int).toNat) := ⟨_, rfl⟩
                  replace H : (if y147.length + y150.length < 140737488355328 then (spec_PageBytes.l3 k4 x3_3 (y147 ++ y150) (wrap64 (x7_4 + 60)) a0_0 l0_1) else (none)) = some r := by first | (rw [hy150]; with_reducible exact H) | (have H2_ := (Option.bind_some _ _).symm.trans H; rw [hy150]; with_reducible exact H2_) | (have H2_ := (Option.bind_some _ _).symm.trans H; with_reducible exact H2_) | with_reducible exact H | (rw [hy150]; exact H) | exact H
                  have Ny150 := Aside0.mk hy150
                  clear hy150
                  by_cases c36 : y147.length + y150.length < 140737488355328
                  ·rw [if_pos c36] at H
                   have LMc36 := Aside0.mk c36
                   clear c36
                   obtain ⟨y154, hy154⟩ : ∃ y_ : List Int, y_ = (y147 ++ y150) := ⟨_, rfl⟩
                   replace H : (spec_PageBytes.l3 k4 x3_3 y154 (wrap64 (x7_4 + 60)) a0_0 l0_1) = some r := by first | (rw [hy154]; with_reducible exact H) | (have H2_ := (Option.bind_some _ _).symm.trans H; rw [hy154]; with_reducible exact H2_) | (have H2_ := (Option.bind_some _ _).symm.trans H; with_reducible exact H2_) | with_reducible exact H | (rw [hy154]; exact H) | exact H
                   have Ny154 := Aside0.mk hy154
                   clear hy154
                   have H' := Aside0.mk H
                   clear H
                   obtain ⟨hcz37_0, hcz37_1⟩ := blk_cells2 BK128.out
                   obtain ⟨hfz37_0, hfz37_1⟩ := blk_frozens2 BK128.out
                   go_wp2_with (first | ((with_reducible refine gate_callee (f := 50) rfl ?_); refine goesL_ (some 62) rfl rfl Try.func50 (by kernel_rfl) rfl #[.int .i64 a0_0, .int .i64 4] rfl (by (try simp only [List.map_toArray, List.map_cons, List.map_nil]); first | done | rfl) ?_; (with_reducible refine (spec_PutNum.calls k4 a0_0 4 t144 _ A31.out).mono ?_); rintro e w38 ⟨v145, rfl, ho0, hb⟩; refine ⟨_, rfl, ?_⟩; have n0_ := Aside0.mk (Kd.R_elder' (Kd.rup HO_3.out) (Kd.R_base ho0) hb); have n1_ := Aside0.mk (Kd.R_elder' (Kd.rup HO_6.out) (Kd.R_base ho0) hb); have n2_ := Aside0.mk (Kd.R_lower (Kd.R_new' (Kd.R_new' ho0 (Kd.R_lt (Kd.rup HO_3.out))) (Kd.R_lt (Kd.rup HO_6.out))) (below_size (by with_reducible repeat (first | exact HB.out | refine h4 ?_ GE128.out | apply h1 | apply h2 | apply h3)))); have n3_ := Aside0.mk (blk_below (g := gb128) (o := .cells #[.int .i64 a0_0, .slice A0_1 l0_1.length c0_1] 27 (0, 0)) (bup BK128.out) hb); have n4_ := Aside0.mk (below_step (by with_reducible repeat (first | exact HB.out | refine h4 ?_ GE128.out | apply h1 | apply h2 | apply h3)) hb); clear HO_3; clear HO_6; clear BK128; clear HB; have HO_3 := n0_; have HO_6 := n1_; have HO146 := n2_; have BK128 := n3_; have HB := n4_; clear n0_ n1_ n2_ n3_ n4_; (try clear hb); (try clear hb2); (try clear hk); (try clear hi); (try clear ho0); obtain ⟨Ao40, co40, eo40⟩ := Kd.R_slice HO146.out; subst eo40) | ((with_reducible refine gate_builtin (b := .append) (xs := #[.tmp 59, .tmp 62]) rfl ?_); at_builtin; refine Kd.R_append_rows (Kd.int .u8) (w0 := w) w.heap.size rfl (.tmp 59) (.tmp 62) 36 5 (.int .u8 0) 1 rfl Try.underlying36 info5 rfl (by decide) (by omega) u6 x6_4 t144 _ _ _ (fun k_ => some k_ ≠ (.slice Ao29 x3_3.length co29 : Value).ownBlock ∧ some k_ ≠ (.slice Ao40 t144.length co40 : Value).ownBlock) (fun _ => False) rfl rfl ?aO ?aR (fun _ _ h => h) (fun _ h => h.elim) ?aF ?aB ?aS ?aL ?_; (case aR => repeat (first | exact (Kd.R_reads' HO146.out).2.2 | (with_reducible refine Kd.C_alloc ?_ _) | (with_reducible refine Kd.C_drewN ?_ _) | (with_reducible refine Kd.C_drew ?_))); (case aB => exact (by with_reducible repeat (first | exact HB.out | refine h4 ?_ GE128.out | apply h1 | apply h2 | apply h3))); (case aF => exact (fun k_ hk => ⟨Kd.fresh' (Kd.R_lt (Kd.rup HO_3.out)) k_ hk, Kd.fresh' (Kd.R_lt (Kd.rup HO146.out)) k_ hk⟩)); (case aO => exact (Kd.rup HO_6.out)); (case aS => exact (below_size (by with_reducible repeat (first | exact HB.out | refine h4 ?_ GE128.out | apply h1 | apply h2 | apply h3)))); (case aL => have := LMc32.out; omega); intro v148 w39 ho hb hg hat; rw [← Ny147.out] at ho; have n0_ := Aside0.mk (Kd.R_after (ok := (fun k_ => some k_ ≠ (.slice Ao40 t144.length co40 : Value).ownBlock)) (by exact Kd.rup (Kd.R_mono HO_3.out (fun _ hk => ⟨hk.2, hk.1⟩))) hg hat); have n1_ := Aside0.mk (blk_grown (g := gb128) (o := .cells #[.int .i64 a0_0, .slice A0_1 l0_1.length c0_1] 27 (0, 0)) (bup BK128.out) hg (Kd.R_ne HO_6.out BK128.out (by decide))); have n2_ := Aside0.mk (Kd.R_after (ok := (fun k_ => some k_ ≠ (.slice Ao29 x3_3.length co29 : Value).ownBlock)) (by exact Kd.rup (Kd.R_mono HO146.out (fun _ hk => ⟨hk.1.2, hk.2⟩))) hg hat); have n3_ := Aside0.mk (hb); have n4_ := Aside0.mk (ho); clear HO_3; clear BK128; clear HO146; clear HB; clear HO_6; have HO_3 := n0_; have BK128 := n1_; have HO146 := n2_; have HB := n3_; have HO149 := n4_; clear n0_ n1_ n2_ n3_ n4_; clear ho hb hg hat; have q41 : ((wrap64 (x7_4 + 60)) : Int) ≤ ((x3_3.length : Int) : Int) := of_decide_eq_true (by first | (with_reducible assumption) | assumption); obtain ⟨i041, hi041, _, hsz41, _⟩ := info_parts info5; have hroom41 : x3_3.length ≤ co29 := (Kd.R_reads' HO_3.out).2.1; have hC41 : Kd.C (Kd.int .u8) _ Ao29 x3_3.length x3_3 := (Kd.R_reads' HO_3.out).2.2; have ql41 : (x7_4 : Int) ≤ ((wrap64 (x7_4 + 60)) : Int) := of_decide_eq_true (by first | (with_reducible assumption) | assumption); have q041 : (0 : Int) ≤ (x7_4 : Int) := of_decide_eq_true (by first | (with_reducible assumption) | assumption); have hcut41 := cut_mid (P := Try.prog) 36 5 .i64 .i64 Try.underlying36 hi041 1 hsz41 Ao29 x3_3.length co29 x7_4 (wrap64 (x7_4 + 60)) q041 ql41 q41 hroom41; have hr41 := Kd.C_mid (lo := (x7_4 : Int).toNat) (hi := ((wrap64 (x7_4 + 60)) : Int).toNat) (c := co29) hC41 (by omega) (by omega) hroom41; obtain ⟨A41, hA41⟩ : ∃ A1, A1 = (if co29 = (x7_4 : Int).toNat then Ao29 else (Ao29 : Option Addr).map (·.add ((x7_4 : Int).toNat * 1))) := ⟨_, rfl⟩; obtain ⟨c41, hc41⟩ : ∃ c1, c1 = co29 - (x7_4 : Int).toNat := ⟨_, rfl⟩; have hy41 : y150.length = ((wrap64 (x7_4 + 60)) : Int).toNat - (x7_4 : Int).toNat := (by rw [Ny150.out, List.length_drop, List.length_take] <;> omega); rw [show ((x3_3).take ((wrap64 (x7_4 + 60)) : Int).toNat).drop (x7_4 : Int).toNat = y150 from Ny150.out.symm] at hr41; replace hr41 : Kd.C (Kd.int .u8) _ A41 y150.length y150 := (by rw [hA41]; exact hr41); rw [← hy41, ← hA41, ← hc41] at hcut41; have HR153 := Aside0.mk hr41; have HC153 := Aside0.mk (show y150.length ≤ c41 from by rw [hy41, hc41]; exact Nat.sub_le_sub_right (Nat.le_trans (by omega) hroom41) _); clear hr41 hC41 hroom41 hi041 hsz41 hc41; have KY41 := Aside0.mk hy41; have KA41 := Aside0.mk hA41; clear hy41 hA41; have KL41 := Aside0.mk (show ((wrap64 (x7_4 + 60)) : Int).toNat ≤ x3_3.length from by omega); have KM41 := Aside0.mk (show (x7_4 : Int).toNat ≤ ((wrap64 (x7_4 + 60)) : Int).toNat from by omega); replace q41 := eq_true q41) | ((with_reducible refine gate_builtin (b := .append) (xs := #[.tmp 64, .tmp 69]) rfl ?_); at_builtin; refine Kd.R_append_rows (Kd.int .u8) (w0 := w) w.heap.size rfl (.tmp 64) (.tmp 69) 36 5 (.int .u8 0) 1 rfl Try.underlying36 info5 rfl (by decide) (by omega) v148 y147 y150 _ _ _ (fun k_ => some k_ ≠ (.slice Ao29 x3_3.length co29 : Value).ownBlock ∧ some k_ ≠ (.slice Ao40 t144.length co40 : Value).ownBlock) (fun _ => False) rfl rfl ?aO ?aR (fun _ _ h => h) (fun _ h => h.elim) ?aF ?aB ?aS ?aL ?_; (case aR => repeat (first | exact (by repeat (first | (with_reducible exact HR153.out) | (with_reducible refine Kd.C_alloc ?_ _) | (with_reducible refine Kd.C_drewN ?_ _) | (with_reducible refine Kd.C_drew ?_) | exact HR153.out)) | (with_reducible refine Kd.C_alloc ?_ _) | (with_reducible refine Kd.C_drewN ?_ _) | (with_reducible refine Kd.C_drew ?_))); (case aB => exact (by with_reducible repeat (first | exact HB.out | refine h4 ?_ GE128.out | apply h1 | apply h2 | apply h3))); (case aF => exact (fun k_ hk => ⟨Kd.fresh' (Kd.R_lt (Kd.rup HO_3.out)) k_ hk, Kd.fresh' (Kd.R_lt (Kd.rup HO146.out)) k_ hk⟩)); (case aO => exact (Kd.rup HO149.out)); (case aS => exact (below_size (by with_reducible repeat (first | exact HB.out | refine h4 ?_ GE128.out | apply h1 | apply h2 | apply h3)))); (case aL => have := LMc36.out; omega); intro v155 w42 ho hb hg hat; rw [← Ny154.out] at ho; have n0_ := Aside0.mk (Kd.R_after (ok := (fun k_ => some k_ ≠ (.slice Ao40 t144.length co40 : Value).ownBlock)) (Kd.rup HO_3.out) hg hat); have n1_ := Aside0.mk (blk_grown (g := gb128) (o := .cells #[.int .i64 a0_0, .slice A0_1 l0_1.length c0_1] 27 (0, 0)) (bup BK128.out) hg (Kd.R_ne HO149.out BK128.out (by decide))); have n2_ := Aside0.mk (Kd.R_after (ok := (fun k_ => some k_ ≠ (.slice Ao29 x3_3.length co29 : Value).ownBlock)) (Kd.rup HO146.out) hg hat); have n3_ := Aside0.mk (hb); have n4_ := Aside0.mk ((show Kd.C (Kd.int .u8) w42 A41 y150.length y150 from by rw [Ny150.out, KA41.out]; exact Kd.C_mid (lo := (x7_4 : Int).toNat) (hi := ((wrap64 (x7_4 + 60)) : Int).toNat) (c := co29) ((Kd.R_reads' (Kd.R_after (ok := (fun k_ => some k_ ≠ (.slice Ao40 t144.length co40 : Value).ownBlock)) (Kd.rup HO_3.out) hg hat)).2.2) KM41.out KL41.out ((Kd.R_reads' (Kd.R_after (ok := (fun k_ => some k_ ≠ (.slice Ao40 t144.length co40 : Value).ownBlock)) (Kd.rup HO_3.out) hg hat)).2.1))); have n5_ := Aside0.mk (ho); clear HO_3; clear BK128; clear HO146; clear HB; clear HR153; clear HO149; have HO_3 := n0_; have BK128 := n1_; have HO146 := n2_; have HB := n3_; have HR153 := n4_; have HO156 := n5_; clear n0_ n1_ n2_ n3_ n4_ n5_; clear ho hb hg hat))
                   go_roundg k4
                   case measure => have := HK1.out; have := HK2.out; have := HK3.out; have := HK4.out; omega
                   case rel => exact ⟨(y154), (wrap64 (x7_4 + 60)), (by first | rfl | (simp; done) | (simp [*]; done)), H', ⟨by have := HK1.out; have := HK2.out; have := HK3.out; have := HK4.out; omega⟩, ⟨by exact Kd.rup (Kd.R_mono HO_3.out (fun _ hk => hk.2))⟩, ⟨by exact Kd.rup (Kd.R_mono HO156.out (fun _ hk => hk.1))⟩, ⟨by exact bup BK128.out⟩, ⟨by with_reducible repeat (first | exact HB.out | refine h4 ?_ GE128.out | apply h1 | apply h2 | apply h3)⟩⟩
                  ·rw [if_neg c36] at H
                   exact absurd H (by simp)
                 ·rw [if_neg c35] at H
                  exact absurd H (by simp)
                ·rw [if_neg c34] at H
                 exact absurd H (by simp)
               ·rw [if_neg c33] at H
                exact absurd H (by simp)
              ·rw [if_neg c32] at H
               exact absurd H (by simp)
             ·rw [if_neg c30] at H
              have c30b0 : decide (x7_4 < (x3_3.length : Int)) = false := decide_eq_false c30
              clear c30
              obtain rfl := Option.some.inj H
              go_wp2
              go_ret
              exact ⟨_, by first | rfl | (simp [errW_none, errW_some] <;> rfl) | (simp [*, errW_none, errW_some] <;> rfl), by exact Kd.rup (Kd.R_mono HO_6.out (fun _ hk => trivial)), by with_reducible repeat (first | exact HB.out | refine h4 ?_ GE128.out | apply h1 | apply h2 | apply h3)⟩

/-! ### spec_GetNum: function 53 -/
mutual
def spec_GetNum.j0 : Nat → List Int → Int → Int → Bool → Option (Int × Bool)
  | 0, _, _, _, _ => none
  | k + 1, x0, x1, x2, x34 => if x34 = true then (some (0, false)) else (spec_GetNum.l0 k x0 x1 0 (wrap64 (x2 - 1)))
def spec_GetNum.l0 : Nat → List Int → Int → Int → Int → Option (Int × Bool)
  | 0, _, _, _, _ => none
  | k + 1, x0, x1, x8, x9 => if x9 ≥ 0 then (if 0 ≤ (wrap64 (x1 + x9)) then (if (wrap64 (x1 + x9)) < (x0.length : Int) then (if x9 = 7 then (if (wrap64 (rd x0 (wrap64 (x1 + x9)))) > 127 then (some (0, false)) else (spec_GetNum.l0 k x0 x1 (wrap64 ((wrap64 (x8 * 256)) + (wrap64 (rd x0 (wrap64 (x1 + x9)))))) (wrap64 (x9 - 1)))) else (spec_GetNum.l0 k x0 x1 (wrap64 ((wrap64 (x8 * 256)) + (wrap64 (rd x0 (wrap64 (x1 + x9)))))) (wrap64 (x9 - 1)))) else (none)) else (none)) else (some (x8, true))
end
def spec_GetNum.f (k : Nat) (l0 : List Int) (a1 : Int) (a2 : Int) : Option (Int × Bool) := if a2 < 1 then (spec_GetNum.j0 k l0 a1 a2 true) else (if a2 > 8 then (spec_GetNum.j0 k l0 a1 a2 true) else (if a1 < 0 then (spec_GetNum.j0 k l0 a1 a2 true) else (if a1 > (l0.length : Int) then (spec_GetNum.j0 k l0 a1 a2 true) else (spec_GetNum.j0 k l0 a1 a2 (decide (a2 > (wrap64 ((l0.length : Int) - a1))))))))
theorem spec_GetNum.mono_l : ∀ k, (∀ y0 y1 y2 y3, LeO (spec_GetNum.j0 k y0 y1 y2 y3) (spec_GetNum.j0 (k + 1) y0 y1 y2 y3)) ∧ (∀ y0 y1 y2 y3, LeO (spec_GetNum.l0 k y0 y1 y2 y3) (spec_GetNum.l0 (k + 1) y0 y1 y2 y3))
  | 0 => ⟨fun _ _ _ _ r h => by simp [spec_GetNum.j0] at h, fun _ _ _ _ r h => by simp [spec_GetNum.l0] at h⟩
  | k + 1 => by
    obtain ⟨ih0, ih1⟩ := spec_GetNum.mono_l k
    refine ⟨?_, ?_⟩
    · intro y0 y1 y2 y3
      unfold spec_GetNum.j0
      repeat' with_reducible first | exact ih0 _ _ _ _ | exact ih1 _ _ _ _ | exact LeO.refl _ | exact LeO.none _ | refine LeO.ite ?_ ?_ | refine LeO.bind ?_ (fun _ => ?_)
    · intro y0 y1 y2 y3
      unfold spec_GetNum.l0
      repeat' with_reducible first | exact ih0 _ _ _ _ | exact ih1 _ _ _ _ | exact LeO.refl _ | exact LeO.none _ | refine LeO.ite ?_ ?_ | refine LeO.bind ?_ (fun _ => ?_)
theorem spec_GetNum.mono : ∀ a0 a1 a2 k, LeO (spec_GetNum.f k a0 a1 a2) (spec_GetNum.f (k + 1) a0 a1 a2) := by
  intro a0 a1 a2 k
  obtain ⟨ih0, ih1⟩ := spec_GetNum.mono_l k
  unfold spec_GetNum.f
  repeat' with_reducible first | exact ih0 _ _ _ _ | exact ih1 _ _ _ _ | exact LeO.refl _ | exact LeO.none _ | refine LeO.ite ?_ ?_ | refine LeO.bind ?_ (fun _ => ?_)
set_option maxHeartbeats 8000000 in
set_option maxRecDepth 100000 in
theorem spec_GetNum.calls (k : Nat) (A0 : Option Addr) (c0 : Nat) (l0 : List Int) (a1 : Int) (a2 : Int) (r1 : Int) (r2 : Bool) (w : World) (hr0 : Kd.C (Kd.int .u8) w A0 l0.length l0) (hc0 : l0.length ≤ c0) (h : spec_GetNum.f k l0 a1 a2 = some (r1, r2)) :
    Calls Try.prog 53 #[.slice A0 l0.length c0, .int .i64 a1, .int .i64 a2] w fun e w' => e = .returned (.tuple #[.int .i64 r1, .bool r2]) ∧ Drawn0 w w' := by
  have HR0 := Aside0.mk hr0
  have HC0 := Aside0.mk hc0
  clear hr0 hc0
  have H : (if a2 < 1 then (spec_GetNum.j0 k l0 a1 a2 true) else (if a2 > 8 then (spec_GetNum.j0 k l0 a1 a2 true) else (if a1 < 0 then (spec_GetNum.j0 k l0 a1 a2 true) else (if a1 > (l0.length : Int) then (spec_GetNum.j0 k l0 a1 a2 true) else (spec_GetNum.j0 k l0 a1 a2 (decide (a2 > (wrap64 ((l0.length : Int) - a1))))))))) = some (r1, r2) := h
  clear h
  have HC4 := Aside0.mk H
  clear H
  go_enter Try.func53, Try.ntmps53
  go_upto_region 1 with (fail)
  go_cut [34] (fun v34 wc => ∃ (kq : Nat) (x34_3 : Bool), v34 = .bool x34_3 ∧ Aside0 (spec_GetNum.j0 kq l0 a1 a2 x34_3 = some (r1, r2)) ∧ Aside0 (kq ≤ k) ∧ Drawn0 w wc)
  case first =>
    have H := HC4.out
    clear HC4
    by_cases c5 : a2 < 1
    · rw [if_pos c5] at H
      have c5b0 : decide (a2 < 1) = true := decide_eq_true c5
      clear c5
      (first | rw [c5b0] | (simp only [i64_w, i32_w]; rw [c5b0]) | skip)
      have H' := Aside0.mk H
      clear H
      go_wp2
      go_meet
      case rel => exact ⟨_, (true), (by first | rfl | (simp; done) | (simp [*]; done)), H', ⟨by first | omega | exact Nat.le_refl _⟩, by repeat (first | exact Drawn0.refl _ | apply Drawn0.step)⟩
    · rw [if_neg c5] at H
      have c5b0 : decide (a2 < 1) = false := decide_eq_false c5
      clear c5
      (first | rw [c5b0] | (simp only [i64_w, i32_w]; rw [c5b0]) | skip)
      by_cases c6 : a2 > 8
      · rw [if_pos c6] at H
        have c6b0 : decide (8 < a2) = true := decide_eq_true c6
        clear c6
        have H' := Aside0.mk H
        clear H
        go_wp2
        go_meet
        case rel => exact ⟨_, (true), (by first | rfl | (simp; done) | (simp [*]; done)), H', ⟨by first | omega | exact Nat.le_refl _⟩, by repeat (first | exact Drawn0.refl _ | apply Drawn0.step)⟩
      · rw [if_neg c6] at H
        have c6b0 : decide (8 < a2) = false := decide_eq_false c6
        clear c6
        by_cases c7 : a1 < 0
        · rw [if_pos c7] at H
          have c7b0 : decide (a1 < 0) = true := decide_eq_true c7
          clear c7
          have H' := Aside0.mk H
          clear H
          go_wp2
          go_meet
          case rel => exact ⟨_, (true), (by first | rfl | (simp; done) | (simp [*]; done)), H', ⟨by first | omega | exact Nat.le_refl _⟩, by repeat (first | exact Drawn0.refl _ | apply Drawn0.step)⟩
        · rw [if_neg c7] at H
          have c7b0 : decide (a1 < 0) = false := decide_eq_false c7
          clear c7
          by_cases c8 : a1 > (l0.length : Int)
          · rw [if_pos c8] at H
            have c8b0 : decide ((l0.length : Int) < a1) = true := decide_eq_true c8
            clear c8
            have H' := Aside0.mk H
            clear H
            go_wp2
            go_meet
            case rel => exact ⟨_, (true), (by first | rfl | (simp; done) | (simp [*]; done)), H', ⟨by first | omega | exact Nat.le_refl _⟩, by repeat (first | exact Drawn0.refl _ | apply Drawn0.step)⟩
          · rw [if_neg c8] at H
            have c8b0 : decide ((l0.length : Int) < a1) = false := decide_eq_false c8
            clear c8
            have H' := Aside0.mk H
            clear H
            go_wp2
            go_meet
            case rel => exact ⟨_, (decide (a2 > (wrap64 ((l0.length : Int) - a1)))), (by first | rfl | (simp; done) | (simp [*]; done)), H', ⟨by first | omega | exact Nat.le_refl _⟩, by repeat (first | exact Drawn0.refl _ | apply Drawn0.step)⟩
  case rest =>
    clear HC4
    try clear p2
    try clear c5
    try clear c5b0
    try clear c6
    try clear c6b0
    try clear p6
    try clear c7
    try clear c7b0
    try clear c8
    try clear c8b0
    obtain ⟨kq, x34_3, rfl, HA, HJ3, ⟨mc3, rfl⟩⟩ := hcut
    cases kq with
    | zero => exact absurd HA.out (by simp [spec_GetNum.j0])
    | succ kj3 =>
      have H := HA.out
      clear HA
      simp only [spec_GetNum.j0] at H
      by_cases c9 : x34_3 = true
      · subst c9
        have H1 : (some (0, false)) = some (r1, r2) := by rw [if_pos rfl] at H; exact H
        clear H
        have H := H1
        clear H1
        simp only [Option.some.injEq, Prod.mk.injEq] at H
        obtain ⟨rfl, rfl⟩ := H
        go_wp2
        go_ret2
        exact ⟨by first | rfl | (simp; done) | (simp [*]; done), by repeat (first | exact Drawn0.refl _ | apply Drawn0.step)⟩
      · replace c9 := Bool.eq_false_iff.mpr c9
        subst c9
        have H1 : (spec_GetNum.l0 kj3 l0 a1 0 (wrap64 (a2 - 1))) = some (r1, r2) := by rw [if_neg (show ¬ (false = true) by decide)] at H; exact H
        clear H
        have H := H1
        clear H1
        have H' := Aside0.mk H
        clear H
        go_wp2
        go_loopg [8, 9] kj3 (fun kq v8 v9 w' => ∃ (x8_2 : Int) (x9_2 : Int), v8 = .int .i64 x8_2 ∧ v9 = .int .i64 x9_2 ∧ Aside0 (spec_GetNum.l0 kq l0 a1 x8_2 x9_2 = some (r1, r2)) ∧ Aside0 (kq ≤ kj3) ∧ Drawn0 w w')
        case atStart => exact ⟨(0), (wrap64 (a2 - 1)), (by first | rfl | (simp; done) | (simp [*]; done)), (by first | rfl | (simp; done) | (simp [*]; done)), H', ⟨Nat.le_refl _⟩, by repeat (first | exact Drawn0.refl _ | apply Drawn0.step)⟩
        case round =>
          clear H'
          try clear p2
          try clear c3
          try clear c5
          try clear c5b0
          try clear c6
          try clear c6b0
          try clear p6
          try clear c7
          try clear c7b0
          try clear c8
          try clear c8b0
          try clear c9
          try clear p2
          try clear p6
          obtain ⟨x8_2, x9_2, rfl, rfl, HA, HK2, ⟨m2, rfl⟩⟩ := hrel
          cases gk with
          | zero => exact absurd HA.out (by simp [spec_GetNum.l0])
          | succ k2 =>
            have H := HA.out
            clear HA
            simp only [spec_GetNum.l0] at H
            by_cases c10 : x9_2 ≥ 0
            · rw [if_pos c10] at H
              have c10b0 : decide (0 ≤ x9_2) = true := decide_eq_true c10
              clear c10
              obtain ⟨ji11, hji11⟩ : ∃ j_ : Int, (wrap64 (a1 + x9_2)) = j_ := ⟨_, rfl⟩
              replace H : (if 0 ≤ (ji11) then (if (ji11) < (l0.length : Int) then (if x9_2 = 7 then (if (wrap64 (rd l0 (ji11))) > 127 then (some (0, false)) else (spec_GetNum.l0 k2 l0 a1 (wrap64 ((wrap64 (x8_2 * 256)) + (wrap64 (rd l0 (ji11))))) (wrap64 (x9_2 - 1)))) else (spec_GetNum.l0 k2 l0 a1 (wrap64 ((wrap64 (x8_2 * 256)) + (wrap64 (rd l0 (ji11))))) (wrap64 (x9_2 - 1)))) else (none)) else (none)) = some (r1, r2) := by first | (rw [hji11] at H; exact H) | (simp only [hji11] at H ⊢; exact H)
              have hji11w : (IntKind.i64.wrap (a1 + x9_2)) = ji11 := (i64_w _).trans hji11
              by_cases c12 : 0 ≤ (ji11)
              · rw [if_pos c12] at H
                have c12b0 : decide (0 ≤ (ji11)) = true := decide_eq_true c12
                clear c12
                by_cases c13 : (ji11) < (l0.length : Int)
                · rw [if_pos c13] at H
                  have c13b0 : decide ((ji11) < (l0.length : Int)) = true := decide_eq_true c13
                  clear c13
                  by_cases c14 : x9_2 = 7
                  · rw [if_pos c14] at H
                    have c14b0 : (x9_2 == 7) = true := beq_iff_eq.mpr c14
                    have c14b1 : (x9_2 != 7) = false := bne_eq_false_iff_eq.mpr c14
                    clear c14
                    by_cases c15 : (wrap64 (rd l0 (ji11))) > 127
                    · rw [if_pos c15] at H
                      have c15b0 : decide (127 < (wrap64 (rd l0 (ji11)))) = true := decide_eq_true c15
                      clear c15
                      simp only [Option.some.injEq, Prod.mk.injEq] at H
                      obtain ⟨rfl, rfl⟩ := H
                      have p157 : 0 ≤ ((ji11) : Int) := of_decide_eq_true (by first | (with_reducible assumption) | assumption)
                      have q157 : (ji11) < (l0.length : Int) := of_decide_eq_true (by first | (with_reducible assumption) | assumption)
                      obtain ⟨ad157, e157, hx157_0⟩ := Kd.at_int HR0.out (ji11) p157 q157
                      cases e157
                      replace p157 := eq_true p157
                      replace q157 := eq_true q157
                      go_wp2
                      go_ret2
                      exact ⟨by first | rfl | (simp; done) | (simp only [← hji11] <;> (first | rfl | simp)) | (simp [*]; done), by repeat (first | exact Drawn0.refl _ | apply Drawn0.step)⟩
                    · rw [if_neg c15] at H
                      have c15b0 : decide (127 < (wrap64 (rd l0 (ji11)))) = false := decide_eq_false c15
                      clear c15
                      have H' := Aside0.mk H
                      clear H
                      have p157 : 0 ≤ ((ji11) : Int) := of_decide_eq_true (by first | (with_reducible assumption) | assumption)
                      have q157 : (ji11) < (l0.length : Int) := of_decide_eq_true (by first | (with_reducible assumption) | assumption)
                      obtain ⟨ad157, e157, hx157_0⟩ := Kd.at_int HR0.out (ji11) p157 q157
                      cases e157
                      replace p157 := eq_true p157
                      replace q157 := eq_true q157
                      go_wp2
                      go_roundg k2
                      case measure => have := HJ3.out; have := HK2.out; omega
                      case rel => exact ⟨(wrap64 ((wrap64 (x8_2 * 256)) + (wrap64 (rd l0 (ji11))))), (wrap64 (x9_2 - 1)), (by first | rfl | (simp; done) | (simp only [← hji11] <;> (first | rfl | simp)) | (simp [*]; done)), (by first | rfl | (simp; done) | (simp [*]; done)), H', ⟨by have := HJ3.out; have := HK2.out; omega⟩, by repeat (first | exact Drawn0.refl _ | apply Drawn0.step)⟩
                  · rw [if_neg c14] at H
                    have c14b0 : (x9_2 == 7) = false := beq_eq_false_iff_ne.mpr c14
                    have c14b1 : (x9_2 != 7) = true := bne_iff_ne.mpr c14
                    have H' := Aside0.mk H
                    clear H
                    have p157 : 0 ≤ ((ji11) : Int) := of_decide_eq_true (by first | (with_reducible assumption) | assumption)
                    have q157 : (ji11) < (l0.length : Int) := of_decide_eq_true (by first | (with_reducible assumption) | assumption)
                    obtain ⟨ad157, e157, hx157_0⟩ := Kd.at_int HR0.out (ji11) p157 q157
                    cases e157
                    replace p157 := eq_true p157
                    replace q157 := eq_true q157
                    go_wp2
                    go_roundg k2
                    case measure => have := HJ3.out; have := HK2.out; omega
                    case rel => exact ⟨(wrap64 ((wrap64 (x8_2 * 256)) + (wrap64 (rd l0 (ji11))))), (wrap64 (x9_2 - 1)), (by first | rfl | (simp; done) | (simp only [← hji11] <;> (first | rfl | simp)) | (simp [*]; done)), (by first | rfl | (simp; done) | (simp [*]; done)), H', ⟨by have := HJ3.out; have := HK2.out; omega⟩, by repeat (first | exact Drawn0.refl _ | apply Drawn0.step)⟩
                · rw [if_neg c13] at H
                  exact absurd H (by simp)
              · rw [if_neg c12] at H
                exact absurd H (by simp)
            · rw [if_neg c10] at H
              have c10b0 : decide (0 ≤ x9_2) = false := decide_eq_false c10
              clear c10
              simp only [Option.some.injEq, Prod.mk.injEq] at H
              obtain ⟨rfl, rfl⟩ := H
              go_wp2
              go_ret2
              exact ⟨by first | rfl | (simp; done) | (simp [*]; done), by repeat (first | exact Drawn0.refl _ | apply Drawn0.step)⟩

end Go.Proofs.Ytokpniagnbaflaa.PFnExactPageRead
