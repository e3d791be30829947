-- By this session's own program (wip/xprint.py), over the kit's print.
import Derived.Test.YtokpniagnbaflaaPFnExactPageReadx0
import Derived.Test.YtokpniagnbaflaaPFnExactPageReadx5
namespace Go.Proofs.Ytokpniagnbaflaa.PFnExactPageRead
open Go.RowKit Go.Proofs.YtokpniagnbaflaaW.PrintWords Go.Proofs.YtokpniagnbaflaaW.PrintLast Go.Proofs.YtokpniagnbaflaaW.PrintMore
attribute [local go_sem] max2_int min2_int max_two min_two max_three min_three max_four min_four   -- for this text's walks alone
attribute [local go_sem high] fl_eql fl_neq fl_lss fl_leq fl_gtr fl_geq fl_add fl_sub fl_mul fl_quo fl_neg fl_ofInt fl_toInt fl_store sub_sign fl_nan_quo fl_nan_add fl_nan_mul fl_nan_sub
open Go.Proofs.YtokpniagnbaflaaW.PrintWords renaming below_alloc → h1, pw_below_drewN → h2, below_drew1 → h3, below_set → h4, blk_drewN → b1, blk_drew → b2, blk_alloc → b3
set_option linter.unusedVariables false
set_option linter.unusedSimpArgs false

/-! ### impl_PageBytes: function 28 -/
mutual
def impl_PageBytes.l0 : Nat → List Int → List (List Int) → Int → Int → Int → List (List Int) → Option (List Int)
 | 0, _, _, _, _, _, _ => none
 | k + 1, x3, x19, x20, x21, x193000, x193001 => if x21 < x20 then (if 0 ≤ x21 then (if x21 < (x19.length : Int) then (if x3.length < 140737488355328 then (impl_PageBytes.l0 k (x3 ++ [(((rd_L1 x19 x21).length : Int)) % 256]) x19 x20 (wrap64 (x21 + 1)) x193000 x193001) else (none)) else (none)) else (none)) else (impl_PageBytes.l1 k x3 x193001 (x193001.length : Int) 0 x193000 x193001)
def impl_PageBytes.l1 : Nat → List Int → List (List Int) → Int → Int → Int → List (List Int) → Option (List Int)
 | 0, _, _, _, _, _, _ => none
 | k + 1, x3, x33, x34, x35, x193000, x193001 => if x35 < x34 then (if 0 ≤ x35 then (if x35 < (x33.length : Int) then (if x3.length + (rd_L1 x33 x35).length < 140737488355328 then (impl_PageBytes.l1 k (x3 ++ (rd_L1 x33 x35)) x33 x34 (wrap64 (x35 + 1)) x193000 x193001) else (none)) else (none)) else (none)) else (if 0 ≤ (wrap64 (240 - (x3.length : Int))) then (if x3.length + (wrap64 (240 - (x3.length : Int)) : Int).toNat < 140737488355328 then ((some (x3 ++ List.replicate (wrap64 (240 - (x3.length : Int)) : Int).toNat 0 : List Int)).bind fun y205 => ((impl_PutNum.f k x193000 4).bind fun t208 => (if 4 * t208.length + y205.length < 140737488355328 then (some (parts 60 t208 y205 fours)) else (none)))) else (none)) else (none))
end
def impl_PageBytes.f (k : Nat) (a0_0 : Int) (l0_1 : List (List Int)) : Option (List Int) := (impl_PageUsed.f k a0_0 l0_1).bind fun t193 => (if t193 < 0 then (some ([] : List Int)) else (impl_PageBytes.l0 k (([((l0_1.length : Int)) % 256] : List Int)) l0_1 (l0_1.length : Int) 0 a0_0 l0_1))
set_option maxRecDepth 100000 in
theorem impl_PageBytes.mono_l : ∀ k, (∀ y0 y1 y2 y3 y4 y5, LeO (impl_PageBytes.l0 k y0 y1 y2 y3 y4 y5) (impl_PageBytes.l0 (k + 1) y0 y1 y2 y3 y4 y5)) ∧ (∀ y0 y1 y2 y3 y4 y5, LeO (impl_PageBytes.l1 k y0 y1 y2 y3 y4 y5) (impl_PageBytes.l1 (k + 1) y0 y1 y2 y3 y4 y5))
 | 0 => ⟨fun _ _ _ _ _ _ r h => (by unfold impl_PageBytes.l0 at h; exact absurd h (by simp)), fun _ _ _ _ _ _ r h => (by unfold impl_PageBytes.l1 at h; exact absurd h (by simp))⟩
 | k + 1 => by
  obtain ⟨ih0, ih1⟩ := impl_PageBytes.mono_l k
  refine ⟨?_, ?_⟩
  ·intro y0 y1 y2 y3 y4 y5
   unfold impl_PageBytes.l0
   repeat' with_reducible first | exact ih0 _ _ _ _ _ _ | exact ih1 _ _ _ _ _ _ | exact impl_PageUsed.mono _ _ _ | exact impl_PutNum.mono _ _ _ | exact LeO.refl _ | exact LeO.none _ | refine LeO.ite ?_ ?_ | refine LeO.bind ?_ (fun _ => ?_)
  ·intro y0 y1 y2 y3 y4 y5
   unfold impl_PageBytes.l1
   repeat' with_reducible first | exact ih0 _ _ _ _ _ _ | exact ih1 _ _ _ _ _ _ | exact impl_PageUsed.mono _ _ _ | exact impl_PutNum.mono _ _ _ | exact LeO.refl _ | exact LeO.none _ | refine LeO.ite ?_ ?_ | refine LeO.bind ?_ (fun _ => ?_)
set_option maxRecDepth 100000 in
theorem impl_PageBytes.mono : ∀ a0 a1 k, LeO (impl_PageBytes.f k a0 a1) (impl_PageBytes.f (k + 1) a0 a1) := by
 intro a0 a1 k
 obtain ⟨ih0, ih1⟩ := impl_PageBytes.mono_l k
 unfold impl_PageBytes.f
 repeat' with_reducible first | exact ih0 _ _ _ _ _ _ | exact ih1 _ _ _ _ _ _ | exact impl_PageUsed.mono _ _ _ | exact impl_PutNum.mono _ _ _ | exact LeO.refl _ | exact LeO.none _ | refine LeO.ite ?_ ?_ | refine LeO.bind ?_ (fun _ => ?_)
section
attribute [local go_sem] Oper.semAt_some
set_option maxHeartbeats 8000000 in
set_option maxRecDepth 100000 in
theorem impl_PageBytes.calls (k : Nat) (a0_0 : Int) (A0_1 : Option Addr) (c0_1 : Nat) (l0_1 : List (List Int)) (r : List Int) (w : World) (hr0_1 : Kd.C (Kd.slice 5 (Kd.int .u8)) w A0_1 l0_1.length l0_1) (hc0_1 : l0_1.length ≤ c0_1) (h : impl_PageBytes.f k a0_0 l0_1 = some r) :
  Calls Try.prog 28 #[.agg #[.int .i64 a0_0, .slice A0_1 l0_1.length c0_1]] w fun e w' => ∃ v0_ : Value, e = .returned (v0_) ∧ Kd.R (Kd.int .u8) 5 w' w.heap.size (fun _ => True) v0_ r ∧ Below w.heap.size w w' := by
 have hu27 := Try.underlying27
 have HR0_1 := Aside0.mk hr0_1
 have HC0_1 := Aside0.mk hc0_1
 clear hr0_1 hc0_1
 have HB := Aside0.mk (Below.refl w.heap.size w)
 have H : ((impl_PageUsed.f k a0_0 l0_1).bind fun t193 => (if t193 < 0 then (some ([] : List Int)) else (impl_PageBytes.l0 k (([((l0_1.length : Int)) % 256] : List Int)) l0_1 (l0_1.length : Int) 0 a0_0 l0_1))) = some r := h
 clear h
 replace H := Option.bind_eq_some_iff.mp H
 obtain ⟨t193, A20, H⟩ := H
 replace H : (if t193 < 0 then (some ([] : List Int)) else (impl_PageBytes.l0 k (([((l0_1.length : Int)) % 256] : List Int)) l0_1 (l0_1.length : Int) 0 a0_0 l0_1)) = some r := H
 have A2 := Aside0.mk A20
 clear A20
 by_cases c3 : t193 < 0
 ·rw [if_pos c3] at H
  have c3b0 : decide (t193 < 0) = true := decide_eq_true c3
  clear c3
  obtain rfl := Option.some.inj H
  refine calls_of_wp_marks Try.func28 rfl ?_; simp only [Try.ntmps28, List.size_toArray, List.length_cons, List.length_nil, Nat.reduceAdd, Nat.reduceSub, Array.replicate_succ, Array.replicate_zero, List.push_toArray, List.append_toArray, List.nil_append, List.cons_append]
  go_wp2_with (first | ((with_reducible refine gate_dst (N := 1) rfl ?_); refine box_event ?hg (N := 1) ?hd (cs := #[.int .i64 a0_0, .slice A0_1 l0_1.length c0_1]) (t := 27) ?hr ?_; (case hd => rfl); (case hg => rfl); (case hr => first | (go_simp; done) | (go_simp; rfl)); intro gb192 hg w4 hbox hb; have n0_ := Aside0.mk (below_step (hup HB.out) hb); have n1_ := Aside0.mk (hbox); have n2_ := Aside0.mk ((by rw [hg]; exact (below_size (hup HB.out)) : w.heap.size ≤ gb192)); have n3_ := Aside0.mk ((by rw [hg]; exact (below_size (hup HB.out)) : w.heap.size ≤ gb192)); clear HB; have HB := n0_; have BK192 := n1_; have GW192 := n2_; have GE192 := n3_; clear n0_ n1_ n2_ n3_; clear hb hbox hg; obtain ⟨hcz5_0, hcz5_1⟩ := blk_cells2 BK192.out; obtain ⟨hfz5_0, hfz5_1⟩ := blk_frozens2 BK192.out) | ((with_reducible refine gate_callee (f := 14) rfl ?_); refine goesL_ (some 11) rfl rfl Try.func14 (by kernel_rfl) rfl #[.agg #[.int .i64 a0_0, .slice A0_1 l0_1.length c0_1]] rfl (by (try simp only [List.map_toArray, List.map_cons, List.map_nil]); first | done | rfl) ?_; (with_reducible refine (impl_PageUsed.calls k a0_0 _ _ l0_1 t193 _ ?side1 ?side2 A2.out).mono ?_); (case side1 => repeat (first | exact (Kd.C_below HR0_1.out HB.out) | (with_reducible refine Kd.C_alloc ?_ _) | (with_reducible refine Kd.C_drewN ?_ _) | (with_reducible refine Kd.C_drew ?_))); (case side2 => exact HC0_1.out); rintro e w6 ⟨rfl, hb⟩; refine ⟨_, rfl, ?_⟩; have n0_ := Aside0.mk (blk_below (g := gb192) (o := .cells #[.int .i64 a0_0, .slice A0_1 l0_1.length c0_1] 27 (0, 0)) (bup BK192.out) hb); have n1_ := Aside0.mk (below_step (by with_reducible repeat (first | exact HB.out | refine h4 ?_ GE192.out | apply h1 | apply h2 | apply h3)) hb); clear BK192; clear HB; have BK192 := n0_; have HB := n1_; clear n0_ n1_; (try clear hb); (try clear hb2); (try clear hk); (try clear hi)))
  (try simp only [Exit.inBlock, Exit.then]); refine bodyPostM_ret (results_tmp rfl _ _ _) rfl ?_
  exact ⟨_, by first | rfl | (simp [errW_none, errW_some] <;> rfl) | (simp [*, errW_none, errW_some] <;> rfl), by first | exact Kd.R_nil _ _ _ _ _ | exact Kd.N_nil _ _ _ _ _ | exact Kd.V_nil _ _ _ _ _ | exact Kd.Q_nil _ _ _ _ _ | exact Kd.S_nil _ _ _ _ _, by with_reducible repeat (first | exact HB.out | refine h4 ?_ GE192.out | apply h1 | apply h2 | apply h3)⟩
 ·rw [if_neg c3] at H
  have c3b0 : decide (t193 < 0) = false := decide_eq_false c3
  clear c3
  obtain ⟨y194, hy194⟩ : ∃ y_ : List Int, y_ = (([((l0_1.length : Int)) % 256] : List Int)) := ⟨_, rfl⟩
  replace H : (impl_PageBytes.l0 k y194 l0_1 (l0_1.length : Int) 0 a0_0 l0_1) = some r := by first | (rw [hy194]; with_reducible exact H) | (have H2_ := (Option.bind_some _ _).symm.trans H; rw [hy194]; with_reducible exact H2_) | (have H2_ := (Option.bind_some _ _).symm.trans H; with_reducible exact H2_) | with_reducible exact H | (rw [hy194]; exact H) | exact H
  have Ny194 := Aside0.mk hy194
  clear hy194
  have H' := Aside0.mk H
  clear H
  refine calls_of_wp_marks Try.func28 rfl ?_; simp only [Try.ntmps28, List.size_toArray, List.length_cons, List.length_nil, Nat.reduceAdd, Nat.reduceSub, Array.replicate_succ, Array.replicate_zero, List.push_toArray, List.append_toArray, List.nil_append, List.cons_append]
  go_wp2_with (first | ((with_reducible refine gate_dst (N := 1) rfl ?_); refine box_event ?hg (N := 1) ?hd (cs := #[.int .i64 a0_0, .slice A0_1 l0_1.length c0_1]) (t := 27) ?hr ?_; (case hd => rfl); (case hg => rfl); (case hr => first | (go_simp; done) | (go_simp; rfl)); intro gb192 hg w7 hbox hb; have n0_ := Aside0.mk (below_step (hup HB.out) hb); have n1_ := Aside0.mk (hbox); have n2_ := Aside0.mk ((by rw [hg]; exact (below_size (hup HB.out)) : w.heap.size ≤ gb192)); have n3_ := Aside0.mk ((by rw [hg]; exact (below_size (hup HB.out)) : w.heap.size ≤ gb192)); clear HB; have HB := n0_; have BK192 := n1_; have GW192 := n2_; have GE192 := n3_; clear n0_ n1_ n2_ n3_; clear hb hbox hg; obtain ⟨hcz8_0, hcz8_1⟩ := blk_cells2 BK192.out; obtain ⟨hfz8_0, hfz8_1⟩ := blk_frozens2 BK192.out) | ((with_reducible refine gate_callee (f := 14) rfl ?_); refine goesL_ (some 11) rfl rfl Try.func14 (by kernel_rfl) rfl #[.agg #[.int .i64 a0_0, .slice A0_1 l0_1.length c0_1]] rfl (by (try simp only [List.map_toArray, List.map_cons, List.map_nil]); first | done | rfl) ?_; (with_reducible refine (impl_PageUsed.calls k a0_0 _ _ l0_1 t193 _ ?side1 ?side2 A2.out).mono ?_); (case side1 => repeat (first | exact (Kd.C_below HR0_1.out HB.out) | (with_reducible refine Kd.C_alloc ?_ _) | (with_reducible refine Kd.C_drewN ?_ _) | (with_reducible refine Kd.C_drew ?_))); (case side2 => exact HC0_1.out); rintro e w9 ⟨rfl, hb⟩; refine ⟨_, rfl, ?_⟩; have n0_ := Aside0.mk (blk_below (g := gb192) (o := .cells #[.int .i64 a0_0, .slice A0_1 l0_1.length c0_1] 27 (0, 0)) (bup BK192.out) hb); have n1_ := Aside0.mk (below_step (by with_reducible repeat (first | exact HB.out | refine h4 ?_ GE192.out | apply h1 | apply h2 | apply h3)) hb); clear BK192; clear HB; have BK192 := n0_; have HB := n1_; clear n0_ n1_; (try clear hb); (try clear hb2); (try clear hk); (try clear hi); obtain ⟨hcz10_0, hcz10_1⟩ := blk_cells2 BK192.out; obtain ⟨hfz10_0, hfz10_1⟩ := blk_frozens2 BK192.out) | ((with_reducible refine gate_dst (N := 17) rfl ?_); refine Kd.R_lit (Kd.int .u8) _ 5 ?hg (N := 17) ?hd (xs := ([((l0_1.length : Int)) % 256] : List Int)) (inner := [.int .u8 (((l0_1.length : Int)) % 256)]) (ok := fun _ => True) (okp := fun _ => True) ?hr ?hp (fun _ hk => hk) trivial (Below.refl _ _) (Nat.le_refl _) (by simp) ?_; (case hd => rfl); (case hg => rfl); (case hr => first | (go_simp; done) | (go_simp; rfl)); (case hp => exact (Reps.one (show Kd.M (Kd.int .u8) _ _ _ (((l0_1.length : Int)) % 256) [.int .u8 (((l0_1.length : Int)) % 256)] from rfl) (Reps.none _ _))); intro v195 w11 ho12 hb hg_ hnew_; clear hg_ hnew_; (first | rw [← Ny194.out] at ho12 | (simp only [Int.reduceToNat] at ho12; rw [← Ny194.out] at ho12)); have n0_ := Aside0.mk (Kd.R_lower ho12 (below_size (by with_reducible repeat (first | exact HB.out | refine h4 ?_ GE192.out | apply h1 | apply h2 | apply h3)))); have n1_ := Aside0.mk (blk_below (g := gb192) (o := .cells #[.int .i64 a0_0, .slice A0_1 l0_1.length c0_1] 27 (0, 0)) (bup BK192.out) hb); have n2_ := Aside0.mk (below_step (by with_reducible repeat (first | exact HB.out | refine h4 ?_ GE192.out | apply h1 | apply h2 | apply h3)) hb); clear BK192; clear HB; have HO196 := n0_; have BK192 := n1_; have HB := n2_; clear n0_ n1_ n2_; clear hb ho12; obtain ⟨hcz13_0, hcz13_1⟩ := blk_cells2 BK192.out; obtain ⟨hfz13_0, hfz13_1⟩ := blk_frozens2 BK192.out))
  go_loopg [3, 21] k (fun kq v3 v21 w' => ∃ (x3_1 : List Int) (x21_1 : Int), v21 = .int .i64 x21_1 ∧ Aside0 (impl_PageBytes.l0 kq x3_1 l0_1 (l0_1.length : Int) x21_1 a0_0 l0_1 = some r) ∧ Aside0 (kq ≤ k) ∧ Aside0 (Kd.R (Kd.int .u8) 5 w' w.heap.size (fun _ => True) v3 x3_1) ∧ Aside0 (w'.heap[gb192]? = some (.cells #[.int .i64 a0_0, (.slice A0_1 l0_1.length c0_1)] 27 (0, 0))) ∧ Aside0 (Below w.heap.size w w'))
  case atStart => exact ⟨(y194), (0), (by first | rfl | (simp; done) | (simp [*]; done)), H', ⟨Nat.le_refl _⟩, ⟨by exact Kd.rup HO196.out⟩, ⟨by exact bup BK192.out⟩, ⟨by with_reducible repeat (first | exact HB.out | refine h4 ?_ GE192.out | apply h1 | apply h2 | apply h3)⟩⟩
  case round =>
   clear H'
   try clear c1
   try clear c2
   try clear p2
   try clear c3
   try clear c3b0
   try clear hcz10_0
   try clear hcz10_1
   try clear hcz13_0
   try clear hcz13_1
   try clear hcz5_0
   try clear hcz5_1
   try clear hcz8_0
   try clear hcz8_1
   try clear hfz10_0
   try clear hfz10_1
   try clear hfz13_0
   try clear hfz13_1
   try clear hfz5_0
   try clear hfz5_1
   try clear hfz8_0
   try clear hfz8_1
   obtain ⟨x3_1, x21_1, rfl, HA, HK1, HO_3, BK192, HB⟩ := hrel
   cases gk with
   | zero => exact absurd HA.out (by unfold impl_PageBytes.l0; simp)
   | succ k1 =>
    have H := HA.out
    clear HA
    unfold impl_PageBytes.l0 at H; try dsimp only at H
    by_cases c14 : x21_1 < (l0_1.length : Int)
    ·rw [if_pos c14] at H
     have c14b0 : decide (x21_1 < (l0_1.length : Int)) = true := decide_eq_true c14
     clear c14
     by_cases c15 : 0 ≤ x21_1
     ·rw [if_pos c15] at H
      have c15b0 : decide (0 ≤ x21_1) = true := decide_eq_true c15
      clear c15
      by_cases c16 : x21_1 < (l0_1.length : Int)
      ·rw [if_pos c16] at H
       have c16b0 : decide (x21_1 < (l0_1.length : Int)) = true := decide_eq_true c16
       clear c16
       by_cases c17 : x3_1.length < 140737488355328
       ·rw [if_pos c17] at H
        have LMc17 := Aside0.mk c17
        clear c17
        obtain ⟨y198, hy198⟩ : ∃ y_ : List Int, y_ = (x3_1 ++ [(((rd_L1 l0_1 x21_1).length : Int)) % 256]) := ⟨_, rfl⟩
        replace H : (impl_PageBytes.l0 k1 y198 l0_1 (l0_1.length : Int) (wrap64 (x21_1 + 1)) a0_0 l0_1) = some r := by first | (rw [hy198]; with_reducible exact H) | (have H2_ := (Option.bind_some _ _).symm.trans H; rw [hy198]; with_reducible exact H2_) | (have H2_ := (Option.bind_some _ _).symm.trans H; with_reducible exact H2_) | with_reducible exact H | (rw [hy198]; exact H) | exact H
        have Ny198 := Aside0.mk hy198
        clear hy198
        have H' := Aside0.mk H
        clear H
        have p197 : 0 ≤ (x21_1 : Int) := of_decide_eq_true (by first | (with_reducible assumption) | assumption)
        have q197 : x21_1 < (l0_1.length : Int) := of_decide_eq_true (by first | (with_reducible assumption) | assumption)
        obtain ⟨ad197, A197_0, c197_0, e197, hx197_0, hl197_0, hi197_0⟩ := at_L1 HR0_1.out x21_1 p197 q197
        cases e197
        replace hx197_0 := (HB.out.cell (World.block_lt_of_cell? w _ hx197_0)).trans hx197_0
        have HR197_0 := Aside0.mk hi197_0
        have HC197_0 := Aside0.mk hl197_0
        clear hi197_0 hl197_0
        replace p197 := eq_true p197
        replace q197 := eq_true q197
        go_wp2_with (first | ((with_reducible refine gate_builtin (b := .append) (xs := #[.tmp 25, .tmp 29]) rfl ?_); at_builtin; refine Kd.R_append (Kd.int .u8) (w0 := w) w.heap.size rfl (.tmp 25) (.tmp 29) 36 5 (.int .u8 0) 1 rfl Try.underlying36 info5 rfl (by decide) (by omega) u3 x3_1 ((((rd_L1 l0_1 x21_1).length : Int)) % 256) [.int .u8 ((((rd_L1 l0_1 x21_1).length : Int)) % 256)] (fun _ => True) (fun _ => False) rfl rfl ?aP (fun _ hk => hk.elim) ?aF ?aO ?aB ?aS ?aL ?_; (case aP => exact rfl); (case aB => exact (by with_reducible repeat (first | exact HB.out | refine h4 ?_ GE192.out | apply h1 | apply h2 | apply h3))); (case aF => exact (fun _ _ => trivial)); (case aO => exact (Kd.rup HO_3.out)); (case aS => exact (below_size (by with_reducible repeat (first | exact HB.out | refine h4 ?_ GE192.out | apply h1 | apply h2 | apply h3)))); (case aL => have := LMc17.out; omega); intro v199 w18 ho hb hg hat; rw [← Ny198.out] at ho; have n0_ := Aside0.mk (blk_grown (g := gb192) (o := .cells #[.int .i64 a0_0, .slice (some ad197) l0_1.length c0_1] 27 (0, 0)) (bup BK192.out) hg (Kd.R_ne HO_3.out BK192.out (by decide))); have n1_ := Aside0.mk (hb); have n2_ := Aside0.mk (ho); clear BK192; clear HB; clear HO_3; have BK192 := n0_; have HB := n1_; have HO200 := n2_; clear n0_ n1_ n2_; clear ho hb hg hat))
        go_roundg k1
        case measure => have := HK1.out; omega
        case rel => exact ⟨(y198), (wrap64 (x21_1 + 1)), (by first | rfl | (simp; done) | (simp [*]; done)), H', ⟨by have := HK1.out; omega⟩, ⟨by exact Kd.rup HO200.out⟩, ⟨by exact bup BK192.out⟩, ⟨by with_reducible repeat (first | exact HB.out | refine h4 ?_ GE192.out | apply h1 | apply h2 | apply h3)⟩⟩
       ·rw [if_neg c17] at H
        exact absurd H (by simp)
      ·rw [if_neg c16] at H
       exact absurd H (by simp)
     ·rw [if_neg c15] at H
      exact absurd H (by simp)
    ·rw [if_neg c14] at H
     have c14b0 : decide (x21_1 < (l0_1.length : Int)) = false := decide_eq_false c14
     clear c14
     have H' := Aside0.mk H
     clear H
     obtain ⟨hcz19_0, hcz19_1⟩ := blk_cells2 BK192.out
     obtain ⟨hfz19_0, hfz19_1⟩ := blk_frozens2 BK192.out
     go_wp2
     go_loopg [3, 35] k1 (fun kq v3 v35 w' => ∃ (x3_2 : List Int) (x35_2 : Int), v35 = .int .i64 x35_2 ∧ Aside0 (impl_PageBytes.l1 kq x3_2 l0_1 (l0_1.length : Int) x35_2 a0_0 l0_1 = some r) ∧ Aside0 (kq ≤ k1) ∧ Aside0 (Kd.R (Kd.int .u8) 5 w' w.heap.size (fun _ => True) v3 x3_2) ∧ Aside0 (w'.heap[gb192]? = some (.cells #[.int .i64 a0_0, (.slice A0_1 l0_1.length c0_1)] 27 (0, 0))) ∧ Aside0 (Below w.heap.size w w'))
     case atStart => exact ⟨(x3_1), (0), (by first | rfl | (simp; done) | (simp [*]; done)), H', ⟨Nat.le_refl _⟩, ⟨by exact Kd.rup HO_3.out⟩, ⟨by exact bup BK192.out⟩, ⟨by with_reducible repeat (first | exact HB.out | refine h4 ?_ GE192.out | apply h1 | apply h2 | apply h3)⟩⟩
     case round =>
      clear H'
      try clear c1
      try clear p1
      try clear q1
      try clear hx1
      try clear c2
      try clear p2
      try clear c3
      try clear c3b0
      try clear p6
      try clear c14
      try clear c14b0
      try clear c15
      try clear c15b0
      try clear c16
      try clear c16b0
      try clear c17
      try clear c19
      try clear p19
      try clear q19
      try clear hx19
      try clear hcz10_0
      try clear hcz10_1
      try clear hcz13_0
      try clear hcz13_1
      try clear hcz19_0
      try clear hcz19_1
      try clear hcz5_0
      try clear hcz5_1
      try clear hcz8_0
      try clear hcz8_1
      try clear hfz10_0
      try clear hfz10_1
      try clear hfz13_0
      try clear hfz13_1
      try clear hfz19_0
      try clear hfz19_1
      try clear hfz5_0
      try clear hfz5_1
      try clear hfz8_0
      try clear hfz8_1
      try clear hx197_0
      try clear p197
      try clear p2
      try clear q197
      obtain ⟨x3_2, x35_2, rfl, HA, HK2, HO_3, BK192, HB⟩ := hrel
      cases gk with
      | zero => exact absurd HA.out (by unfold impl_PageBytes.l1; simp)
      | succ k2 =>
       have H := HA.out
       clear HA
       unfold impl_PageBytes.l1 at H; try dsimp only at H
       by_cases c20 : x35_2 < (l0_1.length : Int)
       ·rw [if_pos c20] at H
        have c20b0 : decide (x35_2 < (l0_1.length : Int)) = true := decide_eq_true c20
        clear c20
        by_cases c21 : 0 ≤ x35_2
        ·rw [if_pos c21] at H
         have c21b0 : decide (0 ≤ x35_2) = true := decide_eq_true c21
         clear c21
         by_cases c22 : x35_2 < (l0_1.length : Int)
         ·rw [if_pos c22] at H
          have c22b0 : decide (x35_2 < (l0_1.length : Int)) = true := decide_eq_true c22
          clear c22
          by_cases c23 : x3_2.length + (rd_L1 l0_1 x35_2).length < 140737488355328
          ·rw [if_pos c23] at H
           have LMc23 := Aside0.mk c23
           clear c23
           obtain ⟨y202, hy202⟩ : ∃ y_ : List Int, y_ = (x3_2 ++ (rd_L1 l0_1 x35_2)) := ⟨_, rfl⟩
           replace H : (impl_PageBytes.l1 k2 y202 l0_1 (l0_1.length : Int) (wrap64 (x35_2 + 1)) a0_0 l0_1) = some r := by first | (rw [hy202]; with_reducible exact H) | (have H2_ := (Option.bind_some _ _).symm.trans H; rw [hy202]; with_reducible exact H2_) | (have H2_ := (Option.bind_some _ _).symm.trans H; with_reducible exact H2_) | with_reducible exact H | (rw [hy202]; exact H) | exact H
           have Ny202 := Aside0.mk hy202
           clear hy202
           have H' := Aside0.mk H
           clear H
           have p201 : 0 ≤ (x35_2 : Int) := of_decide_eq_true (by first | (with_reducible assumption) | assumption)
           have q201 : x35_2 < (l0_1.length : Int) := of_decide_eq_true (by first | (with_reducible assumption) | assumption)
           obtain ⟨ad201, A201_0, c201_0, e201, hx201_0, hl201_0, hi201_0⟩ := at_L1 HR0_1.out x35_2 p201 q201
           cases e201
           replace hx201_0 := (HB.out.cell (World.block_lt_of_cell? w _ hx201_0)).trans hx201_0
           have HR201_0 := Aside0.mk hi201_0
           have HC201_0 := Aside0.mk hl201_0
           clear hi201_0 hl201_0
           replace p201 := eq_true p201
           replace q201 := eq_true q201
           go_wp2_with (first | ((with_reducible refine gate_builtin (b := .append) (xs := #[.tmp 39, .tmp 40]) rfl ?_); at_builtin; refine Kd.R_append_rows (Kd.int .u8) (w0 := w) w.heap.size rfl (.tmp 39) (.tmp 40) 36 5 (.int .u8 0) 1 rfl Try.underlying36 info5 rfl (by decide) (by omega) u3 x3_2 (rd_L1 l0_1 x35_2) _ _ _ (fun _ => True) (fun _ => False) rfl rfl ?aO ?aR (fun _ _ h => h) (fun _ h => h.elim) ?aF ?aB ?aS ?aL ?_; (case aR => repeat (first | exact (Kd.C_below HR201_0.out HB.out) | (with_reducible refine Kd.C_alloc ?_ _) | (with_reducible refine Kd.C_drewN ?_ _) | (with_reducible refine Kd.C_drew ?_))); (case aB => exact (by with_reducible repeat (first | exact HB.out | refine h4 ?_ GE192.out | apply h1 | apply h2 | apply h3))); (case aF => exact (fun _ _ => trivial)); (case aO => exact (Kd.rup HO_3.out)); (case aS => exact (below_size (by with_reducible repeat (first | exact HB.out | refine h4 ?_ GE192.out | apply h1 | apply h2 | apply h3)))); (case aL => have := LMc23.out; omega); intro v203 w24 ho hb hg hat; rw [← Ny202.out] at ho; have n0_ := Aside0.mk (blk_grown (g := gb192) (o := .cells #[.int .i64 a0_0, .slice (some ad201) l0_1.length c0_1] 27 (0, 0)) (bup BK192.out) hg (Kd.R_ne HO_3.out BK192.out (by decide))); have n1_ := Aside0.mk (hb); have n2_ := Aside0.mk (ho); clear BK192; clear HB; clear HO_3; have BK192 := n0_; have HB := n1_; have HO204 := n2_; clear n0_ n1_ n2_; clear ho hb hg hat))
           go_roundg k2
           case measure => have := HK1.out; have := HK2.out; omega
           case rel => exact ⟨(y202), (wrap64 (x35_2 + 1)), (by first | rfl | (simp; done) | (simp [*]; done)), H', ⟨by have := HK1.out; have := HK2.out; omega⟩, ⟨by exact Kd.rup HO204.out⟩, ⟨by exact bup BK192.out⟩, ⟨by with_reducible repeat (first | exact HB.out | refine h4 ?_ GE192.out | apply h1 | apply h2 | apply h3)⟩⟩
          ·rw [if_neg c23] at H
           exact absurd H (by simp)
         ·rw [if_neg c22] at H
          exact absurd H (by simp)
        ·rw [if_neg c21] at H
         exact absurd H (by simp)
       ·rw [if_neg c20] at H
        have c20b0 : decide (x35_2 < (l0_1.length : Int)) = false := decide_eq_false c20
        clear c20
        obtain ⟨ji25, hji25⟩ : ∃ j_ : Int, (wrap64 (240 - (x3_2.length : Int))) = j_ := ⟨_, rfl⟩
        replace H : (if 0 ≤ (ji25) then (if x3_2.length + (ji25 : Int).toNat < 140737488355328 then ((some (x3_2 ++ List.replicate (ji25 : Int).toNat 0 : List Int)).bind fun y205 => ((impl_PutNum.f k2 a0_0 4).bind fun t208 => (if 4 * t208.length + y205.length < 140737488355328 then (some (parts 60 t208 y205 fours)) else (none)))) else (none)) else (none)) = some r := by first | (rw [hji25] at H; exact H) | (simp only [hji25] at H ⊢; exact H)
        have hji25w : (IntKind.i64.wrap (240 - (x3_2.length : Int))) = ji25 := (i64_w _).trans hji25
        by_cases c26 : 0 ≤ (ji25)
        ·rw [if_pos c26] at H
         have c26b0 := eq_true c26
         have c26b1 : decide (0 ≤ (ji25)) = true := decide_eq_true c26
         clear c26
         by_cases c27 : x3_2.length + (ji25 : Int).toNat < 140737488355328
         ·rw [if_pos c27] at H
          have LMc27 := Aside0.mk c27
          clear c27
          obtain ⟨y205, hy205⟩ : ∃ y_ : List Int, y_ = (x3_2 ++ List.replicate (ji25 : Int).toNat 0) := ⟨_, rfl⟩
          replace H : ((impl_PutNum.f k2 a0_0 4).bind fun t208 => (if 4 * t208.length + y205.length < 140737488355328 then (some (parts 60 t208 y205 fours)) else (none))) = some r := by first | (rw [hy205]; with_reducible exact H) | (have H2_ := (Option.bind_some _ _).symm.trans H; rw [hy205]; with_reducible exact H2_) | (have H2_ := (Option.bind_some _ _).symm.trans H; with_reducible exact H2_) | with_reducible exact H | (rw [hy205]; exact H) | exact H
          have Ny205 := Aside0.mk hy205
          clear hy205
          replace H := Option.bind_eq_some_iff.mp H
          obtain ⟨t208, A280, H⟩ := H
          replace H : (if 4 * t208.length + y205.length < 140737488355328 then (some (parts 60 t208 y205 fours)) else (none)) = some r := H
          have A28 := Aside0.mk A280
          clear A280
          by_cases c29 : 4 * t208.length + y205.length < 140737488355328
          ·rw [if_pos c29] at H
           have LMc29 := Aside0.mk c29
           clear c29
           obtain ⟨y211, hy211⟩ : ∃ y_ : List Int, y_ = (parts 60 t208 y205 fours) := ⟨_, rfl⟩
           replace H : (some y211) = some r := by first | (rw [hy211]; with_reducible exact H) | (have H2_ := (Option.bind_some _ _).symm.trans H; rw [hy211]; with_reducible exact H2_) | (have H2_ := (Option.bind_some _ _).symm.trans H; with_reducible exact H2_) | with_reducible exact H | (rw [hy211]; exact H) | exact H
           have Ny211 := Aside0.mk hy211
           clear hy211
           obtain rfl := Option.some.inj H
           obtain ⟨Ao30, co30, eo30⟩ := Kd.R_slice HO_3.out
           subst eo30
           go_upto_region 15 with (first | (at_builtin; refine Kd.R_append_zeros (Kd.int .u8) (w0 := w) w.heap.size rfl (.tmp 43) (.tmp 46) 36 3 5 (.int .u8 0) 1 rfl Try.underlying36 Try.underlying3 info5 rfl (by decide) (by omega) (.slice Ao30 x3_2.length co30) x3_2 0 (ji25 : Int) (fun _ => True) rfl rfl rfl ?aF ?aO (of_decide_eq_true (by first | (with_reducible assumption) | assumption)) ?aB ?aS ?aL ?_; (case aB => exact (by with_reducible repeat (first | exact HB.out | refine h4 ?_ GE192.out | apply h1 | apply h2 | apply h3))); (case aF => exact (fun _ _ => trivial)); (case aO => exact (Kd.rup HO_3.out)); (case aS => exact (below_size (by with_reducible repeat (first | exact HB.out | refine h4 ?_ GE192.out | apply h1 | apply h2 | apply h3)))); (case aL => have := LMc27.out; omega); intro v206 w31 ho hb hg hat; rw [← Ny205.out] at ho; have n0_ := Aside0.mk (blk_grown (g := gb192) (o := .cells #[.int .i64 a0_0, .slice A0_1 l0_1.length c0_1] 27 (0, 0)) (bup BK192.out) hg (Kd.R_ne HO_3.out BK192.out (by decide))); have n1_ := Aside0.mk (hb); have n2_ := Aside0.mk (ho); clear BK192; clear HB; clear HO_3; have BK192 := n0_; have HB := n1_; have HO207 := n2_; clear n0_ n1_ n2_; clear ho hb hg hat; obtain ⟨hcz32_0, hcz32_1⟩ := blk_cells2 BK192.out; obtain ⟨hfz32_0, hfz32_1⟩ := blk_frozens2 BK192.out))
           have hy240 : y205.length = 240 := by
             have e := congrArg List.length Ny205.out
             rw [List.length_append, List.length_replicate] at e
             have hj := hji25
             have hp : 0 ≤ ji25 := by first | assumption | (simpa using c26b0)
             unfold wrap64 at hj
             have := LMc27.out
             omega
           obtain ⟨gy, cy, ev, hgy1, hgy2, celly, hby⟩ := Kd.R_form HO207.out (by rw [hy240]; omega)
           rw [hy240] at ev
           subst ev
           have hRY := HO207.out
           have hBP := BK192.out
           have hBW := HB.out
           have hcap := (Kd.R_reads' hRY).2.1
           have hPN := A28.out
           have hLM := LMc29.out
           rw [hy240] at hLM
           clear HO207 BK192 HB A28 LMc29
           obtain ⟨h, hh⟩ : ∃ h_, h_ = t208 := ⟨_, rfl⟩
           rw [← hh] at hPN hLM
           replace hh := Aside0.mk hh
           generalize w31 = W0 at *
           have g8 : Nat := W0.heap.size
           go_upto_region 16 with (fail)
           obtain ⟨w8, hw8⟩ : ∃ w_, w_ = (W0.alloc (.cells #[.slice none 0 0] 36)) := ⟨_, rfl⟩
           rw [← hw8]
           have hb8 : Below W0.heap.size W0 w8 := by rw [hw8]; exact below_alloc (Below.refl _ _) _
           have h8 : w8.heap[W0.heap.size]? = some (.cells #[.slice none 0 0] 36 (0, 0)) := by rw [hw8]; exact World.alloc_heap_new _ _
           have hs8 : W0.heap.size < w8.heap.size := blk_lt h8
           clear hw8
           go_wp2_with (first | ((with_reducible refine gate_callee (f := 51) rfl ?_); refine goesL_ (some 49) rfl rfl Try.func51 (by kernel_rfl) rfl #[.slice (some ⟨gy, 0, none⟩) 240 cy, .int .i64 60] rfl (by (try simp only [List.map_toArray, List.map_cons, List.map_nil]); first | done | rfl) ?_; refine (chunk_calls _ _ _ _ (by decide) _).mono ?_; rintro e wc ⟨bs, bn, rfl, hbs, hbn, hsb, hsn, hbc⟩; refine ⟨_, rfl, ?_⟩))
           have h8c := (hbc.block _ hs8).trans h8
           have hsc := hbc.size
           have hb0c : Below W0.heap.size W0 wc := below_thenB hb8 (Below.mono hbc (Nat.le_of_lt hs8))
           refine (wpIn_wide (n := 5)).1 ?_
           refine wpIn_rangeFunc_ownG (F := Fence.wide) (α := Fin 4) rfl (by omega) (gf := 66) (lb := #[.pointer (some ⟨bs, 0, none⟩), .pointer (some ⟨bn, 0, none⟩)]) rfl trivial (enters_of Try.func66 (by kernel_rfl) rfl)
             (chunk60_stops 4 (by omega) bs bn W0.heap.size gy 0 cy hcap wc hbs hbn (by omega) (by omega)) (fun h k => KeepI.trans h k) (KeepI.put (Nat.le_refl _)) (Below.refl _ _) (fun _ => rfl)
             (fun pre X => (∃ v, X.heap[W0.heap.size]? = some (.cells #[v] 36 (0, 0)) ∧ Kd.R (Kd.int .u8) 5 X wc.heap.size (fun _ => True) v (parts 60 h y205 pre)) ∧ Below W0.heap.size wc X)
             (fun _ _ _ => False)
             (OwnFrom.and (box_own (by omega) _) (ownFrom_below (by omega) (by omega)))
             (fun _ _ _ _ _ hs _ _ => hs)
             ⟨⟨_, h8c, Kd.R_nil _ _ _ _ _⟩, Below.refl _ _⟩ ?a1 ?assign ?body ?done ?stop
           case assign =>
             intro l x X K hK
             gi_wp2
             exact hK
           case stop =>
             rintro D c pre X _ _ hx _
             exact hx.elim
           case done =>
             rintro D ys X hD rfl ⟨⟨v, hbx, hRv⟩, hBX⟩ hK
             have hc8 := cell_of_block hbx
             go_wp2
             (try simp only [Exit.inBlock, Exit.then])
             refine bodyPostM_mark rfl hK (results_tmp rfl _ _ _) ?_
             refine ⟨_, rfl, ?_, below_step hBW ((hb0c.trans hBX).trans (belowK_b (w := wc) (by omega) X D _ _ hD hK rfl rfl))⟩
             rw [Ny211.out, ← hh.out]
             exact Kd.R_lower (row_put hRv hK rfl _) (by have := hBW.size; omega)
           case body =>
             rintro l pre x X ⟨⟨v, hbx, hRv⟩, hBX⟩ hlen
             obtain ⟨Av, cv, ev⟩ := Kd.R_slice hRv
             subst ev
             have hgp : gb192 < W0.heap.size := blk_lt hBP
             have hBPx := (hBX.block _ hgp).trans ((hb0c.block _ hgp).trans hBP)
             have hB0X := hb0c.trans hBX
             have hxl := x.2
             have hpl : ((y205.drop (60 * x.1)).take 60).length = 60 := by rw [List.length_take, List.length_drop, hy240]; omega
             obtain ⟨part, hpt⟩ : ∃ p_, p_ = (y205.drop (60 * x.1)).take 60 := ⟨_, rfl⟩
             have hmm : ∀ Z, Below W0.heap.size W0 Z → Kd.C (Kd.int .u8) Z (some ⟨gy, 60 * x.1, none⟩) 60 part := by
               intro Z hZ
               have hm := Kd.C_mid (lo := 60 * x.1) (hi := 60 * x.1 + 60) (c := cy) (Kd.R_reads' (Kd.R_below hRY hZ)).2.2 (by omega) (by rw [hy240]; omega) (by rw [hy240]; omega)
               rw [if_neg (by omega), List.drop_take, Nat.add_sub_cancel_left, hpl, ← hpt] at hm
               have e1 : 60 * x.1 * (Kd.int .u8).sz = 60 * x.1 := Nat.mul_one _
               rw [e1] at hm
               have e2 : (⟨gy, 0, none⟩ : Addr).add (60 * x.1) = ⟨gy, 60 * x.1, none⟩ := by
                 unfold Addr.add
                 split
                 · rename_i h0
                   rw [h0]
                 · rw [Nat.zero_add]
               have hn : Kd.C (Kd.int .u8) Z (some ((⟨gy, 0, none⟩ : Addr).add (60 * x.1))) 60 part := hm
               rw [e2] at hn
               exact hn
             rw [← hpt] at hpl
             have hol := parts_len 60 h y205 pre
             have hol2 : (parts 60 h y205 pre).length ≤ 3 * (h.length + 60) := Nat.le_trans hol (Nat.mul_le_mul_right _ (by omega))
             have hsn := parts_snoc 60 h y205 pre x
             rw [← hpt] at hsn
             obtain ⟨out, ho⟩ : ∃ o_, o_ = parts 60 h y205 pre := ⟨_, rfl⟩
             rw [← ho] at hol2 hRv hbx hsn
             clear hol
             replace ho := Aside0.mk ho
             replace hsn := Aside0.mk hsn
             replace hpt := Aside0.mk hpt
             refine wpIn_block ?_
             have hsX := hBX.size
             refine start_R (n := 8) (S := fun w' => w'.cell? ⟨W0.heap.size, 0, none⟩ = some (.slice Av out.length cv) ∧ w'.cell? ⟨gb192, 0, none⟩ = some (.int .i64 a0_0)) (ds := [7]) #[false, false, false, false, false, false, false, false] (by kernel_rfl) (fun hl => by obtain ⟨_, _, hl⟩ := hl; exact hl) (by kernel_rfl) rfl rfl ⟨cell_of_block (blk_drew hbx), (blk_cell (blk_drew hBPx) 0).trans rfl⟩ (fun hHeld => ?_)
             have hbx1 := blk_drew hbx
             have hBP1 := blk_drew hBPx
             have hR1 := Kd.R_drew hRv
             have hk1 : KeepsOthers X X.drew := KeepsOthers.drew X
             have hB1 : Below wc.heap.size X X.drew := below_drew1 (Below.refl _ _)
             have hs1 : X.heap.size ≤ X.drew.heap.size := Nat.le_refl _
             generalize X.drew = X1 at hbx1 hBP1 hR1 hk1 hB1 hs1 hHeld ⊢
             refine pure_ (i := 1) (N := some 52) (v := ?_) (a' := ?_) #[false, true, false, false, false, false, false, false] rfl rfl (by kernel_rfl) (fun _ _ _ h => h) (Or.inl ⟨by rfl, ?_⟩) ?_ ?_
             rotate_left
             · intro w'
               go_simp
               with_reducible rfl
             rotate_left
             · simp only [Act.put, List.setIfInBounds_toArray, List.set_cons_zero, List.set_cons_succ, i64_w, i32_w]
               rfl
             refine take_ (i := 0) (N := some 51) (v := ?_) (a' := ?_) #[true, true, false, false, false, false, false, false] rfl rfl (by kernel_rfl) (fun _ _ _ h => h) (Or.inl ⟨by rfl, ?_⟩) hHeld ?_ ?_
             rotate_left
             · rintro w' ⟨s0, s1⟩
               go_simp
               with_reducible rfl
             rotate_left
             · simp only [Act.put, List.setIfInBounds_toArray, List.set_cons_zero, List.set_cons_succ, i64_w, i32_w]
               rfl
             refine take_ (i := 2) (N := some 53) (v := ?_) (a' := ?_) #[true, true, true, false, false, false, false, false] rfl rfl (by kernel_rfl) (fun _ _ _ h => h) (Or.inl ⟨by rfl, ?_⟩) hHeld ?_ ?_
             rotate_left
             · rintro w' ⟨s0, s1⟩
               go_simp
               with_reducible rfl
             rotate_left
             · simp only [Act.put, List.setIfInBounds_toArray, List.set_cons_zero, List.set_cons_succ, i64_w, i32_w]
               rfl
             refine pure_ (i := 5) (N := some 56) (v := ?_) (a' := ?_) #[true, true, true, false, false, true, false, false] rfl rfl (by kernel_rfl) (fun _ _ _ h => h) (Or.inl ⟨by rfl, ?_⟩) ?_ ?_
             rotate_left
             · intro w'
               go_simp
               with_reducible rfl
             rotate_left
             · simp only [Act.put, List.setIfInBounds_toArray, List.set_cons_zero, List.set_cons_succ, i64_w, i32_w]
               rfl
             refine one_ (i := 3) (N := some 54) #[true, true, true, true, false, true, false, false] rfl rfl (by kernel_rfl) (by decide) (fun K hK => ?_)
             refine goes_ Try.func52 (by kernel_rfl) rfl #[.int .i64 a0_0, .int .i64 4] (by rfl) rfl rfl (by (try simp only [List.map_toArray, List.map_cons, List.map_nil]); first | done | rfl) ?_
             refine (impl_PutNum.calls k2 a0_0 4 h _ hPN).mono ?_
             rintro e X2 ⟨v3, rfl, ho3, hb3⟩
             refine ⟨_, rfl, ?_⟩
             have hbx2 := blk_below hbx1 hb3
             have hBP2 := blk_below hBP1 hb3
             have hR2 := Kd.R_below hR1 hb3
             have hk2 := hk1.trans (keepsOthers_below hb3 (Nat.le_refl _))
             have hB2 := hB1.trans (Below.mono hb3 (by omega))
             have hs2 := hb3.size
             obtain ⟨A3, c3, e3⟩ := Kd.R_slice ho3
             subst e3
             refine hK.out _ _ ⟨cell_of_block hbx2, (blk_cell hBP2 0).trans rfl⟩ (fun hHeld => ?_)
             clear hK K
             refine norm_ (a' := ?_) ?_ ?_
             rotate_left
             · show Act.put _ (some 54) _ = _
               simp only [Act.put, List.setIfInBounds_toArray, List.set_cons_zero, List.set_cons_succ, i64_w, i32_w]
               rfl
             refine one_ (i := 4) (N := some 55) #[true, true, true, true, true, true, false, false] rfl rfl (by kernel_rfl) (by decide) (fun K hK => ?_)
             refine Kd.R_append_rows_step (Kd.int .u8) (w0 := X) wc.heap.size (by rfl) (.tmp 51) (.tmp 54) 36 5 (.int .u8 0) 1 rfl Try.underlying36 info5 rfl (by decide) (by omega) (.slice Av out.length cv) out h _ _ _ (fun _ => True) (fun _ => False) rfl rfl hR2 (Kd.R_reads' ho3).2.2 (fun _ _ h => h) (fun _ h => h.elim) (fun _ _ => trivial) hB2 (by omega) (by omega) ?_
             intro v5 X3 hR3 hB3 hg3 hat3
             have hne2 : some W0.heap.size ≠ (Value.slice Av out.length cv).ownBlock := fun e => by have := Kd.R_base hR2 _ e.symm; omega
             have hnp2 : some gb192 ≠ (Value.slice Av out.length cv).ownBlock := fun e => by have := Kd.R_base hR2 _ e.symm; omega
             have hbx3 := blk_grown hbx2 hg3 hne2
             have hBP3 := blk_grown hBP2 hg3 hnp2
             have hk3 := hk2.trans (keepsOthers_row hR2 hg3)
             have hm3 := hmm X3 (hB0X.trans (Below.mono hB3 (by omega)))
             have hs3 := hg3.size
             refine hK.out _ _ ⟨cell_of_block hbx3, (blk_cell hBP3 0).trans rfl⟩ (fun hHeld => ?_)
             clear hK K
             refine norm_ (a' := ?_) ?_ ?_
             rotate_left
             · show Act.put _ (some 55) _ = _
               simp only [Act.put, List.setIfInBounds_toArray, List.set_cons_zero, List.set_cons_succ, i64_w, i32_w]
               rfl
             refine one_ (i := 6) (N := some 57) #[true, true, true, true, true, true, true, false] rfl rfl (by kernel_rfl) (by decide) (fun K hK => ?_)
             refine Kd.R_append_rows_step (Kd.int .u8) (w0 := X) wc.heap.size (by rfl) (.tmp 55) (.tmp 56) 36 5 (.int .u8 0) 1 rfl Try.underlying36 info5 rfl (by decide) (by omega) v5 (out ++ h) part _ 60 60 (fun _ => True) (fun _ => False) rfl rfl hR3 hm3 (fun _ _ h => h) (fun _ h => h.elim) (fun _ _ => trivial) hB3 (by omega) (by rw [List.length_append]; omega) ?_
             intro v6 X4 hR4 hB4 hg4 hat4
             have hne3 : some W0.heap.size ≠ v5.ownBlock := fun e => by have := Kd.R_base hR3 _ e.symm; omega
             have hnp3 : some gb192 ≠ v5.ownBlock := fun e => by have := Kd.R_base hR3 _ e.symm; omega
             have hbx4 := blk_grown hbx3 hg4 hne3
             have hBP4 := blk_grown hBP3 hg4 hnp3
             have hk4 := hk3.trans (keepsOthers_row hR3 hg4)
             have hs4 := hg4.size
             obtain ⟨A6, c6, e6⟩ := Kd.R_slice hR4
             subst e6
             refine hK.out _ _ ⟨cell_of_block hbx4, (blk_cell hBP4 0).trans rfl⟩ (fun hHeld => ?_)
             clear hK K
             refine norm_ (a' := ?_) ?_ ?_
             rotate_left
             · show Act.put _ (some 57) _ = _
               simp only [Act.put, List.setIfInBounds_toArray, List.set_cons_zero, List.set_cons_succ, i64_w, i32_w]
               rfl
             have hc4 := cell_of_block hbx4
             have hf4 := blk_frozen hbx4 0
             refine last_ (i := 7) (N := none) #[true, true, true, true, true, true, true, true] rfl rfl (by kernel_rfl) (by decide) (fun K hK => ?_)
             refine skip_ (w1 := X4.setCell ⟨W0.heap.size, 0, none⟩ (.slice A6 (out ++ h ++ part).length c6)) (by rfl) rfl ?_ ?_
             · first | (go_simp; done) | (go_simp; rfl)
             refine hK.out _ _ ?_
             clear hK K
             refine done_ (by kernel_rfl) ?_
             have hB4' : Below W0.heap.size X X4 := Below.mono hB4 (by omega)
             have hB5 : Below W0.heap.size X (X4.setCell ⟨W0.heap.size, 0, none⟩ (.slice A6 (out ++ h ++ part).length c6)) := Below.setCell hB4' (p := ⟨W0.heap.size, 0, none⟩) (Nat.le_refl _) _
             refine ⟨(hk4.trans (KeepsOthers.setCell _ _ _)).from _, ⟨hB5.size, fun i h1 h2 => (Below.heap_setCell X4 _ _ i h2).trans (hB4.block i h1)⟩, ⟨_, Boxed.set _ hbx4, ?_⟩, hBX.trans hB5⟩
             rw [hsn.out]
             exact Kd.R_mono (Kd.R_step (Kd.R_bound hR4) (fun k hk _ => Below.heap_setCell _ _ _ k (by have h2 := hk.2.1; show k ≠ W0.heap.size; omega))) (fun _ _ => trivial)
          ·rw [if_neg c29] at H
           exact absurd H (by simp)
         ·rw [if_neg c27] at H
          exact absurd H (by simp)
        ·rw [if_neg c26] at H
         exact absurd H (by simp)
end

/-! ### slices_Clone_byte_byte: function 49 -/
def slices_Clone_byte_byte.f (l0 : List Int) : Option (List Int) := (some (([] : List Int) : List Int)).bind fun y214 => (if y214.length + l0.length < 140737488355328 then (some (y214 ++ l0)) else (none))
set_option maxHeartbeats 8000000 in
set_option maxRecDepth 100000 in
theorem slices_Clone_byte_byte.calls (A0 : Option Addr) (c0 : Nat) (l0 : List Int) (r : List Int) (w : World) (hr0 : Kd.C (Kd.int .u8) w A0 l0.length l0) (hc0 : l0.length ≤ c0) (h : slices_Clone_byte_byte.f l0 = some r) :
    Calls Try.prog 49 #[.slice A0 l0.length c0] w fun e w' => ∃ v0_ : Value, e = .returned (v0_) ∧ Kd.R (Kd.int .u8) 5 w' w.heap.size (fun _ => True) v0_ r ∧ Below w.heap.size w w' := by
  rcases A0 with _ | ad0
  · have hl0 : l0 = [] := by
      rcases Nat.eq_zero_or_pos l0.length with hz | hz
      · exact List.eq_nil_of_length_eq_zero hz
      · obtain ⟨ad, e, _⟩ := hr0.2.2 hz
        cases e
    subst hl0
    have hr : r = [] := by simpa [slices_Clone_byte_byte.f] using h.symm
    subst hr
    have hq := fun (w : World) (a : Option Addr) (n c : Nat) => Lib.run_eql_slice_nil (P := Try.prog) w 36 5 a n c 0 0 Try.underlying36
    go_enter Try.func49, Try.ntmps49
    go_wp2
    go_ret
    exact ⟨_, rfl, Kd.R_nil _ _ _ _ _, by repeat (first | exact Below.refl _ _ | apply h1 | apply h2 | apply h3)⟩
  · have HR0 := Aside0.mk hr0
    have HC0 := Aside0.mk hc0
    clear hr0 hc0
    have HB := Aside0.mk (Below.refl w.heap.size w)
    have H : ((some (([] : List Int) : List Int)).bind fun y214 => (if y214.length + l0.length < 140737488355328 then (some (y214 ++ l0)) else (none))) = some r := h
    clear h
    obtain ⟨y214, hy214⟩ : ∃ y_ : List Int, y_ = (([] : List Int)) := ⟨_, rfl⟩
    replace H : (if y214.length + l0.length < 140737488355328 then (some (y214 ++ l0)) else (none)) = some r := by first | (rw [hy214]; with_reducible exact H) | (have H2_ := (Option.bind_some _ _).symm.trans H; rw [hy214]; with_reducible exact H2_) | (have H2_ := (Option.bind_some _ _).symm.trans H; with_reducible exact H2_) | with_reducible exact H | (rw [hy214]; exact H) | exact H
    have Ny214 := Aside0.mk hy214
    clear hy214
    by_cases c2 : y214.length + l0.length < 140737488355328
    · rw [if_pos c2] at H
      have LMc2 := Aside0.mk c2
      clear c2
      obtain ⟨y217, hy217⟩ : ∃ y_ : List Int, y_ = (y214 ++ l0) := ⟨_, rfl⟩
      replace H : (some y217) = some r := by first | (rw [hy217]; with_reducible exact H) | (have H2_ := (Option.bind_some _ _).symm.trans H; rw [hy217]; with_reducible exact H2_) | (have H2_ := (Option.bind_some _ _).symm.trans H; with_reducible exact H2_) | with_reducible exact H | (rw [hy217]; exact H) | exact H
      have Ny217 := Aside0.mk hy217
      clear hy217
      obtain rfl := Option.some.inj H
      have hq := fun (w : World) (a : Option Addr) (n c : Nat) => Lib.run_eql_slice_nil (P := Try.prog) w 36 5 a n c 0 0 Try.underlying36
      go_enter Try.func49, Try.ntmps49
      go_wp2_with (first | ((with_reducible refine gate_dst (N := 5) rfl ?_); refine Kd.R_lit (Kd.int .u8) _ 5 ?hg (N := 5) ?hd (xs := ([] : List Int)) (inner := []) (ok := fun _ => True) (okp := fun _ => True) ?hr ?hp (fun _ hk => hk) trivial (Below.refl _ _) (Nat.le_refl _) (by simp) ?_; (case hd => rfl); (case hg => rfl); (case hr => first | (go_simp; done) | (go_simp; rfl)); (case hp => exact (Reps.none _ _)); intro v215 w3 ho4 hb hg_ hnew_; clear hg_ hnew_; (first | rw [← Ny214.out] at ho4 | (simp only [Int.reduceToNat] at ho4; rw [← Ny214.out] at ho4)); have n0_ := Aside0.mk (Kd.R_lower ho4 (below_size (hup HB.out))); have n1_ := Aside0.mk (below_step (hup HB.out) hb); clear HB; have HO216 := n0_; have HB := n1_; clear n0_ n1_; clear hb ho4) | ((with_reducible refine gate_builtin (b := .append) (xs := #[.tmp 5, .tmp 6]) rfl ?_); at_builtin; refine Kd.R_append_rows (Kd.int .u8) (w0 := w) w.heap.size rfl (.tmp 5) (.tmp 6) 36 5 (.int .u8 0) 1 rfl Try.underlying36 info5 rfl (by decide) (by omega) v215 y214 l0 _ _ _ (fun _ => True) (fun _ => False) rfl rfl ?aO ?aR (fun _ _ h => h) (fun _ h => h.elim) ?aF ?aB ?aS ?aL ?_; (case aR => repeat (first | exact (Kd.C_below HR0.out HB.out) | (with_reducible refine Kd.C_alloc ?_ _) | (with_reducible refine Kd.C_drewN ?_ _) | (with_reducible refine Kd.C_drew ?_))); (case aB => exact (hup HB.out)); (case aF => exact (fun _ _ => trivial)); (case aO => exact (Kd.rup HO216.out)); (case aS => exact (below_size (hup HB.out))); (case aL => have := LMc2.out; omega); intro v218 w5 ho hb hg hat; rw [← Ny217.out] at ho; have n0_ := Aside0.mk (hb); have n1_ := Aside0.mk (ho); clear HB; clear HO216; have HB := n0_; have HO219 := n1_; clear n0_ n1_; clear ho hb hg hat))
      go_ret
      exact ⟨_, by first | rfl | (simp [errW_none, errW_some] <;> rfl) | (simp [*, errW_none, errW_some] <;> rfl), by exact Kd.rup HO219.out, by with_reducible repeat (first | exact HB.out | apply h1 | apply h2 | apply h3)⟩
    · rw [if_neg c2] at H
      exact absurd H (by simp)
  
/-! ### impl_hasBytes: function 55 -/
def impl_hasBytes.f (l0 : List Int) (a1 : Int) (a2 : Int) : Option (Bool) := (impl_within.f a1 0 (l0.length : Int)).bind fun t220 => (if t220 = true then (some (decide (a2 ≤ (wrap64 ((l0.length : Int) - a1))))) else (some false))
set_option maxHeartbeats 8000000 in
set_option maxRecDepth 100000 in
theorem impl_hasBytes.calls (A0 : Option Addr) (c0 : Nat) (l0 : List Int) (a1 : Int) (a2 : Int) (r : Bool) (w : World) (hr0 : Kd.C (Kd.int .u8) w A0 l0.length l0) (hc0 : l0.length ≤ c0) (h : impl_hasBytes.f l0 a1 a2 = some r) :
    Calls Try.prog 55 #[.slice A0 l0.length c0, .int .i64 a1, .int .i64 a2] w fun e w' => e = .returned (.bool r) ∧ Drawn0 w w' := by
  have HR0 := Aside0.mk hr0
  have HC0 := Aside0.mk hc0
  clear hr0 hc0
  have H : ((impl_within.f a1 0 (l0.length : Int)).bind fun t220 => (if t220 = true then (some (decide (a2 ≤ (wrap64 ((l0.length : Int) - a1))))) else (some false))) = some r := h
  clear h
  replace H := Option.bind_eq_some_iff.mp H
  obtain ⟨t220, A40, H⟩ := H
  replace H : (if t220 = true then (some (decide (a2 ≤ (wrap64 ((l0.length : Int) - a1))))) else (some false)) = some r := H
  have A4 := Aside0.mk A40
  clear A40
  by_cases c5 : t220 = true
  · subst c5
    have H1 : (some (decide (a2 ≤ (wrap64 ((l0.length : Int) - a1))))) = some r := by rw [if_pos rfl] at H; exact H
    clear H
    have H := H1
    clear H1
    obtain rfl := Option.some.inj H
    go_enter Try.func55, Try.ntmps55
    go_wp2_with (first | ((with_reducible refine gate_callee (f := 39) rfl ?_); refine goesL_ (some 10) rfl rfl Try.func39 (by kernel_rfl) rfl #[.int .i64 a1, .int .i64 0, .int .i64 (l0.length : Int)] rfl (by (try simp only [List.map_toArray, List.map_cons, List.map_nil]); first | done | rfl) ?_; (with_reducible refine (impl_within.calls a1 0 (l0.length : Int) true _ A4.out).mono ?_); rintro e w' ⟨rfl, ⟨nd, rfl⟩⟩; refine ⟨_, rfl, ?_⟩))
    go_ret
    exact ⟨by first | rfl | (simp; done) | (simp [*]; done), by repeat (first | exact Drawn0.refl _ | apply Drawn0.step)⟩
  · replace c5 := Bool.eq_false_iff.mpr c5
    subst c5
    have H1 : (some false) = some r := by rw [if_neg (show ¬ (false = true) by decide)] at H; exact H
    clear H
    have H := H1
    clear H1
    obtain rfl := Option.some.inj H
    go_enter Try.func55, Try.ntmps55
    go_wp2_with (first | ((with_reducible refine gate_callee (f := 39) rfl ?_); refine goesL_ (some 10) rfl rfl Try.func39 (by kernel_rfl) rfl #[.int .i64 a1, .int .i64 0, .int .i64 (l0.length : Int)] rfl (by (try simp only [List.map_toArray, List.map_cons, List.map_nil]); first | done | rfl) ?_; (with_reducible refine (impl_within.calls a1 0 (l0.length : Int) false _ A4.out).mono ?_); rintro e w' ⟨rfl, ⟨nd, rfl⟩⟩; refine ⟨_, rfl, ?_⟩))
    go_ret
    exact ⟨by first | rfl | (simp; done) | (simp [*]; done), by repeat (first | exact Drawn0.refl _ | apply Drawn0.step)⟩

/-! ### impl_GetNum: function 54 -/
mutual
def impl_GetNum.j0 : Nat → List Int → Int → Int → Bool → Option (Int × Bool)
  | 0, _, _, _, _ => none
  | k + 1, x0, x1, x2, x19 => if x19 = true then (some (0, false)) else (impl_GetNum.l0 k x0 x1 0 (wrap64 (x2 - 1)))
def impl_GetNum.l0 : Nat → List Int → Int → Int → Int → Option (Int × Bool)
  | 0, _, _, _, _ => none
  | k + 1, x0, x1, x8, x9 => if x9 ≥ 0 then (if 0 ≤ (wrap64 (x1 + x9)) then (if (wrap64 (x1 + x9)) < (x0.length : Int) then (impl_GetNum.l0 k x0 x1 (Go.bits .or .u64 (IntKind.u64.wrap (x8 * 256)) (IntKind.u64.wrap (rd x0 (wrap64 (x1 + x9))))) (wrap64 (x9 - 1))) else (none)) else (none)) else (if x8 ≥ 9223372036854775808 then (some (0, false)) else (some (wrap64 (x8), true)))
end
def impl_GetNum.f (k : Nat) (l0 : List Int) (a1 : Int) (a2 : Int) : Option (Int × Bool) := (impl_within.f a2 1 8).bind fun t221 => (if t221 = true then ((impl_hasBytes.f l0 a1 a2).bind fun t222 => (impl_GetNum.j0 k l0 a1 a2 (!t222))) else (impl_GetNum.j0 k l0 a1 a2 true))
theorem impl_GetNum.mono_l : ∀ k, (∀ y0 y1 y2 y3, LeO (impl_GetNum.j0 k y0 y1 y2 y3) (impl_GetNum.j0 (k + 1) y0 y1 y2 y3)) ∧ (∀ y0 y1 y2 y3, LeO (impl_GetNum.l0 k y0 y1 y2 y3) (impl_GetNum.l0 (k + 1) y0 y1 y2 y3))
  | 0 => ⟨fun _ _ _ _ r h => by simp [impl_GetNum.j0] at h, fun _ _ _ _ r h => by simp [impl_GetNum.l0] at h⟩
  | k + 1 => by
    obtain ⟨ih0, ih1⟩ := impl_GetNum.mono_l k
    refine ⟨?_, ?_⟩
    · intro y0 y1 y2 y3
      unfold impl_GetNum.j0
      repeat' with_reducible first | exact ih0 _ _ _ _ | exact ih1 _ _ _ _ | exact LeO.refl _ | exact LeO.none _ | refine LeO.ite ?_ ?_ | refine LeO.bind ?_ (fun _ => ?_)
    · intro y0 y1 y2 y3
      unfold impl_GetNum.l0
      repeat' with_reducible first | exact ih0 _ _ _ _ | exact ih1 _ _ _ _ | exact LeO.refl _ | exact LeO.none _ | refine LeO.ite ?_ ?_ | refine LeO.bind ?_ (fun _ => ?_)
theorem impl_GetNum.mono : ∀ a0 a1 a2 k, LeO (impl_GetNum.f k a0 a1 a2) (impl_GetNum.f (k + 1) a0 a1 a2) := by
  intro a0 a1 a2 k
  obtain ⟨ih0, ih1⟩ := impl_GetNum.mono_l k
  unfold impl_GetNum.f
  repeat' with_reducible first | exact ih0 _ _ _ _ | exact ih1 _ _ _ _ | exact LeO.refl _ | exact LeO.none _ | refine LeO.ite ?_ ?_ | refine LeO.bind ?_ (fun _ => ?_)
set_option maxHeartbeats 8000000 in
set_option maxRecDepth 100000 in
theorem impl_GetNum.calls (k : Nat) (A0 : Option Addr) (c0 : Nat) (l0 : List Int) (a1 : Int) (a2 : Int) (r1 : Int) (r2 : Bool) (w : World) (hr0 : Kd.C (Kd.int .u8) w A0 l0.length l0) (hc0 : l0.length ≤ c0) (h : impl_GetNum.f k l0 a1 a2 = some (r1, r2)) :
    Calls Try.prog 54 #[.slice A0 l0.length c0, .int .i64 a1, .int .i64 a2] w fun e w' => e = .returned (.tuple #[.int .i64 r1, .bool r2]) ∧ Drawn0 w w' := by
  have HR0 := Aside0.mk hr0
  have HC0 := Aside0.mk hc0
  clear hr0 hc0
  have H : ((impl_within.f a2 1 8).bind fun t221 => (if t221 = true then ((impl_hasBytes.f l0 a1 a2).bind fun t222 => (impl_GetNum.j0 k l0 a1 a2 (!t222))) else (impl_GetNum.j0 k l0 a1 a2 true))) = some (r1, r2) := h
  clear h
  have HC4 := Aside0.mk H
  clear H
  go_enter Try.func54, Try.ntmps54
  go_upto_region 1 with (fail)
  go_cut [19] (fun v19 wc => ∃ (kq : Nat) (x19_3 : Bool), v19 = .bool x19_3 ∧ Aside0 (impl_GetNum.j0 kq l0 a1 a2 x19_3 = some (r1, r2)) ∧ Aside0 (kq ≤ k) ∧ Drawn0 w wc)
  case first =>
    have H := HC4.out
    clear HC4
    replace H := Option.bind_eq_some_iff.mp H
    obtain ⟨t221, A50, H⟩ := H
    replace H : (if t221 = true then ((impl_hasBytes.f l0 a1 a2).bind fun t222 => (impl_GetNum.j0 k l0 a1 a2 (!t222))) else (impl_GetNum.j0 k l0 a1 a2 true)) = some (r1, r2) := H
    have A5 := Aside0.mk A50
    clear A50
    by_cases c6 : t221 = true
    · subst c6
      have H1 : ((impl_hasBytes.f l0 a1 a2).bind fun t222 => (impl_GetNum.j0 k l0 a1 a2 (!t222))) = some (r1, r2) := by rw [if_pos rfl] at H; exact H
      clear H
      have H := H1
      clear H1
      replace H := Option.bind_eq_some_iff.mp H
      obtain ⟨t222, A70, H⟩ := H
      replace H : (impl_GetNum.j0 k l0 a1 a2 (!t222)) = some (r1, r2) := H
      have A7 := Aside0.mk A70
      clear A70
      have H' := Aside0.mk H
      clear H
      go_wp2_with (first | ((with_reducible refine gate_callee (f := 39) rfl ?_); refine goesL_ (some 11) rfl rfl Try.func39 (by kernel_rfl) rfl #[.int .i64 a2, .int .i64 1, .int .i64 8] rfl (by (try simp only [List.map_toArray, List.map_cons, List.map_nil]); first | done | rfl) ?_; (with_reducible refine (impl_within.calls a2 1 8 true _ A5.out).mono ?_); rintro e w' ⟨rfl, ⟨nd, rfl⟩⟩; refine ⟨_, rfl, ?_⟩) | (go_at_call 55; (with_reducible refine (impl_hasBytes.calls _ _ l0 a1 a2 t222 _ ?side1 ?side2 A7.out).mono ?_); (case side1 => repeat (first | exact HR0.out | (with_reducible refine Kd.C_alloc ?_ _) | (with_reducible refine Kd.C_drewN ?_ _) | (with_reducible refine Kd.C_drew ?_))); (case side2 => exact HC0.out); rintro e w' ⟨rfl, ⟨nd, rfl⟩⟩))
      go_meet
      case rel => exact ⟨_, (!t222), (by first | rfl | (simp; done) | (simp [*]; done)), H', ⟨by first | omega | exact Nat.le_refl _⟩, by repeat (first | exact Drawn0.refl _ | apply Drawn0.step)⟩
    · replace c6 := Bool.eq_false_iff.mpr c6
      subst c6
      have H1 : (impl_GetNum.j0 k l0 a1 a2 true) = some (r1, r2) := by rw [if_neg (show ¬ (false = true) by decide)] at H; exact H
      clear H
      have H := H1
      clear H1
      have H' := Aside0.mk H
      clear H
      go_wp2_with (first | ((with_reducible refine gate_callee (f := 39) rfl ?_); refine goesL_ (some 11) rfl rfl Try.func39 (by kernel_rfl) rfl #[.int .i64 a2, .int .i64 1, .int .i64 8] rfl (by (try simp only [List.map_toArray, List.map_cons, List.map_nil]); first | done | rfl) ?_; (with_reducible refine (impl_within.calls a2 1 8 false _ A5.out).mono ?_); rintro e w' ⟨rfl, ⟨nd, rfl⟩⟩; refine ⟨_, rfl, ?_⟩))
      go_meet
      case rel => exact ⟨_, (true), (by first | rfl | (simp; done) | (simp [*]; done)), H', ⟨by first | omega | exact Nat.le_refl _⟩, by repeat (first | exact Drawn0.refl _ | apply Drawn0.step)⟩
  case rest =>
    clear HC4
    try clear p2
    try clear c3
    try clear c5
    try clear c6
    obtain ⟨kq, x19_3, rfl, HA, HJ3, ⟨mc3, rfl⟩⟩ := hcut
    cases kq with
    | zero => exact absurd HA.out (by simp [impl_GetNum.j0])
    | succ kj3 =>
      have H := HA.out
      clear HA
      simp only [impl_GetNum.j0] at H
      by_cases c8 : x19_3 = true
      · subst c8
        have H1 : (some (0, false)) = some (r1, r2) := by rw [if_pos rfl] at H; exact H
        clear H
        have H := H1
        clear H1
        simp only [Option.some.injEq, Prod.mk.injEq] at H
        obtain ⟨rfl, rfl⟩ := H
        go_wp2
        go_ret2
        exact ⟨by first | rfl | (simp; done) | (simp [*]; done), by repeat (first | exact Drawn0.refl _ | apply Drawn0.step)⟩
      · replace c8 := Bool.eq_false_iff.mpr c8
        subst c8
        have H1 : (impl_GetNum.l0 kj3 l0 a1 0 (wrap64 (a2 - 1))) = some (r1, r2) := by rw [if_neg (show ¬ (false = true) by decide)] at H; exact H
        clear H
        have H := H1
        clear H1
        have H' := Aside0.mk H
        clear H
        go_wp2
        go_loopg [8, 9] kj3 (fun kq v8 v9 w' => ∃ (x8_2 : Int) (x9_2 : Int), v8 = .int .u64 x8_2 ∧ v9 = .int .i64 x9_2 ∧ Aside0 (impl_GetNum.l0 kq l0 a1 x8_2 x9_2 = some (r1, r2)) ∧ Aside0 (kq ≤ kj3) ∧ Drawn0 w w')
        case atStart => exact ⟨(0), (wrap64 (a2 - 1)), (by first | rfl | (simp; done) | (simp [*]; done)), (by first | rfl | (simp; done) | (simp [*]; done)), H', ⟨Nat.le_refl _⟩, by repeat (first | exact Drawn0.refl _ | apply Drawn0.step)⟩
        case round =>
          clear H'
          try clear p2
          try clear c3
          try clear c5
          try clear c6
          try clear p6
          try clear c8
          try clear p2
          obtain ⟨x8_2, x9_2, rfl, rfl, HA, HK2, ⟨m2, rfl⟩⟩ := hrel
          cases gk with
          | zero => exact absurd HA.out (by simp [impl_GetNum.l0])
          | succ k2 =>
            have H := HA.out
            clear HA
            simp only [impl_GetNum.l0] at H
            by_cases c9 : x9_2 ≥ 0
            · rw [if_pos c9] at H
              have c9b0 : decide (0 ≤ x9_2) = true := decide_eq_true c9
              clear c9
              obtain ⟨ji10, hji10⟩ : ∃ j_ : Int, (wrap64 (a1 + x9_2)) = j_ := ⟨_, rfl⟩
              replace H : (if 0 ≤ (ji10) then (if (ji10) < (l0.length : Int) then (impl_GetNum.l0 k2 l0 a1 (Go.bits .or .u64 (IntKind.u64.wrap (x8_2 * 256)) (IntKind.u64.wrap (rd l0 (ji10)))) (wrap64 (x9_2 - 1))) else (none)) else (none)) = some (r1, r2) := by first | (rw [hji10] at H; exact H) | (simp only [hji10] at H ⊢; exact H)
              have hji10w : (IntKind.i64.wrap (a1 + x9_2)) = ji10 := (i64_w _).trans hji10
              by_cases c11 : 0 ≤ (ji10)
              · rw [if_pos c11] at H
                have c11b0 : decide (0 ≤ (ji10)) = true := decide_eq_true c11
                clear c11
                by_cases c12 : (ji10) < (l0.length : Int)
                · rw [if_pos c12] at H
                  have c12b0 : decide ((ji10) < (l0.length : Int)) = true := decide_eq_true c12
                  clear c12
                  have H' := Aside0.mk H
                  clear H
                  have p223 : 0 ≤ ((ji10) : Int) := of_decide_eq_true (by first | (with_reducible assumption) | assumption)
                  have q223 : (ji10) < (l0.length : Int) := of_decide_eq_true (by first | (with_reducible assumption) | assumption)
                  obtain ⟨ad223, e223, hx223_0⟩ := Kd.at_int HR0.out (ji10) p223 q223
                  cases e223
                  replace p223 := eq_true p223
                  replace q223 := eq_true q223
                  go_wp2
                  go_roundg k2
                  case measure => have := HJ3.out; have := HK2.out; omega
                  case rel => exact ⟨(Go.bits .or .u64 (IntKind.u64.wrap (x8_2 * 256)) (IntKind.u64.wrap (rd l0 (ji10)))), (wrap64 (x9_2 - 1)), (by first | rfl | (simp; done) | (simp only [← hji10] <;> (first | rfl | simp)) | (simp [*]; done)), (by first | rfl | (simp; done) | (simp [*]; done)), H', ⟨by have := HJ3.out; have := HK2.out; omega⟩, by repeat (first | exact Drawn0.refl _ | apply Drawn0.step)⟩
                · rw [if_neg c12] at H
                  exact absurd H (by simp)
              · rw [if_neg c11] at H
                exact absurd H (by simp)
            · rw [if_neg c9] at H
              have c9b0 : decide (0 ≤ x9_2) = false := decide_eq_false c9
              clear c9
              by_cases c13 : x8_2 ≥ 9223372036854775808
              · rw [if_pos c13] at H
                have c13b0 : decide (9223372036854775808 ≤ x8_2) = true := decide_eq_true c13
                clear c13
                simp only [Option.some.injEq, Prod.mk.injEq] at H
                obtain ⟨rfl, rfl⟩ := H
                go_wp2
                go_ret2
                exact ⟨by first | rfl | (simp; done) | (simp [*]; done), by repeat (first | exact Drawn0.refl _ | apply Drawn0.step)⟩
              · rw [if_neg c13] at H
                have c13b0 : decide (9223372036854775808 ≤ x8_2) = false := decide_eq_false c13
                clear c13
                simp only [Option.some.injEq, Prod.mk.injEq] at H
                obtain ⟨rfl, rfl⟩ := H
                go_wp2
                go_ret2
                exact ⟨by first | rfl | (simp; done) | (simp [*]; done), by repeat (first | exact Drawn0.refl _ | apply Drawn0.step)⟩

/-! ### bytes_Equal: function 56 -/
def bytes_Equal.f (l0 : List Int) (l1 : List Int) : Option (Bool) := some ((strOfNums l0).toList == (strOfNums l1).toList)
set_option maxHeartbeats 8000000 in
set_option maxRecDepth 100000 in
theorem bytes_Equal.calls (A0 : Option Addr) (c0 : Nat) (l0 : List Int) (A1 : Option Addr) (c1 : Nat) (l1 : List Int) (r : Bool) (w : World) (hr0 : Kd.C (Kd.int .u8) w A0 l0.length l0) (hc0 : l0.length ≤ c0) (hr1 : Kd.C (Kd.int .u8) w A1 l1.length l1) (hc1 : l1.length ≤ c1) (h : bytes_Equal.f l0 l1 = some r) :
    Calls Try.prog 56 #[.slice A0 l0.length c0, .slice A1 l1.length c1] w fun e w' => e = .returned (.bool r) ∧ Drawn0 w w' := by
  have HR0 := Aside0.mk hr0
  have HC0 := Aside0.mk hc0
  clear hr0 hc0
  have HR1 := Aside0.mk hr1
  have HC1 := Aside0.mk hc1
  clear hr1 hc1
  have H : (some ((strOfNums l0).toList == (strOfNums l1).toList)) = some r := h
  clear h
  obtain rfl := Option.some.inj H
  have hcv3 := Kd.C_string (P := Try.prog) (A := A0) (c := c0) Try.underlying36 Try.underlying5 Try.underlying9 HR0.out
  have hcv4 := Kd.C_string (P := Try.prog) (A := A1) (c := c1) Try.underlying36 Try.underlying5 Try.underlying9 HR1.out
  go_enter Try.func56, Try.ntmps56
  go_wp2
  go_ret
  exact ⟨by first | rfl | (simp; done) | (simp [*]; done), by repeat (first | exact Drawn0.refl _ | apply Drawn0.step)⟩

end Go.Proofs.Ytokpniagnbaflaa.PFnExactPageRead
