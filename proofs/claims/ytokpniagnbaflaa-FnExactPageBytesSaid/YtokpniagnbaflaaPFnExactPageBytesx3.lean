-- By this session's own program (wip/xprint.py), over the kit's print.
import Derived.Test.YtokpniagnbaflaaPFnExactPageBytesx0
import Derived.Test.YtokpniagnbaflaaPFnExactPageBytesx2
namespace Go.Proofs.Ytokpniagnbaflaa.PFnExactPageBytes
open Go.RowKit Go.Proofs.YtokpniagnbaflaaW.PrintWords Go.Proofs.YtokpniagnbaflaaW.PrintLast Go.Proofs.YtokpniagnbaflaaW.PrintMore
attribute [local go_sem] max2_int min2_int max_two min_two max_three min_three max_four min_four   -- for this text's walks alone
attribute [local go_sem high] fl_eql fl_neq fl_lss fl_leq fl_gtr fl_geq fl_add fl_sub fl_mul fl_quo fl_neg fl_ofInt fl_toInt fl_store sub_sign fl_nan_quo fl_nan_add fl_nan_mul fl_nan_sub
open Go.Proofs.YtokpniagnbaflaaW.PrintWords renaming below_alloc → h1, pw_below_drewN → h2, below_drew1 → h3, below_set → h4, blk_drewN → b1, blk_drew → b2, blk_alloc → b3
set_option linter.unusedVariables false
set_option linter.unusedSimpArgs false

/-! ### spec_PageBytes: function 27 -/
mutual
def spec_PageBytes.l0 : Nat → List Int → Int → Int → List (List Int) → Option (List Int)
 | 0, _, _, _, _ => none
 | k + 1, x3, x4, x142000, x142001 => if x4 < (x142001.length : Int) then (if 0 ≤ x4 then (if x3.length < 140737488355328 then (spec_PageBytes.l0 k (x3 ++ [(((rd_L1 x142001 x4).length : Int)) % 256]) (wrap64 (x4 + 1)) x142000 x142001) else (none)) else (none)) else (spec_PageBytes.l1 k x3 0 x142000 x142001)
def spec_PageBytes.l1 : Nat → List Int → Int → Int → List (List Int) → Option (List Int)
 | 0, _, _, _, _ => none
 | k + 1, x3, x5, x142000, x142001 => if x5 < (x142001.length : Int) then (if 0 ≤ x5 then (if x3.length + (rd_L1 x142001 x5).length < 140737488355328 then (spec_PageBytes.l1 k (x3 ++ (rd_L1 x142001 x5)) (wrap64 (x5 + 1)) x142000 x142001) else (none)) else (none)) else (spec_PageBytes.l2 k x3 x142000 x142001)
def spec_PageBytes.l2 : Nat → List Int → Int → List (List Int) → Option (List Int)
 | 0, _, _, _ => none
 | k + 1, x3, x142000, x142001 => if (x3.length : Int) < 240 then (if x3.length < 140737488355328 then (spec_PageBytes.l2 k (x3 ++ [0]) x142000 x142001) else (none)) else (spec_PageBytes.l3 k x3 ([] : List Int) 0 x142000 x142001)
def spec_PageBytes.l3 : Nat → List Int → List Int → Int → Int → List (List Int) → Option (List Int)
 | 0, _, _, _, _, _ => none
 | k + 1, x3, x6, x7, x142000, x142001 => if x7 < (x3.length : Int) then ((spec_PutNum.f k x142000 4).bind fun t157 => (if x6.length + t157.length < 140737488355328 then ((some (x6 ++ t157 : List Int)).bind fun y160 => (if 0 ≤ x7 then (if x7 ≤ (wrap64 (x7 + 60)) then (if (wrap64 (x7 + 60)) ≤ (x3.length : Int) then ((some ((x3.take ((wrap64 (x7 + 60)) : Int).toNat).drop (x7 : Int).toNat : List Int)).bind fun y163 => (if y160.length + y163.length < 140737488355328 then (spec_PageBytes.l3 k x3 (y160 ++ y163) (wrap64 (x7 + 60)) x142000 x142001) else (none))) else (none)) else (none)) else (none))) else (none))) else (some x6)
end
def spec_PageBytes.f (k : Nat) (a0_0 : Int) (l0_1 : List (List Int)) : Option (List Int) := (spec_PageUsed.f k a0_0 l0_1).bind fun t142 => (if t142 < 0 then (some ([] : List Int)) else (spec_PageBytes.l0 k (([((l0_1.length : Int)) % 256] : List Int)) 0 a0_0 l0_1))
set_option maxRecDepth 100000 in
theorem spec_PageBytes.mono_l : ∀ k, (∀ y0 y1 y2 y3, LeO (spec_PageBytes.l0 k y0 y1 y2 y3) (spec_PageBytes.l0 (k + 1) y0 y1 y2 y3)) ∧ (∀ y0 y1 y2 y3, LeO (spec_PageBytes.l1 k y0 y1 y2 y3) (spec_PageBytes.l1 (k + 1) y0 y1 y2 y3)) ∧ (∀ y0 y1 y2, LeO (spec_PageBytes.l2 k y0 y1 y2) (spec_PageBytes.l2 (k + 1) y0 y1 y2)) ∧ (∀ y0 y1 y2 y3 y4, LeO (spec_PageBytes.l3 k y0 y1 y2 y3 y4) (spec_PageBytes.l3 (k + 1) y0 y1 y2 y3 y4))
 | 0 => ⟨fun _ _ _ _ r h => (by unfold spec_PageBytes.l0 at h; exact absurd h (by simp)), fun _ _ _ _ r h => (by unfold spec_PageBytes.l1 at h; exact absurd h (by simp)), fun _ _ _ r h => (by unfold spec_PageBytes.l2 at h; exact absurd h (by simp)), fun _ _ _ _ _ r h => (by unfold spec_PageBytes.l3 at h; exact absurd h (by simp))⟩
 | k + 1 => by
  obtain ⟨ih0, ih1, ih2, ih3⟩ := spec_PageBytes.mono_l k
  refine ⟨?_, ?_, ?_, ?_⟩
  ·intro y0 y1 y2 y3
   unfold spec_PageBytes.l0
   repeat' with_reducible first | exact ih0 _ _ _ _ | exact ih1 _ _ _ _ | exact ih2 _ _ _ | exact ih3 _ _ _ _ _ | exact spec_PageUsed.mono _ _ _ | exact spec_PutNum.mono _ _ _ | exact LeO.refl _ | exact LeO.none _ | refine LeO.ite ?_ ?_ | refine LeO.bind ?_ (fun _ => ?_)
  ·intro y0 y1 y2 y3
   unfold spec_PageBytes.l1
   repeat' with_reducible first | exact ih0 _ _ _ _ | exact ih1 _ _ _ _ | exact ih2 _ _ _ | exact ih3 _ _ _ _ _ | exact spec_PageUsed.mono _ _ _ | exact spec_PutNum.mono _ _ _ | exact LeO.refl _ | exact LeO.none _ | refine LeO.ite ?_ ?_ | refine LeO.bind ?_ (fun _ => ?_)
  ·intro y0 y1 y2
   unfold spec_PageBytes.l2
   repeat' with_reducible first | exact ih0 _ _ _ _ | exact ih1 _ _ _ _ | exact ih2 _ _ _ | exact ih3 _ _ _ _ _ | exact spec_PageUsed.mono _ _ _ | exact spec_PutNum.mono _ _ _ | exact LeO.refl _ | exact LeO.none _ | refine LeO.ite ?_ ?_ | refine LeO.bind ?_ (fun _ => ?_)
  ·intro y0 y1 y2 y3 y4
   unfold spec_PageBytes.l3
   repeat' with_reducible first | exact ih0 _ _ _ _ | exact ih1 _ _ _ _ | exact ih2 _ _ _ | exact ih3 _ _ _ _ _ | exact spec_PageUsed.mono _ _ _ | exact spec_PutNum.mono _ _ _ | exact LeO.refl _ | exact LeO.none _ | refine LeO.ite ?_ ?_ | refine LeO.bind ?_ (fun _ => ?_)
set_option maxRecDepth 100000 in
theorem spec_PageBytes.mono : ∀ a0 a1 k, LeO (spec_PageBytes.f k a0 a1) (spec_PageBytes.f (k + 1) a0 a1) := by
 intro a0 a1 k
 obtain ⟨ih0, ih1, ih2, ih3⟩ := spec_PageBytes.mono_l k
 unfold spec_PageBytes.f
 repeat' with_reducible first | exact ih0 _ _ _ _ | exact ih1 _ _ _ _ | exact ih2 _ _ _ | exact ih3 _ _ _ _ _ | exact spec_PageUsed.mono _ _ _ | exact spec_PutNum.mono _ _ _ | exact LeO.refl _ | exact LeO.none _ | refine LeO.ite ?_ ?_ | refine LeO.bind ?_ (fun _ => ?_)
set_option maxHeartbeats 8000000 in
set_option maxRecDepth 100000 in
theorem spec_PageBytes.calls (k : Nat) (a0_0 : Int) (A0_1 : Option Addr) (c0_1 : Nat) (l0_1 : List (List Int)) (r : List Int) (w : World) (hr0_1 : Kd.C (Kd.slice 5 (Kd.int .u8)) w A0_1 l0_1.length l0_1) (hc0_1 : l0_1.length ≤ c0_1) (h : spec_PageBytes.f k a0_0 l0_1 = some r) :
  Calls Try.prog 27 #[.agg #[.int .i64 a0_0, .slice A0_1 l0_1.length c0_1]] w fun e w' => ∃ v0_ : Value, e = .returned (v0_) ∧ Kd.R (Kd.int .u8) 5 w' w.heap.size (fun _ => True) v0_ r ∧ Below w.heap.size w w' := by
 have hu27 := Try.underlying27
 have HR0_1 := Aside0.mk hr0_1
 have HC0_1 := Aside0.mk hc0_1
 clear hr0_1 hc0_1
 have HB := Aside0.mk (Below.refl w.heap.size w)
 have H : ((spec_PageUsed.f k a0_0 l0_1).bind fun t142 => (if t142 < 0 then (some ([] : List Int)) else (spec_PageBytes.l0 k (([((l0_1.length : Int)) % 256] : List Int)) 0 a0_0 l0_1))) = some r := h
 clear h
 replace H := Option.bind_eq_some_iff.mp H
 obtain ⟨t142, A20, H⟩ := H
 replace H : (if t142 < 0 then (some ([] : List Int)) else (spec_PageBytes.l0 k (([((l0_1.length : Int)) % 256] : List Int)) 0 a0_0 l0_1)) = some r := H
 have A2 := Aside0.mk A20
 clear A20
 by_cases c3 : t142 < 0
 ·rw [if_pos c3] at H
  have c3b0 : decide (t142 < 0) = true := decide_eq_true c3
  clear c3
  obtain rfl := Option.some.inj H
  go_enter Try.func27, Try.ntmps27
  go_wp2_with (first | ((with_reducible refine gate_dst (N := 1) rfl ?_); refine box_event ?hg (N := 1) ?hd (cs := #[.int .i64 a0_0, .slice A0_1 l0_1.length c0_1]) (t := 27) ?hr ?_; (case hd => rfl); (case hg => rfl); (case hr => first | (go_simp; done) | (go_simp; rfl)); intro gb141 hg w4 hbox hb; have n0_ := Aside0.mk (below_step (hup HB.out) hb); have n1_ := Aside0.mk (hbox); have n2_ := Aside0.mk ((by rw [hg]; exact (below_size (hup HB.out)) : w.heap.size ≤ gb141)); have n3_ := Aside0.mk ((by rw [hg]; exact (below_size (hup HB.out)) : w.heap.size ≤ gb141)); clear HB; have HB := n0_; have BK141 := n1_; have GW141 := n2_; have GE141 := n3_; clear n0_ n1_ n2_ n3_; clear hb hbox hg; obtain ⟨hcz5_0, hcz5_1⟩ := blk_cells2 BK141.out; obtain ⟨hfz5_0, hfz5_1⟩ := blk_frozens2 BK141.out) | ((with_reducible refine gate_callee (f := 12) rfl ?_); refine goesL_ (some 9) rfl rfl Try.func12 (by kernel_rfl) rfl #[.agg #[.int .i64 a0_0, .slice A0_1 l0_1.length c0_1]] rfl (by (try simp only [List.map_toArray, List.map_cons, List.map_nil]); first | done | rfl) ?_; (with_reducible refine (spec_PageUsed.calls k a0_0 _ _ l0_1 t142 _ ?side1 ?side2 A2.out).mono ?_); (case side1 => repeat (first | exact (Kd.C_below HR0_1.out HB.out) | (with_reducible refine Kd.C_alloc ?_ _) | (with_reducible refine Kd.C_drewN ?_ _) | (with_reducible refine Kd.C_drew ?_))); (case side2 => exact HC0_1.out); rintro e w6 ⟨rfl, hb⟩; refine ⟨_, rfl, ?_⟩; have n0_ := Aside0.mk (blk_below (g := gb141) (o := .cells #[.int .i64 a0_0, .slice A0_1 l0_1.length c0_1] 27 (0, 0)) (bup BK141.out) hb); have n1_ := Aside0.mk (below_step (by with_reducible repeat (first | exact HB.out | refine h4 ?_ GE141.out | apply h1 | apply h2 | apply h3)) hb); clear BK141; clear HB; have BK141 := n0_; have HB := n1_; clear n0_ n1_; (try clear hb); (try clear hb2); (try clear hk); (try clear hi)))
  go_ret
  exact ⟨_, by first | rfl | (simp [errW_none, errW_some] <;> rfl) | (simp [*, errW_none, errW_some] <;> rfl), by first | exact Kd.R_nil _ _ _ _ _ | exact Kd.N_nil _ _ _ _ _ | exact Kd.V_nil _ _ _ _ _ | exact Kd.Q_nil _ _ _ _ _ | exact Kd.S_nil _ _ _ _ _, by with_reducible repeat (first | exact HB.out | refine h4 ?_ GE141.out | apply h1 | apply h2 | apply h3)⟩
 ·rw [if_neg c3] at H
  have c3b0 : decide (t142 < 0) = false := decide_eq_false c3
  clear c3
  obtain ⟨y143, hy143⟩ : ∃ y_ : List Int, y_ = (([((l0_1.length : Int)) % 256] : List Int)) := ⟨_, rfl⟩
  replace H : (spec_PageBytes.l0 k y143 0 a0_0 l0_1) = some r := by first | (rw [hy143]; with_reducible exact H) | (have H2_ := (Option.bind_some _ _).symm.trans H; rw [hy143]; with_reducible exact H2_) | (have H2_ := (Option.bind_some _ _).symm.trans H; with_reducible exact H2_) | with_reducible exact H | (rw [hy143]; exact H) | exact H
  have Ny143 := Aside0.mk hy143
  clear hy143
  have H' := Aside0.mk H
  clear H
  go_enter Try.func27, Try.ntmps27
  go_wp2_with (first | ((with_reducible refine gate_dst (N := 1) rfl ?_); refine box_event ?hg (N := 1) ?hd (cs := #[.int .i64 a0_0, .slice A0_1 l0_1.length c0_1]) (t := 27) ?hr ?_; (case hd => rfl); (case hg => rfl); (case hr => first | (go_simp; done) | (go_simp; rfl)); intro gb141 hg w7 hbox hb; have n0_ := Aside0.mk (below_step (hup HB.out) hb); have n1_ := Aside0.mk (hbox); have n2_ := Aside0.mk ((by rw [hg]; exact (below_size (hup HB.out)) : w.heap.size ≤ gb141)); have n3_ := Aside0.mk ((by rw [hg]; exact (below_size (hup HB.out)) : w.heap.size ≤ gb141)); clear HB; have HB := n0_; have BK141 := n1_; have GW141 := n2_; have GE141 := n3_; clear n0_ n1_ n2_ n3_; clear hb hbox hg; obtain ⟨hcz8_0, hcz8_1⟩ := blk_cells2 BK141.out; obtain ⟨hfz8_0, hfz8_1⟩ := blk_frozens2 BK141.out) | ((with_reducible refine gate_callee (f := 12) rfl ?_); refine goesL_ (some 9) rfl rfl Try.func12 (by kernel_rfl) rfl #[.agg #[.int .i64 a0_0, .slice A0_1 l0_1.length c0_1]] rfl (by (try simp only [List.map_toArray, List.map_cons, List.map_nil]); first | done | rfl) ?_; (with_reducible refine (spec_PageUsed.calls k a0_0 _ _ l0_1 t142 _ ?side1 ?side2 A2.out).mono ?_); (case side1 => repeat (first | exact (Kd.C_below HR0_1.out HB.out) | (with_reducible refine Kd.C_alloc ?_ _) | (with_reducible refine Kd.C_drewN ?_ _) | (with_reducible refine Kd.C_drew ?_))); (case side2 => exact HC0_1.out); rintro e w9 ⟨rfl, hb⟩; refine ⟨_, rfl, ?_⟩; have n0_ := Aside0.mk (blk_below (g := gb141) (o := .cells #[.int .i64 a0_0, .slice A0_1 l0_1.length c0_1] 27 (0, 0)) (bup BK141.out) hb); have n1_ := Aside0.mk (below_step (by with_reducible repeat (first | exact HB.out | refine h4 ?_ GE141.out | apply h1 | apply h2 | apply h3)) hb); clear BK141; clear HB; have BK141 := n0_; have HB := n1_; clear n0_ n1_; (try clear hb); (try clear hb2); (try clear hk); (try clear hi); obtain ⟨hcz10_0, hcz10_1⟩ := blk_cells2 BK141.out; obtain ⟨hfz10_0, hfz10_1⟩ := blk_frozens2 BK141.out) | ((with_reducible refine gate_dst (N := 15) rfl ?_); refine Kd.R_lit (Kd.int .u8) _ 5 ?hg (N := 15) ?hd (xs := ([((l0_1.length : Int)) % 256] : List Int)) (inner := [.int .u8 (((l0_1.length : Int)) % 256)]) (ok := fun _ => True) (okp := fun _ => True) ?hr ?hp (fun _ hk => hk) trivial (Below.refl _ _) (Nat.le_refl _) (by simp) ?_; (case hd => rfl); (case hg => rfl); (case hr => first | (go_simp; done) | (go_simp; rfl)); (case hp => exact (Reps.one (show Kd.M (Kd.int .u8) _ _ _ (((l0_1.length : Int)) % 256) [.int .u8 (((l0_1.length : Int)) % 256)] from rfl) (Reps.none _ _))); intro v144 w11 ho12 hb hg_ hnew_; clear hg_ hnew_; (first | rw [← Ny143.out] at ho12 | (simp only [Int.reduceToNat] at ho12; rw [← Ny143.out] at ho12)); have n0_ := Aside0.mk (Kd.R_lower ho12 (below_size (by with_reducible repeat (first | exact HB.out | refine h4 ?_ GE141.out | apply h1 | apply h2 | apply h3)))); have n1_ := Aside0.mk (blk_below (g := gb141) (o := .cells #[.int .i64 a0_0, .slice A0_1 l0_1.length c0_1] 27 (0, 0)) (bup BK141.out) hb); have n2_ := Aside0.mk (below_step (by with_reducible repeat (first | exact HB.out | refine h4 ?_ GE141.out | apply h1 | apply h2 | apply h3)) hb); clear BK141; clear HB; have HO145 := n0_; have BK141 := n1_; have HB := n2_; clear n0_ n1_ n2_; clear hb ho12))
  go_loopg [3, 4] k (fun kq v3 v4 w' => ∃ (x3_1 : List Int) (x4_1 : Int), v4 = .int .i64 x4_1 ∧ Aside0 (spec_PageBytes.l0 kq x3_1 x4_1 a0_0 l0_1 = some r) ∧ Aside0 (kq ≤ k) ∧ Aside0 (Kd.R (Kd.int .u8) 5 w' w.heap.size (fun _ => True) v3 x3_1) ∧ Aside0 (w'.heap[gb141]? = some (.cells #[.int .i64 a0_0, (.slice A0_1 l0_1.length c0_1)] 27 (0, 0))) ∧ Aside0 (Below w.heap.size w w'))
  case atStart => exact ⟨(y143), (0), (by first | rfl | (simp; done) | (simp [*]; done)), H', ⟨Nat.le_refl _⟩, ⟨by exact Kd.rup HO145.out⟩, ⟨by exact bup BK141.out⟩, ⟨by with_reducible repeat (first | exact HB.out | refine h4 ?_ GE141.out | apply h1 | apply h2 | apply h3)⟩⟩
  case round =>
   clear H'
   try clear c1
   try clear c2
   try clear p2
   try clear c3
   try clear c3b0
   try clear c12
   try clear hcz10_0
   try clear hcz10_1
   try clear hcz5_0
   try clear hcz5_1
   try clear hcz8_0
   try clear hcz8_1
   try clear hfz10_0
   try clear hfz10_1
   try clear hfz5_0
   try clear hfz5_1
   try clear hfz8_0
   try clear hfz8_1
   obtain ⟨x3_1, x4_1, rfl, HA, HK1, HO_3, BK141, HB⟩ := hrel
   cases gk with
   | zero => exact absurd HA.out (by unfold spec_PageBytes.l0; simp)
   | succ k1 =>
    have H := HA.out
    clear HA
    unfold spec_PageBytes.l0 at H; try dsimp only at H
    by_cases c13 : x4_1 < (l0_1.length : Int)
    ·rw [if_pos c13] at H
     have c13b0 : decide (x4_1 < (l0_1.length : Int)) = true := decide_eq_true c13
     clear c13
     by_cases c14 : 0 ≤ x4_1
     ·rw [if_pos c14] at H
      have c14b0 : decide (0 ≤ x4_1) = true := decide_eq_true c14
      clear c14
      by_cases c15 : x3_1.length < 140737488355328
      ·rw [if_pos c15] at H
       have LMc15 := Aside0.mk c15
       clear c15
       obtain ⟨y147, hy147⟩ : ∃ y_ : List Int, y_ = (x3_1 ++ [(((rd_L1 l0_1 x4_1).length : Int)) % 256]) := ⟨_, rfl⟩
       replace H : (spec_PageBytes.l0 k1 y147 (wrap64 (x4_1 + 1)) a0_0 l0_1) = some r := by first | (rw [hy147]; with_reducible exact H) | (have H2_ := (Option.bind_some _ _).symm.trans H; rw [hy147]; with_reducible exact H2_) | (have H2_ := (Option.bind_some _ _).symm.trans H; with_reducible exact H2_) | with_reducible exact H | (rw [hy147]; exact H) | exact H
       have Ny147 := Aside0.mk hy147
       clear hy147
       have H' := Aside0.mk H
       clear H
       obtain ⟨hcz16_0, hcz16_1⟩ := blk_cells2 BK141.out
       obtain ⟨hfz16_0, hfz16_1⟩ := blk_frozens2 BK141.out
       have p146 : 0 ≤ (x4_1 : Int) := of_decide_eq_true (by first | (with_reducible assumption) | assumption)
       have q146 : x4_1 < (l0_1.length : Int) := of_decide_eq_true (by first | (with_reducible assumption) | assumption)
       obtain ⟨ad146, A146_0, c146_0, e146, hx146_0, hl146_0, hi146_0⟩ := at_L1 HR0_1.out x4_1 p146 q146
       cases e146
       replace hx146_0 := (HB.out.cell (World.block_lt_of_cell? w _ hx146_0)).trans hx146_0
       have HR146_0 := Aside0.mk hi146_0
       have HC146_0 := Aside0.mk hl146_0
       clear hi146_0 hl146_0
       replace p146 := eq_true p146
       replace q146 := eq_true q146
       go_wp2_with (first | ((with_reducible refine gate_builtin (b := .append) (xs := #[.tmp 23, .tmp 31]) rfl ?_); at_builtin; refine Kd.R_append (Kd.int .u8) (w0 := w) w.heap.size rfl (.tmp 23) (.tmp 31) 36 5 (.int .u8 0) 1 rfl Try.underlying36 info5 rfl (by decide) (by omega) u3 x3_1 ((((rd_L1 l0_1 x4_1).length : Int)) % 256) [.int .u8 ((((rd_L1 l0_1 x4_1).length : Int)) % 256)] (fun _ => True) (fun _ => False) rfl rfl ?aP (fun _ hk => hk.elim) ?aF ?aO ?aB ?aS ?aL ?_; (case aP => exact rfl); (case aB => exact (by with_reducible repeat (first | exact HB.out | refine h4 ?_ GE141.out | apply h1 | apply h2 | apply h3))); (case aF => exact (fun _ _ => trivial)); (case aO => exact (Kd.rup HO_3.out)); (case aS => exact (below_size (by with_reducible repeat (first | exact HB.out | refine h4 ?_ GE141.out | apply h1 | apply h2 | apply h3)))); (case aL => have := LMc15.out; omega); intro v148 w17 ho hb hg hat; rw [← Ny147.out] at ho; have n0_ := Aside0.mk (blk_grown (g := gb141) (o := .cells #[.int .i64 a0_0, .slice (some ad146) l0_1.length c0_1] 27 (0, 0)) (bup BK141.out) hg (Kd.R_ne HO_3.out BK141.out (by decide))); have n1_ := Aside0.mk (hb); have n2_ := Aside0.mk (ho); clear BK141; clear HB; clear HO_3; have BK141 := n0_; have HB := n1_; have HO149 := n2_; clear n0_ n1_ n2_; clear ho hb hg hat))
       go_roundg k1
       case measure => have := HK1.out; omega
       case rel => exact ⟨(y147), (wrap64 (x4_1 + 1)), (by first | rfl | (simp; done) | (simp [*]; done)), H', ⟨by have := HK1.out; omega⟩, ⟨by exact Kd.rup HO149.out⟩, ⟨by exact bup BK141.out⟩, ⟨by with_reducible repeat (first | exact HB.out | refine h4 ?_ GE141.out | apply h1 | apply h2 | apply h3)⟩⟩
      ·rw [if_neg c15] at H
       exact absurd H (by simp)
     ·rw [if_neg c14] at H
      exact absurd H (by simp)
    ·rw [if_neg c13] at H
     have c13b0 : decide (x4_1 < (l0_1.length : Int)) = false := decide_eq_false c13
     clear c13
     have H' := Aside0.mk H
     clear H
     obtain ⟨hcz18_0, hcz18_1⟩ := blk_cells2 BK141.out
     obtain ⟨hfz18_0, hfz18_1⟩ := blk_frozens2 BK141.out
     go_wp2
     go_loopg [3, 5] k1 (fun kq v3 v5 w' => ∃ (x3_2 : List Int) (x5_2 : Int), v5 = .int .i64 x5_2 ∧ Aside0 (spec_PageBytes.l1 kq x3_2 x5_2 a0_0 l0_1 = some r) ∧ Aside0 (kq ≤ k1) ∧ Aside0 (Kd.R (Kd.int .u8) 5 w' w.heap.size (fun _ => True) v3 x3_2) ∧ Aside0 (w'.heap[gb141]? = some (.cells #[.int .i64 a0_0, (.slice A0_1 l0_1.length c0_1)] 27 (0, 0))) ∧ Aside0 (Below w.heap.size w w'))
     case atStart => exact ⟨(x3_1), (0), (by first | rfl | (simp; done) | (simp [*]; done)), H', ⟨Nat.le_refl _⟩, ⟨by exact Kd.rup HO_3.out⟩, ⟨by exact bup BK141.out⟩, ⟨by with_reducible repeat (first | exact HB.out | refine h4 ?_ GE141.out | apply h1 | apply h2 | apply h3)⟩⟩
     case round =>
      clear H'
      try clear c1
      try clear p1
      try clear q1
      try clear hx1
      try clear c2
      try clear p2
      try clear c3
      try clear c3b0
      try clear p6
      try clear c12
      try clear c13
      try clear c13b0
      try clear c14
      try clear c14b0
      try clear p14
      try clear q14
      try clear hx14
      try clear c15
      try clear hcz10_0
      try clear hcz10_1
      try clear hcz16_0
      try clear hcz16_1
      try clear hcz18_0
      try clear hcz18_1
      try clear hcz5_0
      try clear hcz5_1
      try clear hcz8_0
      try clear hcz8_1
      try clear hfz10_0
      try clear hfz10_1
      try clear hfz16_0
      try clear hfz16_1
      try clear hfz18_0
      try clear hfz18_1
      try clear hfz5_0
      try clear hfz5_1
      try clear hfz8_0
      try clear hfz8_1
      try clear hx146_0
      try clear p146
      try clear p2
      try clear q146
      obtain ⟨x3_2, x5_2, rfl, HA, HK2, HO_3, BK141, HB⟩ := hrel
      cases gk with
      | zero => exact absurd HA.out (by unfold spec_PageBytes.l1; simp)
      | succ k2 =>
       have H := HA.out
       clear HA
       unfold spec_PageBytes.l1 at H; try dsimp only at H
       by_cases c19 : x5_2 < (l0_1.length : Int)
       ·rw [if_pos c19] at H
        have c19b0 : decide (x5_2 < (l0_1.length : Int)) = true := decide_eq_true c19
        clear c19
        by_cases c20 : 0 ≤ x5_2
        ·rw [if_pos c20] at H
         have c20b0 : decide (0 ≤ x5_2) = true := decide_eq_true c20
         clear c20
         by_cases c21 : x3_2.length + (rd_L1 l0_1 x5_2).length < 140737488355328
         ·rw [if_pos c21] at H
          have LMc21 := Aside0.mk c21
          clear c21
          obtain ⟨y151, hy151⟩ : ∃ y_ : List Int, y_ = (x3_2 ++ (rd_L1 l0_1 x5_2)) := ⟨_, rfl⟩
          replace H : (spec_PageBytes.l1 k2 y151 (wrap64 (x5_2 + 1)) a0_0 l0_1) = some r := by first | (rw [hy151]; with_reducible exact H) | (have H2_ := (Option.bind_some _ _).symm.trans H; rw [hy151]; with_reducible exact H2_) | (have H2_ := (Option.bind_some _ _).symm.trans H; with_reducible exact H2_) | with_reducible exact H | (rw [hy151]; exact H) | exact H
          have Ny151 := Aside0.mk hy151
          clear hy151
          have H' := Aside0.mk H
          clear H
          obtain ⟨hcz22_0, hcz22_1⟩ := blk_cells2 BK141.out
          obtain ⟨hfz22_0, hfz22_1⟩ := blk_frozens2 BK141.out
          have p150 : 0 ≤ (x5_2 : Int) := of_decide_eq_true (by first | (with_reducible assumption) | assumption)
          have q150 : x5_2 < (l0_1.length : Int) := of_decide_eq_true (by first | (with_reducible assumption) | assumption)
          obtain ⟨ad150, A150_0, c150_0, e150, hx150_0, hl150_0, hi150_0⟩ := at_L1 HR0_1.out x5_2 p150 q150
          cases e150
          replace hx150_0 := (HB.out.cell (World.block_lt_of_cell? w _ hx150_0)).trans hx150_0
          have HR150_0 := Aside0.mk hi150_0
          have HC150_0 := Aside0.mk hl150_0
          clear hi150_0 hl150_0
          replace p150 := eq_true p150
          replace q150 := eq_true q150
          go_wp2_with (first | ((with_reducible refine gate_builtin (b := .append) (xs := #[.tmp 40, .tmp 45]) rfl ?_); at_builtin; refine Kd.R_append_rows (Kd.int .u8) (w0 := w) w.heap.size rfl (.tmp 40) (.tmp 45) 36 5 (.int .u8 0) 1 rfl Try.underlying36 info5 rfl (by decide) (by omega) u3 x3_2 (rd_L1 l0_1 x5_2) _ _ _ (fun _ => True) (fun _ => False) rfl rfl ?aO ?aR (fun _ _ h => h) (fun _ h => h.elim) ?aF ?aB ?aS ?aL ?_; (case aR => repeat (first | exact (Kd.C_below HR150_0.out HB.out) | (with_reducible refine Kd.C_alloc ?_ _) | (with_reducible refine Kd.C_drewN ?_ _) | (with_reducible refine Kd.C_drew ?_))); (case aB => exact (by with_reducible repeat (first | exact HB.out | refine h4 ?_ GE141.out | apply h1 | apply h2 | apply h3))); (case aF => exact (fun _ _ => trivial)); (case aO => exact (Kd.rup HO_3.out)); (case aS => exact (below_size (by with_reducible repeat (first | exact HB.out | refine h4 ?_ GE141.out | apply h1 | apply h2 | apply h3)))); (case aL => have := LMc21.out; omega); intro v152 w23 ho hb hg hat; rw [← Ny151.out] at ho; have n0_ := Aside0.mk (blk_grown (g := gb141) (o := .cells #[.int .i64 a0_0, .slice (some ad150) l0_1.length c0_1] 27 (0, 0)) (bup BK141.out) hg (Kd.R_ne HO_3.out BK141.out (by decide))); have n1_ := Aside0.mk (hb); have n2_ := Aside0.mk (ho); clear BK141; clear HB; clear HO_3; have BK141 := n0_; have HB := n1_; have HO153 := n2_; clear n0_ n1_ n2_; clear ho hb hg hat))
          go_roundg k2
          case measure => have := HK1.out; have := HK2.out; omega
          case rel => exact ⟨(y151), (wrap64 (x5_2 + 1)), (by first | rfl | (simp; done) | (simp [*]; done)), H', ⟨by have := HK1.out; have := HK2.out; omega⟩, ⟨by exact Kd.rup HO153.out⟩, ⟨by exact bup BK141.out⟩, ⟨by with_reducible repeat (first | exact HB.out | refine h4 ?_ GE141.out | apply h1 | apply h2 | apply h3)⟩⟩
         ·rw [if_neg c21] at H
          exact absurd H (by simp)
        ·rw [if_neg c20] at H
         exact absurd H (by simp)
       ·rw [if_neg c19] at H
        have c19b0 : decide (x5_2 < (l0_1.length : Int)) = false := decide_eq_false c19
        clear c19
        have H' := Aside0.mk H
        clear H
        obtain ⟨hcz24_0, hcz24_1⟩ := blk_cells2 BK141.out
        obtain ⟨hfz24_0, hfz24_1⟩ := blk_frozens2 BK141.out
        go_wp2
        go_loopg [3] k2 (fun kq v3 w' => ∃ (x3_3 : List Int), Aside0 (spec_PageBytes.l2 kq x3_3 a0_0 l0_1 = some r) ∧ Aside0 (kq ≤ k2) ∧ Aside0 (Kd.R (Kd.int .u8) 5 w' w.heap.size (fun _ => True) v3 x3_3) ∧ Aside0 (w'.heap[gb141]? = some (.cells #[.int .i64 a0_0, (.slice A0_1 l0_1.length c0_1)] 27 (0, 0))) ∧ Aside0 (Below w.heap.size w w'))
        case atStart => exact ⟨(x3_2), H', ⟨Nat.le_refl _⟩, ⟨by exact Kd.rup HO_3.out⟩, ⟨by exact bup BK141.out⟩, ⟨by with_reducible repeat (first | exact HB.out | refine h4 ?_ GE141.out | apply h1 | apply h2 | apply h3)⟩⟩
        case round =>
         clear H'
         try clear c1
         try clear p1
         try clear q1
         try clear hx1
         try clear c2
         try clear p2
         try clear c3
         try clear c3b0
         try clear p6
         try clear c12
         try clear c13
         try clear c13b0
         try clear c14
         try clear c14b0
         try clear p14
         try clear q14
         try clear hx14
         try clear c15
         try clear p15
         try clear q15
         try clear hx15
         try clear c19
         try clear c19b0
         try clear c20
         try clear c20b0
         try clear c21
         try clear hcz10_0
         try clear hcz10_1
         try clear hcz16_0
         try clear hcz16_1
         try clear hcz18_0
         try clear hcz18_1
         try clear hcz22_0
         try clear hcz22_1
         try clear hcz24_0
         try clear hcz24_1
         try clear hcz5_0
         try clear hcz5_1
         try clear hcz8_0
         try clear hcz8_1
         try clear hfz10_0
         try clear hfz10_1
         try clear hfz16_0
         try clear hfz16_1
         try clear hfz18_0
         try clear hfz18_1
         try clear hfz22_0
         try clear hfz22_1
         try clear hfz24_0
         try clear hfz24_1
         try clear hfz5_0
         try clear hfz5_1
         try clear hfz8_0
         try clear hfz8_1
         try clear hx146_0
         try clear hx150_0
         try clear p1
         try clear p14
         try clear p146
         try clear p150
         try clear p2
         try clear p6
         try clear q1
         try clear q14
         try clear q146
         try clear q150
         obtain ⟨x3_3, HA, HK3, HO_3, BK141, HB⟩ := hrel
         cases gk with
         | zero => exact absurd HA.out (by unfold spec_PageBytes.l2; simp)
         | succ k3 =>
          have H := HA.out
          clear HA
          unfold spec_PageBytes.l2 at H; try dsimp only at H
          by_cases c25 : (x3_3.length : Int) < 240
          ·rw [if_pos c25] at H
           have c25b0 : decide ((x3_3.length : Int) < 240) = true := decide_eq_true c25
           have c25b1 : decide (x3_3.length < 240) = true := decide_eq_true (by omega)
           clear c25
           by_cases c26 : x3_3.length < 140737488355328
           ·rw [if_pos c26] at H
            have LMc26 := Aside0.mk c26
            clear c26
            obtain ⟨y154, hy154⟩ : ∃ y_ : List Int, y_ = (x3_3 ++ [0]) := ⟨_, rfl⟩
            replace H : (spec_PageBytes.l2 k3 y154 a0_0 l0_1) = some r := by first | (rw [hy154]; with_reducible exact H) | (have H2_ := (Option.bind_some _ _).symm.trans H; rw [hy154]; with_reducible exact H2_) | (have H2_ := (Option.bind_some _ _).symm.trans H; with_reducible exact H2_) | with_reducible exact H | (rw [hy154]; exact H) | exact H
            have Ny154 := Aside0.mk hy154
            clear hy154
            have H' := Aside0.mk H
            clear H
            obtain ⟨Ao27, co27, eo27⟩ := Kd.R_slice HO_3.out
            subst eo27
            go_wp2_with (first | ((with_reducible refine gate_builtin (b := .append) (xs := #[.tmp 50, .tmp 51]) rfl ?_); at_builtin; refine Kd.R_append (Kd.int .u8) (w0 := w) w.heap.size rfl (.tmp 50) (.tmp 51) 36 5 (.int .u8 0) 1 rfl Try.underlying36 info5 rfl (by decide) (by omega) (.slice Ao27 x3_3.length co27) x3_3 0 [.int .u8 0] (fun _ => True) (fun _ => False) rfl rfl ?aP (fun _ hk => hk.elim) ?aF ?aO ?aB ?aS ?aL ?_; (case aP => exact rfl); (case aB => exact (by with_reducible repeat (first | exact HB.out | refine h4 ?_ GE141.out | apply h1 | apply h2 | apply h3))); (case aF => exact (fun _ _ => trivial)); (case aO => exact (Kd.rup HO_3.out)); (case aS => exact (below_size (by with_reducible repeat (first | exact HB.out | refine h4 ?_ GE141.out | apply h1 | apply h2 | apply h3)))); (case aL => have := LMc26.out; omega); intro v155 w28 ho hb hg hat; rw [← Ny154.out] at ho; have n0_ := Aside0.mk (blk_grown (g := gb141) (o := .cells #[.int .i64 a0_0, .slice A0_1 l0_1.length c0_1] 27 (0, 0)) (bup BK141.out) hg (Kd.R_ne HO_3.out BK141.out (by decide))); have n1_ := Aside0.mk (hb); have n2_ := Aside0.mk (ho); clear BK141; clear HB; clear HO_3; have BK141 := n0_; have HB := n1_; have HO156 := n2_; clear n0_ n1_ n2_; clear ho hb hg hat))
            go_roundg k3
            case measure => have := HK1.out; have := HK2.out; have := HK3.out; omega
            case rel => exact ⟨(y154), H', ⟨by have := HK1.out; have := HK2.out; have := HK3.out; omega⟩, ⟨by exact Kd.rup HO156.out⟩, ⟨by exact bup BK141.out⟩, ⟨by with_reducible repeat (first | exact HB.out | refine h4 ?_ GE141.out | apply h1 | apply h2 | apply h3)⟩⟩
           ·rw [if_neg c26] at H
            exact absurd H (by simp)
          ·rw [if_neg c25] at H
           have c25b0 : decide ((x3_3.length : Int) < 240) = false := decide_eq_false c25
           have c25b1 : decide (x3_3.length < 240) = false := decide_eq_false (by omega)
           clear c25
           have H' := Aside0.mk H
           clear H
           obtain ⟨Ao29, co29, eo29⟩ := Kd.R_slice HO_3.out
           subst eo29
           go_wp2
           go_loopg [6, 7] k3 (fun kq v6 v7 w' => ∃ (x6_4 : List Int) (x7_4 : Int), v7 = .int .i64 x7_4 ∧ Aside0 (spec_PageBytes.l3 kq x3_3 x6_4 x7_4 a0_0 l0_1 = some r) ∧ Aside0 (kq ≤ k3) ∧ Aside0 (Kd.R (Kd.int .u8) 5 w' w.heap.size (fun k_ => some k_ ≠ (v6 : Value).ownBlock) (.slice Ao29 x3_3.length co29) x3_3) ∧ Aside0 (Kd.R (Kd.int .u8) 5 w' w.heap.size (fun k_ => some k_ ≠ ((.slice Ao29 x3_3.length co29) : Value).ownBlock) v6 x6_4) ∧ Aside0 (w'.heap[gb141]? = some (.cells #[.int .i64 a0_0, (.slice A0_1 l0_1.length c0_1)] 27 (0, 0))) ∧ Aside0 (Below w.heap.size w w'))
           case atStart => exact ⟨(([] : List Int)), (0), (by first | rfl | (simp; done) | (simp [*]; done)), H', ⟨Nat.le_refl _⟩, ⟨by exact Kd.rup (Kd.R_mono HO_3.out (fun _ hk => (by simp [Value.ownBlock])))⟩, ⟨by first | exact Kd.R_nil _ _ _ _ _ | exact Kd.N_nil _ _ _ _ _ | exact Kd.V_nil _ _ _ _ _ | exact Kd.Q_nil _ _ _ _ _ | exact Kd.S_nil _ _ _ _ _⟩, ⟨by exact bup BK141.out⟩, ⟨by with_reducible repeat (first | exact HB.out | refine h4 ?_ GE141.out | apply h1 | apply h2 | apply h3)⟩⟩
           case round =>
            clear H'
            try clear c1
            try clear p1
            try clear q1
            try clear hx1
            try clear c2
            try clear p2
            try clear c3
            try clear c3b0
            try clear p6
            try clear c12
            try clear c13
            try clear c13b0
            try clear c14
            try clear c14b0
            try clear p14
            try clear q14
            try clear hx14
            try clear c15
            try clear p15
            try clear q15
            try clear hx15
            try clear c19
            try clear c19b0
            try clear c20
            try clear c20b0
            try clear c21
            try clear c25
            try clear c25b0
            try clear c25b1
            try clear c26
            try clear c27
            try clear hcz10_0
            try clear hcz10_1
            try clear hcz16_0
            try clear hcz16_1
            try clear hcz18_0
            try clear hcz18_1
            try clear hcz22_0
            try clear hcz22_1
            try clear hcz24_0
            try clear hcz24_1
            try clear hcz5_0
            try clear hcz5_1
            try clear hcz8_0
            try clear hcz8_1
            try clear hfz10_0
            try clear hfz10_1
            try clear hfz16_0
            try clear hfz16_1
            try clear hfz18_0
            try clear hfz18_1
            try clear hfz22_0
            try clear hfz22_1
            try clear hfz24_0
            try clear hfz24_1
            try clear hfz5_0
            try clear hfz5_1
            try clear hfz8_0
            try clear hfz8_1
            try clear hx146_0
            try clear hx150_0
            try clear p1
            try clear p14
            try clear p146
            try clear p15
            try clear p150
            try clear p2
            try clear p6
            try clear q1
            try clear q14
            try clear q146
            try clear q15
            try clear q150
            obtain ⟨x6_4, x7_4, rfl, HA, HK4, HO_3, HO_6, BK141, HB⟩ := hrel
            cases gk with
            | zero => exact absurd HA.out (by unfold spec_PageBytes.l3; simp)
            | succ k4 =>
             have H := HA.out
             clear HA
             unfold spec_PageBytes.l3 at H; try dsimp only at H
             by_cases c30 : x7_4 < (x3_3.length : Int)
             ·rw [if_pos c30] at H
              have c30b0 : decide (x7_4 < (x3_3.length : Int)) = true := decide_eq_true c30
              clear c30
              replace H := Option.bind_eq_some_iff.mp H
              obtain ⟨t157, A310, H⟩ := H
              replace H : (if x6_4.length + t157.length < 140737488355328 then ((some (x6_4 ++ t157 : List Int)).bind fun y160 => (if 0 ≤ x7_4 then (if x7_4 ≤ (wrap64 (x7_4 + 60)) then (if (wrap64 (x7_4 + 60)) ≤ (x3_3.length : Int) then ((some ((x3_3.take ((wrap64 (x7_4 + 60)) : Int).toNat).drop (x7_4 : Int).toNat : List Int)).bind fun y163 => (if y160.length + y163.length < 140737488355328 then (spec_PageBytes.l3 k4 x3_3 (y160 ++ y163) (wrap64 (x7_4 + 60)) a0_0 l0_1) else (none))) else (none)) else (none)) else (none))) else (none)) = some r := H
              have A31 := Aside0.mk A310
              clear A310
              by_cases c32 : x6_4.length + t157.length < 140737488355328
              ·rw [if_pos c32] at H
               have LMc32 := Aside0.mk c32
               clear c32
               obtain ⟨y160, hy160⟩ : ∃ y_ : List Int, y_ = (x6_4 ++ t157) := ⟨_, rfl⟩
               replace H : (if 0 ≤ x7_4 then (if x7_4 ≤ (wrap64 (x7_4 + 60)) then (if (wrap64 (x7_4 + 60)) ≤ (x3_3.length : Int) then ((some ((x3_3.take ((wrap64 (x7_4 + 60)) : Int).toNat).drop (x7_4 : Int).toNat : List Int)).bind fun y163 => (if y160.length + y163.length < 140737488355328 then (spec_PageBytes.l3 k4 x3_3 (y160 ++ y163) (wrap64 (x7_4 + 60)) a0_0 l0_1) else (none))) else (none)) else (none)) else (none)) = some r := by first | (rw [hy160]; with_reducible exact H) | (have H2_ := (Option.bind_some _ _).symm.trans H; rw [hy160]; with_reducible exact H2_) | (have H2_ := (Option.bind_some _ _).symm.trans H; with_reducible exact H2_) | with_reducible exact H | (rw [hy160]; exact H) | exact H
               have Ny160 := Aside0.mk hy160
               clear hy160
               by_cases c33 : 0 ≤ x7_4
               ·rw [if_pos c33] at H
                have c33b0 := eq_true c33
                have c33b1 : decide (0 ≤ x7_4) = true := decide_eq_true c33
                clear c33
                by_cases c34 : x7_4 ≤ (wrap64 (x7_4 + 60))
                ·rw [if_pos c34] at H
                 have c34b0 := eq_true c34
                 have c34b1 : decide (x7_4 ≤ (wrap64 (x7_4 + 60))) = true := decide_eq_true c34
                 by_cases c35 : (wrap64 (x7_4 + 60)) ≤ (x3_3.length : Int)
                 ·rw [if_pos c35] at H
                  have c35b0 := eq_true c35
                  have c35b1 : decide ((wrap64 (x7_4 + 60)) ≤ (x3_3.length : Int)) = true := decide_eq_true c35
                  obtain ⟨y163, hy163⟩ : ∃ y_ : List Int, y_ = ((x3_3.take ((wrap64 (x7_4 + 60)) : Int).toNat).drop (x7_4 : Int).toNat) := ⟨_, rfl⟩
                  replace H : (if y160.length + y163.length < 140737488355328 then (spec_PageBytes.l3 k4 x3_3 (y160 ++ y163) (wrap64 (x7_4 + 60)) a0_0 l0_1) else (none)) = some r := by first | (rw [hy163]; with_reducible exact H) | (have H2_ := (Option.bind_some _ _).symm.trans H; rw [hy163]; with_reducible exact H2_) | (have H2_ := (Option.bind_some _ _).symm.trans H; with_reducible exact H2_) | with_reducible exact H | (rw [hy163]; exact H) | exact H
                  have Ny163 := Aside0.mk hy163
                  clear hy163
                  by_cases c36 : y160.length + y163.length < 140737488355328
                  ·rw [if_pos c36] at H
                   have LMc36 := Aside0.mk c36
                   clear c36
                   obtain ⟨y167, hy167⟩ : ∃ y_ : List Int, y_ = (y160 ++ y163) := ⟨_, rfl⟩
                   replace H : (spec_PageBytes.l3 k4 x3_3 y167 (wrap64 (x7_4 + 60)) a0_0 l0_1) = some r := by first | (rw [hy167]; with_reducible exact H) | (have H2_ := (Option.bind_some _ _).symm.trans H; rw [hy167]; with_reducible exact H2_) | (have H2_ := (Option.bind_some _ _).symm.trans H; with_reducible exact H2_) | with_reducible exact H | (rw [hy167]; exact H) | exact H
                   have Ny167 := Aside0.mk hy167
                   clear hy167
                   have H' := Aside0.mk H
                   clear H
                   obtain ⟨hcz37_0, hcz37_1⟩ := blk_cells2 BK141.out
                   obtain ⟨hfz37_0, hfz37_1⟩ := blk_frozens2 BK141.out
                   go_wp2_with (first | ((with_reducible refine gate_callee (f := 50) rfl ?_); refine goesL_ (some 62) rfl rfl Try.func50 (by kernel_rfl) rfl #[.int .i64 a0_0, .int .i64 4] rfl (by (try simp only [List.map_toArray, List.map_cons, List.map_nil]); first | done | rfl) ?_; (with_reducible refine (spec_PutNum.calls k4 a0_0 4 t157 _ A31.out).mono ?_); rintro e w38 ⟨v158, rfl, ho0, hb⟩; refine ⟨_, rfl, ?_⟩; have n0_ := Aside0.mk (Kd.R_elder' (Kd.rup HO_3.out) (Kd.R_base ho0) hb); have n1_ := Aside0.mk (Kd.R_elder' (Kd.rup HO_6.out) (Kd.R_base ho0) hb); have n2_ := Aside0.mk (Kd.R_lower (Kd.R_new' (Kd.R_new' ho0 (Kd.R_lt (Kd.rup HO_3.out))) (Kd.R_lt (Kd.rup HO_6.out))) (below_size (by with_reducible repeat (first | exact HB.out | refine h4 ?_ GE141.out | apply h1 | apply h2 | apply h3)))); have n3_ := Aside0.mk (blk_below (g := gb141) (o := .cells #[.int .i64 a0_0, .slice A0_1 l0_1.length c0_1] 27 (0, 0)) (bup BK141.out) hb); have n4_ := Aside0.mk (below_step (by with_reducible repeat (first | exact HB.out | refine h4 ?_ GE141.out | apply h1 | apply h2 | apply h3)) hb); clear HO_3; clear HO_6; clear BK141; clear HB; have HO_3 := n0_; have HO_6 := n1_; have HO159 := n2_; have BK141 := n3_; have HB := n4_; clear n0_ n1_ n2_ n3_ n4_; (try clear hb); (try clear hb2); (try clear hk); (try clear hi); (try clear ho0); obtain ⟨Ao40, co40, eo40⟩ := Kd.R_slice HO159.out; subst eo40) | ((with_reducible refine gate_builtin (b := .append) (xs := #[.tmp 59, .tmp 62]) rfl ?_); at_builtin; refine Kd.R_append_rows (Kd.int .u8) (w0 := w) w.heap.size rfl (.tmp 59) (.tmp 62) 36 5 (.int .u8 0) 1 rfl Try.underlying36 info5 rfl (by decide) (by omega) u6 x6_4 t157 _ _ _ (fun k_ => some k_ ≠ (.slice Ao29 x3_3.length co29 : Value).ownBlock ∧ some k_ ≠ (.slice Ao40 t157.length co40 : Value).ownBlock) (fun _ => False) rfl rfl ?aO ?aR (fun _ _ h => h) (fun _ h => h.elim) ?aF ?aB ?aS ?aL ?_; (case aR => repeat (first | exact (Kd.R_reads' HO159.out).2.2 | (with_reducible refine Kd.C_alloc ?_ _) | (with_reducible refine Kd.C_drewN ?_ _) | (with_reducible refine Kd.C_drew ?_))); (case aB => exact (by with_reducible repeat (first | exact HB.out | refine h4 ?_ GE141.out | apply h1 | apply h2 | apply h3))); (case aF => exact (fun k_ hk => ⟨Kd.fresh' (Kd.R_lt (Kd.rup HO_3.out)) k_ hk, Kd.fresh' (Kd.R_lt (Kd.rup HO159.out)) k_ hk⟩)); (case aO => exact (Kd.rup HO_6.out)); (case aS => exact (below_size (by with_reducible repeat (first | exact HB.out | refine h4 ?_ GE141.out | apply h1 | apply h2 | apply h3)))); (case aL => have := LMc32.out; omega); intro v161 w39 ho hb hg hat; rw [← Ny160.out] at ho; have n0_ := Aside0.mk (Kd.R_after (ok := (fun k_ => some k_ ≠ (.slice Ao40 t157.length co40 : Value).ownBlock)) (by exact Kd.rup (Kd.R_mono HO_3.out (fun _ hk => ⟨hk.2, hk.1⟩))) hg hat); have n1_ := Aside0.mk (blk_grown (g := gb141) (o := .cells #[.int .i64 a0_0, .slice A0_1 l0_1.length c0_1] 27 (0, 0)) (bup BK141.out) hg (Kd.R_ne HO_6.out BK141.out (by decide))); have n2_ := Aside0.mk (Kd.R_after (ok := (fun k_ => some k_ ≠ (.slice Ao29 x3_3.length co29 : Value).ownBlock)) (by exact Kd.rup (Kd.R_mono HO159.out (fun _ hk => ⟨hk.1.2, hk.2⟩))) hg hat); have n3_ := Aside0.mk (hb); have n4_ := Aside0.mk (ho); clear HO_3; clear BK141; clear HO159; clear HB; clear HO_6; have HO_3 := n0_; have BK141 := n1_; have HO159 := n2_; have HB := n3_; have HO162 := n4_; clear n0_ n1_ n2_ n3_ n4_; clear ho hb hg hat; have q41 : ((wrap64 (x7_4 + 60)) : Int) ≤ ((x3_3.length : Int) : Int) := of_decide_eq_true (by first | (with_reducible assumption) | assumption); obtain ⟨i041, hi041, _, hsz41, _⟩ := info_parts info5; have hroom41 : x3_3.length ≤ co29 := (Kd.R_reads' HO_3.out).2.1; have hC41 : Kd.C (Kd.int .u8) _ Ao29 x3_3.length x3_3 := (Kd.R_reads' HO_3.out).2.2; have ql41 : (x7_4 : Int) ≤ ((wrap64 (x7_4 + 60)) : Int) := of_decide_eq_true (by first | (with_reducible assumption) | assumption); have q041 : (0 : Int) ≤ (x7_4 : Int) := of_decide_eq_true (by first | (with_reducible assumption) | assumption); have hcut41 := cut_mid (P := Try.prog) 36 5 .i64 .i64 Try.underlying36 hi041 1 hsz41 Ao29 x3_3.length co29 x7_4 (wrap64 (x7_4 + 60)) q041 ql41 q41 hroom41; have hr41 := Kd.C_mid (lo := (x7_4 : Int).toNat) (hi := ((wrap64 (x7_4 + 60)) : Int).toNat) (c := co29) hC41 (by omega) (by omega) hroom41; obtain ⟨A41, hA41⟩ : ∃ A1, A1 = (if co29 = (x7_4 : Int).toNat then Ao29 else (Ao29 : Option Addr).map (·.add ((x7_4 : Int).toNat * 1))) := ⟨_, rfl⟩; obtain ⟨c41, hc41⟩ : ∃ c1, c1 = co29 - (x7_4 : Int).toNat := ⟨_, rfl⟩; have hy41 : y163.length = ((wrap64 (x7_4 + 60)) : Int).toNat - (x7_4 : Int).toNat := (by rw [Ny163.out, List.length_drop, List.length_take] <;> omega); rw [show ((x3_3).take ((wrap64 (x7_4 + 60)) : Int).toNat).drop (x7_4 : Int).toNat = y163 from Ny163.out.symm] at hr41; replace hr41 : Kd.C (Kd.int .u8) _ A41 y163.length y163 := (by rw [hA41]; exact hr41); rw [← hy41, ← hA41, ← hc41] at hcut41; have HR166 := Aside0.mk hr41; have HC166 := Aside0.mk (show y163.length ≤ c41 from by rw [hy41, hc41]; exact Nat.sub_le_sub_right (Nat.le_trans (by omega) hroom41) _); clear hr41 hC41 hroom41 hi041 hsz41 hc41; have KY41 := Aside0.mk hy41; have KA41 := Aside0.mk hA41; clear hy41 hA41; have KL41 := Aside0.mk (show ((wrap64 (x7_4 + 60)) : Int).toNat ≤ x3_3.length from by omega); have KM41 := Aside0.mk (show (x7_4 : Int).toNat ≤ ((wrap64 (x7_4 + 60)) : Int).toNat from by omega); replace q41 := eq_true q41) | ((with_reducible refine gate_builtin (b := .append) (xs := #[.tmp 64, .tmp 69]) rfl ?_); at_builtin; refine Kd.R_append_rows (Kd.int .u8) (w0 := w) w.heap.size rfl (.tmp 64) (.tmp 69) 36 5 (.int .u8 0) 1 rfl Try.underlying36 info5 rfl (by decide) (by omega) v161 y160 y163 _ _ _ (fun k_ => some k_ ≠ (.slice Ao29 x3_3.length co29 : Value).ownBlock ∧ some k_ ≠ (.slice Ao40 t157.length co40 : Value).ownBlock) (fun _ => False) rfl rfl ?aO ?aR (fun _ _ h => h) (fun _ h => h.elim) ?aF ?aB ?aS ?aL ?_; (case aR => repeat (first | exact (by repeat (first | (with_reducible exact HR166.out) | (with_reducible refine Kd.C_alloc ?_ _) | (with_reducible refine Kd.C_drewN ?_ _) | (with_reducible refine Kd.C_drew ?_) | exact HR166.out)) | (with_reducible refine Kd.C_alloc ?_ _) | (with_reducible refine Kd.C_drewN ?_ _) | (with_reducible refine Kd.C_drew ?_))); (case aB => exact (by with_reducible repeat (first | exact HB.out | refine h4 ?_ GE141.out | apply h1 | apply h2 | apply h3))); (case aF => exact (fun k_ hk => ⟨Kd.fresh' (Kd.R_lt (Kd.rup HO_3.out)) k_ hk, Kd.fresh' (Kd.R_lt (Kd.rup HO159.out)) k_ hk⟩)); (case aO => exact (Kd.rup HO162.out)); (case aS => exact (below_size (by with_reducible repeat (first | exact HB.out | refine h4 ?_ GE141.out | apply h1 | apply h2 | apply h3)))); (case aL => have := LMc36.out; omega); intro v168 w42 ho hb hg hat; rw [← Ny167.out] at ho; have n0_ := Aside0.mk (Kd.R_after (ok := (fun k_ => some k_ ≠ (.slice Ao40 t157.length co40 : Value).ownBlock)) (Kd.rup HO_3.out) hg hat); have n1_ := Aside0.mk (blk_grown (g := gb141) (o := .cells #[.int .i64 a0_0, .slice A0_1 l0_1.length c0_1] 27 (0, 0)) (bup BK141.out) hg (Kd.R_ne HO162.out BK141.out (by decide))); have n2_ := Aside0.mk (Kd.R_after (ok := (fun k_ => some k_ ≠ (.slice Ao29 x3_3.length co29 : Value).ownBlock)) (Kd.rup HO159.out) hg hat); have n3_ := Aside0.mk (hb); have n4_ := Aside0.mk ((show Kd.C (Kd.int .u8) w42 A41 y163.length y163 from by rw [Ny163.out, KA41.out]; exact Kd.C_mid (lo := (x7_4 : Int).toNat) (hi := ((wrap64 (x7_4 + 60)) : Int).toNat) (c := co29) ((Kd.R_reads' (Kd.R_after (ok := (fun k_ => some k_ ≠ (.slice Ao40 t157.length co40 : Value).ownBlock)) (Kd.rup HO_3.out) hg hat)).2.2) KM41.out KL41.out ((Kd.R_reads' (Kd.R_after (ok := (fun k_ => some k_ ≠ (.slice Ao40 t157.length co40 : Value).ownBlock)) (Kd.rup HO_3.out) hg hat)).2.1))); have n5_ := Aside0.mk (ho); clear HO_3; clear BK141; clear HO159; clear HB; clear HR166; clear HO162; have HO_3 := n0_; have BK141 := n1_; have HO159 := n2_; have HB := n3_; have HR166 := n4_; have HO169 := n5_; clear n0_ n1_ n2_ n3_ n4_ n5_; clear ho hb hg hat))
                   go_roundg k4
                   case measure => have := HK1.out; have := HK2.out; have := HK3.out; have := HK4.out; omega
                   case rel => exact ⟨(y167), (wrap64 (x7_4 + 60)), (by first | rfl | (simp; done) | (simp [*]; done)), H', ⟨by have := HK1.out; have := HK2.out; have := HK3.out; have := HK4.out; omega⟩, ⟨by exact Kd.rup (Kd.R_mono HO_3.out (fun _ hk => hk.2))⟩, ⟨by exact Kd.rup (Kd.R_mono HO169.out (fun _ hk => hk.1))⟩, ⟨by exact bup BK141.out⟩, ⟨by with_reducible repeat (first | exact HB.out | refine h4 ?_ GE141.out | apply h1 | apply h2 | apply h3)⟩⟩
                  ·rw [if_neg c36] at H
                   exact absurd H (by simp)
                 ·rw [if_neg c35] at H
                  exact absurd H (by simp)
                ·rw [if_neg c34] at H
                 exact absurd H (by simp)
               ·rw [if_neg c33] at H
                exact absurd H (by simp)
              ·rw [if_neg c32] at H
               exact absurd H (by simp)
             ·rw [if_neg c30] at H
              have c30b0 : decide (x7_4 < (x3_3.length : Int)) = false := decide_eq_false c30
              clear c30
              obtain rfl := Option.some.inj H
              go_wp2
              go_ret
              exact ⟨_, by first | rfl | (simp [errW_none, errW_some] <;> rfl) | (simp [*, errW_none, errW_some] <;> rfl), by exact Kd.rup (Kd.R_mono HO_6.out (fun _ hk => trivial)), by with_reducible repeat (first | exact HB.out | refine h4 ?_ GE141.out | apply h1 | apply h2 | apply h3)⟩

/-! ### impl_within: function 39 -/
def impl_within.f (a0 : Int) (a1 : Int) (a2 : Int) : Option (Bool) := if a1 ≤ a0 then (some (decide (a0 ≤ a2))) else (some false)
set_option maxHeartbeats 8000000 in
set_option maxRecDepth 100000 in
theorem impl_within.calls (a0 : Int) (a1 : Int) (a2 : Int) (r : Bool) (w : World) (h : impl_within.f a0 a1 a2 = some r) :
    Calls Try.prog 39 #[.int .i64 a0, .int .i64 a1, .int .i64 a2] w fun e w' => e = .returned (.bool r) ∧ Drawn0 w w' := by
  have H : (if a1 ≤ a0 then (some (decide (a0 ≤ a2))) else (some false)) = some r := h
  clear h
  by_cases c4 : a1 ≤ a0
  · rw [if_pos c4] at H
    have c4b0 : decide (a1 ≤ a0) = true := decide_eq_true c4
    clear c4
    obtain rfl := Option.some.inj H
    go_enter Try.func39, Try.ntmps39
    go_wp2
    go_ret
    exact ⟨by first | rfl | (simp; done) | (simp [*]; done), by repeat (first | exact Drawn0.refl _ | apply Drawn0.step)⟩
  · rw [if_neg c4] at H
    have c4b0 : decide (a1 ≤ a0) = false := decide_eq_false c4
    clear c4
    obtain rfl := Option.some.inj H
    go_enter Try.func39, Try.ntmps39
    go_wp2
    go_ret
    exact ⟨by first | rfl | (simp; done) | (simp [*]; done), by repeat (first | exact Drawn0.refl _ | apply Drawn0.step)⟩

/-! ### impl_PageUsed: function 14 -/
mutual
def impl_PageUsed.j0 : Nat → Bool → Int → List (List Int) → Option (Int)
 | 0, _, _, _ => none
 | k + 1, x15, x171000, x171001 => if x15 = true then (some (-1)) else (impl_PageUsed.l0 k (wrap64 (1 + (x171001.length : Int))) x171001 (x171001.length : Int) 0 x171000 x171001)
def impl_PageUsed.l0 : Nat → Int → List (List Int) → Int → Int → Int → List (List Int) → Option (Int)
 | 0, _, _, _, _, _, _ => none
 | k + 1, x3, x21, x22, x23, x171000, x171001 => if x23 < x22 then (if 0 ≤ x23 then (if x23 < (x21.length : Int) then (if ((rd_L1 x21 x23).length : Int) > 92 then (some (-1)) else (impl_PageUsed.l0 k (wrap64 (x3 + ((rd_L1 x21 x23).length : Int))) x21 x22 (wrap64 (x23 + 1)) x171000 x171001)) else (none)) else (none)) else (if x3 > 240 then (some (-1)) else (if (x171001.length : Int) > 0 then (if 0 ≤ (wrap64 ((x171001.length : Int) - 1)) then (if (wrap64 ((x171001.length : Int) - 1)) < (x171001.length : Int) then (if ((rd_L1 x171001 (wrap64 ((x171001.length : Int) - 1))).length : Int) = 0 then (some (-1)) else (some x3)) else (none)) else (none)) else (some x3)))
end
def impl_PageUsed.f (k : Nat) (a0_0 : Int) (l0_1 : List (List Int)) : Option (Int) := (impl_within.f a0_0 0 1000000).bind fun t171 => (if t171 = true then (impl_PageUsed.j0 k (decide ((l0_1.length : Int) > 16)) a0_0 l0_1) else (impl_PageUsed.j0 k true a0_0 l0_1))
theorem impl_PageUsed.mono_l : ∀ k, (∀ y0 y1 y2, LeO (impl_PageUsed.j0 k y0 y1 y2) (impl_PageUsed.j0 (k + 1) y0 y1 y2)) ∧ (∀ y0 y1 y2 y3 y4 y5, LeO (impl_PageUsed.l0 k y0 y1 y2 y3 y4 y5) (impl_PageUsed.l0 (k + 1) y0 y1 y2 y3 y4 y5))
 | 0 => ⟨fun _ _ _ r h => by simp [impl_PageUsed.j0] at h, fun _ _ _ _ _ _ r h => by simp [impl_PageUsed.l0] at h⟩
 | k + 1 => by
  obtain ⟨ih0, ih1⟩ := impl_PageUsed.mono_l k
  refine ⟨?_, ?_⟩
  ·intro y0 y1 y2
   unfold impl_PageUsed.j0
   repeat' with_reducible first | exact ih0 _ _ _ | exact ih1 _ _ _ _ _ _ | exact LeO.refl _ | exact LeO.none _ | refine LeO.ite ?_ ?_ | refine LeO.bind ?_ (fun _ => ?_)
  ·intro y0 y1 y2 y3 y4 y5
   unfold impl_PageUsed.l0
   repeat' with_reducible first | exact ih0 _ _ _ | exact ih1 _ _ _ _ _ _ | exact LeO.refl _ | exact LeO.none _ | refine LeO.ite ?_ ?_ | refine LeO.bind ?_ (fun _ => ?_)
theorem impl_PageUsed.mono : ∀ a0 a1 k, LeO (impl_PageUsed.f k a0 a1) (impl_PageUsed.f (k + 1) a0 a1) := by
 intro a0 a1 k
 obtain ⟨ih0, ih1⟩ := impl_PageUsed.mono_l k
 unfold impl_PageUsed.f
 repeat' with_reducible first | exact ih0 _ _ _ | exact ih1 _ _ _ _ _ _ | exact LeO.refl _ | exact LeO.none _ | refine LeO.ite ?_ ?_ | refine LeO.bind ?_ (fun _ => ?_)
set_option maxHeartbeats 8000000 in
set_option maxRecDepth 100000 in
theorem impl_PageUsed.calls (k : Nat) (a0_0 : Int) (A0_1 : Option Addr) (c0_1 : Nat) (l0_1 : List (List Int)) (r : Int) (w : World) (hr0_1 : Kd.C (Kd.slice 5 (Kd.int .u8)) w A0_1 l0_1.length l0_1) (hc0_1 : l0_1.length ≤ c0_1) (h : impl_PageUsed.f k a0_0 l0_1 = some r) :
  Calls Try.prog 14 #[.agg #[.int .i64 a0_0, .slice A0_1 l0_1.length c0_1]] w fun e w' => e = .returned (.int .i64 r) ∧ Below w.heap.size w w' := by
 have hu27 := Try.underlying27
 have HR0_1 := Aside0.mk hr0_1
 have HC0_1 := Aside0.mk hc0_1
 clear hr0_1 hc0_1
 have HB := Aside0.mk (Below.refl w.heap.size w)
 have H : ((impl_within.f a0_0 0 1000000).bind fun t171 => (if t171 = true then (impl_PageUsed.j0 k (decide ((l0_1.length : Int) > 16)) a0_0 l0_1) else (impl_PageUsed.j0 k true a0_0 l0_1))) = some r := h
 clear h
 have HC2 := Aside0.mk H
 clear H
 go_enter Try.func14, Try.ntmps14
 go_upto_region 1 with (first | ((with_reducible refine gate_dst (N := 1) rfl ?_); (try (refine gate_guard (by rfl) ?_; dsimp only)); refine box_event ?hg (N := 1) ?hd (cs := #[.int .i64 a0_0, .slice A0_1 l0_1.length c0_1]) (t := 27) ?hr ?_; (case hd => rfl); (case hg => rfl); (case hr => first | (go_simp; done) | (go_simp; rfl)); intro gb170 hg w3 hbox hb; have n0_ := Aside0.mk (below_step (hup HB.out) hb); have n1_ := Aside0.mk (hbox); have n2_ := Aside0.mk ((by rw [hg]; exact (below_size (hup HB.out)) : w.heap.size ≤ gb170)); have n3_ := Aside0.mk ((by rw [hg]; exact (below_size (hup HB.out)) : w.heap.size ≤ gb170)); clear HB; have HB := n0_; have BK170 := n1_; have GW170 := n2_; have GE170 := n3_; clear n0_ n1_ n2_ n3_; clear hb hbox hg))
 (try simp only [Act.put, List.setIfInBounds_toArray, List.set_cons_zero, List.set_cons_succ])
 go_cut [15] (fun v15 wc => ∃ (kq : Nat) (x15_1 : Bool), v15 = .bool x15_1 ∧ Aside0 (impl_PageUsed.j0 kq x15_1 a0_0 l0_1 = some r) ∧ Aside0 (kq ≤ k) ∧ Aside0 (wc.heap[gb170]? = some (.cells #[.int .i64 a0_0, (.slice A0_1 l0_1.length c0_1)] 27 (0, 0))) ∧ Aside0 (Below w.heap.size w wc))
 case first =>
  have H := HC2.out
  clear HC2
  replace H := Option.bind_eq_some_iff.mp H
  obtain ⟨t171, A40, H⟩ := H
  replace H : (if t171 = true then (impl_PageUsed.j0 k (decide ((l0_1.length : Int) > 16)) a0_0 l0_1) else (impl_PageUsed.j0 k true a0_0 l0_1)) = some r := H
  have A4 := Aside0.mk A40
  clear A40
  by_cases c5 : t171 = true
  ·subst c5
   have H1 : (impl_PageUsed.j0 k (decide ((l0_1.length : Int) > 16)) a0_0 l0_1) = some r := by rw [if_pos rfl] at H; exact H
   clear H
   have H := H1
   clear H1
   have H' := Aside0.mk H
   clear H
   obtain ⟨hcz6_0, hcz6_1⟩ := blk_cells2 BK170.out
   obtain ⟨hfz6_0, hfz6_1⟩ := blk_frozens2 BK170.out
   go_wp2_with (first | ((with_reducible refine gate_callee (f := 39) rfl ?_); refine goesL_ (some 8) rfl rfl Try.func39 (by kernel_rfl) rfl #[.int .i64 a0_0, .int .i64 0, .int .i64 1000000] rfl (by (try simp only [List.map_toArray, List.map_cons, List.map_nil]); first | done | rfl) ?_; (with_reducible refine (impl_within.calls a0_0 0 1000000 true _ A4.out).mono ?_); rintro e w' ⟨rfl, ⟨nd, rfl⟩⟩; refine ⟨_, rfl, ?_⟩))
   go_meet
   case rel => exact ⟨_, (decide ((l0_1.length : Int) > 16)), (by first | rfl | (simp; done) | (simp [*]; done)), H', ⟨by first | omega | exact Nat.le_refl _⟩, ⟨by exact bup BK170.out⟩, ⟨by with_reducible repeat (first | exact HB.out | refine h4 ?_ GE170.out | apply h1 | apply h2 | apply h3)⟩⟩
  ·replace c5 := Bool.eq_false_iff.mpr c5
   subst c5
   have H1 : (impl_PageUsed.j0 k true a0_0 l0_1) = some r := by rw [if_neg (show ¬ (false = true) by decide)] at H; exact H
   clear H
   have H := H1
   clear H1
   have H' := Aside0.mk H
   clear H
   obtain ⟨hcz7_0, hcz7_1⟩ := blk_cells2 BK170.out
   obtain ⟨hfz7_0, hfz7_1⟩ := blk_frozens2 BK170.out
   go_wp2_with (first | ((with_reducible refine gate_callee (f := 39) rfl ?_); refine goesL_ (some 8) rfl rfl Try.func39 (by kernel_rfl) rfl #[.int .i64 a0_0, .int .i64 0, .int .i64 1000000] rfl (by (try simp only [List.map_toArray, List.map_cons, List.map_nil]); first | done | rfl) ?_; (with_reducible refine (impl_within.calls a0_0 0 1000000 false _ A4.out).mono ?_); rintro e w' ⟨rfl, ⟨nd, rfl⟩⟩; refine ⟨_, rfl, ?_⟩))
   go_meet
   case rel => exact ⟨_, (true), (by first | rfl | (simp; done) | (simp [*]; done)), H', ⟨by first | omega | exact Nat.le_refl _⟩, ⟨by exact bup BK170.out⟩, ⟨by with_reducible repeat (first | exact HB.out | refine h4 ?_ GE170.out | apply h1 | apply h2 | apply h3)⟩⟩
 case rest =>
  clear HC2
  try clear c1
  try clear p2
  try clear c3
  try clear c5
  try clear hcz6_0
  try clear hcz6_1
  try clear hcz7_0
  try clear hcz7_1
  try clear hfz6_0
  try clear hfz6_1
  try clear hfz7_0
  try clear hfz7_1
  obtain ⟨kq, x15_1, rfl, HA, HJ1, BK170, HB⟩ := hcut
  cases kq with
  | zero => exact absurd HA.out (by simp [impl_PageUsed.j0])
  | succ kj1 =>
   have H := HA.out
   clear HA
   simp only [impl_PageUsed.j0] at H
   by_cases c8 : x15_1 = true
   ·subst c8
    have H1 : (some (-1)) = some r := by rw [if_pos rfl] at H; exact H
    clear H
    have H := H1
    clear H1
    obtain rfl := Option.some.inj H
    go_wp2
    go_ret
    exact ⟨by first | rfl | (simp [errW_none, errW_some] <;> rfl) | (simp [*, errW_none, errW_some] <;> rfl), by with_reducible repeat (first | exact HB.out | refine h4 ?_ GE170.out | apply h1 | apply h2 | apply h3)⟩
   ·replace c8 := Bool.eq_false_iff.mpr c8
    subst c8
    have H1 : (impl_PageUsed.l0 kj1 (wrap64 (1 + (l0_1.length : Int))) l0_1 (l0_1.length : Int) 0 a0_0 l0_1) = some r := by rw [if_neg (show ¬ (false = true) by decide)] at H; exact H
    clear H
    have H := H1
    clear H1
    have H' := Aside0.mk H
    clear H
    obtain ⟨hcz9_0, hcz9_1⟩ := blk_cells2 BK170.out
    obtain ⟨hfz9_0, hfz9_1⟩ := blk_frozens2 BK170.out
    go_wp2
    go_loopg [3, 23] kj1 (fun kq v3 v23 w' => ∃ (x3_2 : Int) (x23_2 : Int), v3 = .int .i64 x3_2 ∧ v23 = .int .i64 x23_2 ∧ Aside0 (impl_PageUsed.l0 kq x3_2 l0_1 (l0_1.length : Int) x23_2 a0_0 l0_1 = some r) ∧ Aside0 (kq ≤ kj1) ∧ Aside0 (w'.heap[gb170]? = some (.cells #[.int .i64 a0_0, (.slice A0_1 l0_1.length c0_1)] 27 (0, 0))) ∧ Aside0 (Below w.heap.size w w'))
    case atStart => exact ⟨(wrap64 (1 + (l0_1.length : Int))), (0), (by first | rfl | (simp; done) | (simp [*]; done)), (by first | rfl | (simp; done) | (simp [*]; done)), H', ⟨Nat.le_refl _⟩, ⟨by exact bup BK170.out⟩, ⟨by with_reducible repeat (first | exact HB.out | refine h4 ?_ GE170.out | apply h1 | apply h2 | apply h3)⟩⟩
    case round =>
     clear H'
     try clear c1
     try clear p2
     try clear c3
     try clear c5
     try clear p6
     try clear c8
     try clear hcz6_0
     try clear hcz6_1
     try clear hcz7_0
     try clear hcz7_1
     try clear hcz9_0
     try clear hcz9_1
     try clear hfz6_0
     try clear hfz6_1
     try clear hfz7_0
     try clear hfz7_1
     try clear hfz9_0
     try clear hfz9_1
     try clear p2
     obtain ⟨x3_2, x23_2, rfl, rfl, HA, HK2, BK170, HB⟩ := hrel
     cases gk with
     | zero => exact absurd HA.out (by simp [impl_PageUsed.l0])
     | succ k2 =>
      have H := HA.out
      clear HA
      simp only [impl_PageUsed.l0] at H
      by_cases c10 : x23_2 < (l0_1.length : Int)
      ·rw [if_pos c10] at H
       have c10b0 : decide (x23_2 < (l0_1.length : Int)) = true := decide_eq_true c10
       clear c10
       by_cases c11 : 0 ≤ x23_2
       ·rw [if_pos c11] at H
        have c11b0 : decide (0 ≤ x23_2) = true := decide_eq_true c11
        clear c11
        by_cases c12 : x23_2 < (l0_1.length : Int)
        ·rw [if_pos c12] at H
         have c12b0 : decide (x23_2 < (l0_1.length : Int)) = true := decide_eq_true c12
         clear c12
         by_cases c13 : ((rd_L1 l0_1 x23_2).length : Int) > 92
         ·rw [if_pos c13] at H
          have c13b0 : decide (92 < ((rd_L1 l0_1 x23_2).length : Int)) = true := decide_eq_true c13
          have c13b1 : decide (92 < (rd_L1 l0_1 x23_2).length) = true := decide_eq_true (by omega)
          clear c13
          obtain rfl := Option.some.inj H
          have p172 : 0 ≤ (x23_2 : Int) := of_decide_eq_true (by first | (with_reducible assumption) | assumption)
          have q172 : x23_2 < (l0_1.length : Int) := of_decide_eq_true (by first | (with_reducible assumption) | assumption)
          obtain ⟨ad172, A172_0, c172_0, e172, hx172_0, hl172_0, hi172_0⟩ := at_L1 HR0_1.out x23_2 p172 q172
          cases e172
          replace hx172_0 := (HB.out.cell (World.block_lt_of_cell? w _ hx172_0)).trans hx172_0
          have HR172_0 := Aside0.mk hi172_0
          have HC172_0 := Aside0.mk hl172_0
          clear hi172_0 hl172_0
          replace p172 := eq_true p172
          replace q172 := eq_true q172
          go_wp2
          go_ret
          exact ⟨by first | rfl | (simp [errW_none, errW_some] <;> rfl) | (simp [*, errW_none, errW_some] <;> rfl), by with_reducible repeat (first | exact HB.out | refine h4 ?_ GE170.out | apply h1 | apply h2 | apply h3)⟩
         ·rw [if_neg c13] at H
          have c13b0 : decide (92 < ((rd_L1 l0_1 x23_2).length : Int)) = false := decide_eq_false c13
          have c13b1 : decide (92 < (rd_L1 l0_1 x23_2).length) = false := decide_eq_false (by omega)
          clear c13
          have H' := Aside0.mk H
          clear H
          have p172 : 0 ≤ (x23_2 : Int) := of_decide_eq_true (by first | (with_reducible assumption) | assumption)
          have q172 : x23_2 < (l0_1.length : Int) := of_decide_eq_true (by first | (with_reducible assumption) | assumption)
          obtain ⟨ad172, A172_0, c172_0, e172, hx172_0, hl172_0, hi172_0⟩ := at_L1 HR0_1.out x23_2 p172 q172
          cases e172
          replace hx172_0 := (HB.out.cell (World.block_lt_of_cell? w _ hx172_0)).trans hx172_0
          have HR172_0 := Aside0.mk hi172_0
          have HC172_0 := Aside0.mk hl172_0
          clear hi172_0 hl172_0
          replace p172 := eq_true p172
          replace q172 := eq_true q172
          go_wp2
          go_roundg k2
          case measure => have := HJ1.out; have := HK2.out; omega
          case rel => exact ⟨(wrap64 (x3_2 + ((rd_L1 l0_1 x23_2).length : Int))), (wrap64 (x23_2 + 1)), (by first | rfl | (simp; done) | (simp [*]; done)), (by first | rfl | (simp; done) | (simp [*]; done)), H', ⟨by have := HJ1.out; have := HK2.out; omega⟩, ⟨by exact bup BK170.out⟩, ⟨by with_reducible repeat (first | exact HB.out | refine h4 ?_ GE170.out | apply h1 | apply h2 | apply h3)⟩⟩
        ·rw [if_neg c12] at H
         exact absurd H (by simp)
       ·rw [if_neg c11] at H
        exact absurd H (by simp)
      ·rw [if_neg c10] at H
       have c10b0 : decide (x23_2 < (l0_1.length : Int)) = false := decide_eq_false c10
       clear c10
       by_cases c14 : x3_2 > 240
       ·rw [if_pos c14] at H
        have c14b0 : decide (240 < x3_2) = true := decide_eq_true c14
        clear c14
        obtain rfl := Option.some.inj H
        go_wp2
        go_ret
        exact ⟨by first | rfl | (simp [errW_none, errW_some] <;> rfl) | (simp [*, errW_none, errW_some] <;> rfl), by with_reducible repeat (first | exact HB.out | refine h4 ?_ GE170.out | apply h1 | apply h2 | apply h3)⟩
       ·rw [if_neg c14] at H
        have c14b0 : decide (240 < x3_2) = false := decide_eq_false c14
        clear c14
        by_cases c15 : (l0_1.length : Int) > 0
        ·rw [if_pos c15] at H
         have c15b0 : decide (0 < (l0_1.length : Int)) = true := decide_eq_true c15
         have c15b1 : decide (0 < l0_1.length) = true := decide_eq_true (by omega)
         clear c15
         obtain ⟨ji16, hji16⟩ : ∃ j_ : Int, (wrap64 ((l0_1.length : Int) - 1)) = j_ := ⟨_, rfl⟩
         replace H : (if 0 ≤ (ji16) then (if (ji16) < (l0_1.length : Int) then (if ((rd_L1 l0_1 (ji16)).length : Int) = 0 then (some (-1)) else (some x3_2)) else (none)) else (none)) = some r := by first | (rw [hji16] at H; exact H) | (simp only [hji16] at H ⊢; exact H)
         have hji16w : (IntKind.i64.wrap ((l0_1.length : Int) - 1)) = ji16 := (i64_w _).trans hji16
         by_cases c17 : 0 ≤ (ji16)
         ·rw [if_pos c17] at H
          have c17b0 : decide (0 ≤ (ji16)) = true := decide_eq_true c17
          clear c17
          by_cases c18 : (ji16) < (l0_1.length : Int)
          ·rw [if_pos c18] at H
           have c18b0 : decide ((ji16) < (l0_1.length : Int)) = true := decide_eq_true c18
           clear c18
           by_cases c19 : ((rd_L1 l0_1 (ji16)).length : Int) = 0
           ·rw [if_pos c19] at H
            have c19b0 : (((rd_L1 l0_1 (ji16)).length : Int) == 0) = true := beq_iff_eq.mpr c19
            have c19b1 : (((rd_L1 l0_1 (ji16)).length : Int) != 0) = false := bne_eq_false_iff_eq.mpr c19
            clear c19
            obtain rfl := Option.some.inj H
            obtain ⟨hcz20_0, hcz20_1⟩ := blk_cells2 BK170.out
            obtain ⟨hfz20_0, hfz20_1⟩ := blk_frozens2 BK170.out
            have p173 : 0 ≤ ((ji16) : Int) := of_decide_eq_true (by first | (with_reducible assumption) | assumption)
            have q173 : (ji16) < (l0_1.length : Int) := of_decide_eq_true (by first | (with_reducible assumption) | assumption)
            obtain ⟨ad173, A173_0, c173_0, e173, hx173_0, hl173_0, hi173_0⟩ := at_L1 HR0_1.out (ji16) p173 q173
            cases e173
            replace hx173_0 := (HB.out.cell (World.block_lt_of_cell? w _ hx173_0)).trans hx173_0
            have HR173_0 := Aside0.mk hi173_0
            have HC173_0 := Aside0.mk hl173_0
            clear hi173_0 hl173_0
            replace p173 := eq_true p173
            replace q173 := eq_true q173
            go_wp2
            go_ret
            exact ⟨by first | rfl | (simp [errW_none, errW_some] <;> rfl) | (simp only [← hji16]; first | rfl | (simp [errW_none, errW_some] <;> rfl)) | (simp [*, errW_none, errW_some] <;> rfl), by with_reducible repeat (first | exact HB.out | refine h4 ?_ GE170.out | apply h1 | apply h2 | apply h3)⟩
           ·rw [if_neg c19] at H
            have c19b0 : (((rd_L1 l0_1 (ji16)).length : Int) == 0) = false := beq_eq_false_iff_ne.mpr c19
            have c19b1 : (((rd_L1 l0_1 (ji16)).length : Int) != 0) = true := bne_iff_ne.mpr c19
            have c19b2 : ¬ ((rd_L1 l0_1 (ji16)) = []) := fun h_ => c19 (by rw [h_]; rfl)
            obtain rfl := Option.some.inj H
            obtain ⟨hcz21_0, hcz21_1⟩ := blk_cells2 BK170.out
            obtain ⟨hfz21_0, hfz21_1⟩ := blk_frozens2 BK170.out
            have p173 : 0 ≤ ((ji16) : Int) := of_decide_eq_true (by first | (with_reducible assumption) | assumption)
            have q173 : (ji16) < (l0_1.length : Int) := of_decide_eq_true (by first | (with_reducible assumption) | assumption)
            obtain ⟨ad173, A173_0, c173_0, e173, hx173_0, hl173_0, hi173_0⟩ := at_L1 HR0_1.out (ji16) p173 q173
            cases e173
            replace hx173_0 := (HB.out.cell (World.block_lt_of_cell? w _ hx173_0)).trans hx173_0
            have HR173_0 := Aside0.mk hi173_0
            have HC173_0 := Aside0.mk hl173_0
            clear hi173_0 hl173_0
            replace p173 := eq_true p173
            replace q173 := eq_true q173
            go_wp2
            go_ret
            exact ⟨by first | rfl | (simp [errW_none, errW_some] <;> rfl) | (simp only [← hji16]; first | rfl | (simp [errW_none, errW_some] <;> rfl)) | (simp [*, errW_none, errW_some] <;> rfl), by with_reducible repeat (first | exact HB.out | refine h4 ?_ GE170.out | apply h1 | apply h2 | apply h3)⟩
          ·rw [if_neg c18] at H
           exact absurd H (by simp)
         ·rw [if_neg c17] at H
          exact absurd H (by simp)
        ·rw [if_neg c15] at H
         have c15b0 : decide (0 < (l0_1.length : Int)) = false := decide_eq_false c15
         have c15b1 : decide (0 < l0_1.length) = false := decide_eq_false (by omega)
         clear c15
         obtain rfl := Option.some.inj H
         obtain ⟨hcz22_0, hcz22_1⟩ := blk_cells2 BK170.out
         obtain ⟨hfz22_0, hfz22_1⟩ := blk_frozens2 BK170.out
         go_wp2
         go_ret
         exact ⟨by first | rfl | (simp [errW_none, errW_some] <;> rfl) | (simp [*, errW_none, errW_some] <;> rfl), by with_reducible repeat (first | exact HB.out | refine h4 ?_ GE170.out | apply h1 | apply h2 | apply h3)⟩

-- NOT PRINTED: function 66 (slices_Chunk_byte_byte_1)

-- NOT PRINTED: function 51 (slices_Chunk_byte_byte)

end Go.Proofs.Ytokpniagnbaflaa.PFnExactPageBytes
