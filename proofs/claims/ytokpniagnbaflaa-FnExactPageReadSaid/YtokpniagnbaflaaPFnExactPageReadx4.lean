-- By this session's own program (wip/xprint.py), over the kit's print.
import Derived.Test.YtokpniagnbaflaaPFnExactPageReadx0
import Derived.Test.YtokpniagnbaflaaPFnExactPageReadx3
namespace Go.Proofs.Ytokpniagnbaflaa.PFnExactPageRead
open Go.RowKit Go.Proofs.YtokpniagnbaflaaW.PrintWords Go.Proofs.YtokpniagnbaflaaW.PrintLast Go.Proofs.YtokpniagnbaflaaW.PrintMore
attribute [local go_sem] max2_int min2_int max_two min_two max_three min_three max_four min_four   -- for this text's walks alone
attribute [local go_sem high] fl_eql fl_neq fl_lss fl_leq fl_gtr fl_geq fl_add fl_sub fl_mul fl_quo fl_neg fl_ofInt fl_toInt fl_store sub_sign fl_nan_quo fl_nan_add fl_nan_mul fl_nan_sub
open Go.Proofs.YtokpniagnbaflaaW.PrintWords renaming below_alloc → h1, pw_below_drewN → h2, below_drew1 → h3, below_set → h4, blk_drewN → b1, blk_drew → b2, blk_alloc → b3
set_option linter.unusedVariables false
set_option linter.unusedSimpArgs false

/-! ### spec_PageRead: function 30 -/
mutual
def spec_PageRead.l0 : Nat → List Int → List Int → Int → Int → Option (Int × (List (List Int)) × Bool)
 | 0, _, _, _, _ => none
 | k + 1, x0, x5, x6, x160000 => if x6 < (x0.length : Int) then (if 0 ≤ (wrap64 (x6 + 4)) then (if (wrap64 (x6 + 4)) ≤ (wrap64 (x6 + 64)) then (if (wrap64 (x6 + 64)) ≤ (x0.length : Int) then (if x5.length + ((x0.take ((wrap64 (x6 + 64)) : Int).toNat).drop ((wrap64 (x6 + 4)) : Int).toNat).length < 140737488355328 then (spec_PageRead.l0 k x0 (x5 ++ ((x0.take ((wrap64 (x6 + 64)) : Int).toNat).drop ((wrap64 (x6 + 4)) : Int).toNat)) (wrap64 (x6 + 64)) x160000) else (none)) else (none)) else (none)) else (none)) else (if 0 < (x5.length : Int) then (spec_PageRead.l1 k x0 x5 (wrap64 (rd x5 0)) (wrap64 (1 + (wrap64 (rd x5 0)))) 0 x160000 ([] : List (List Int))) else (none))
def spec_PageRead.l1 : Nat → List Int → List Int → Int → Int → Int → Int → List (List Int) → Option (Int × (List (List Int)) × Bool)
 | 0, _, _, _, _, _, _, _ => none
 | k + 1, x0, x5, x7, x8, x9, x160000, x160001 => if x9 < x7 then (spec_PageRead.j2 k x0 x5 x7 x8 x9 (decide ((wrap64 (1 + x9)) < (x5.length : Int))) x160000 x160001) else (spec_PageRead.j2 k x0 x5 x7 x8 x9 false x160000 x160001)
def spec_PageRead.j2 : Nat → List Int → List Int → Int → Int → Int → Bool → Int → List (List Int) → Option (Int × (List (List Int)) × Bool)
 | 0, _, _, _, _, _, _, _, _ => none
 | k + 1, x0, x5, x7, x8, x9, x50, x160000, x160001 => if x50 = true then (if 0 ≤ (wrap64 (1 + x9)) then (if (wrap64 (1 + x9)) < (x5.length : Int) then (if x8 > (x5.length : Int) then (some (0, ([] : List (List Int)), false)) else (if (wrap64 (rd x5 (wrap64 (1 + x9)))) > (wrap64 ((x5.length : Int) - x8)) then (some (0, ([] : List (List Int)), false)) else ((some (([] : List Int) : List Int)).bind fun y168 => (if 0 ≤ x8 then (if x8 ≤ (wrap64 (x8 + (wrap64 (rd x5 (wrap64 (1 + x9)))))) then (if (wrap64 (x8 + (wrap64 (rd x5 (wrap64 (1 + x9)))))) ≤ (x5.length : Int) then ((some ((x5.take ((wrap64 (x8 + (wrap64 (rd x5 (wrap64 (1 + x9)))))) : Int).toNat).drop (x8 : Int).toNat : List Int)).bind fun y171 => (if y168.length + y171.length < 140737488355328 then (if x160001.length < 5864062014805 then (spec_PageRead.l1 k x0 x5 x7 (wrap64 (x8 + (wrap64 (rd x5 (wrap64 (1 + x9)))))) (wrap64 (x9 + 1)) x160000 (x160001 ++ [(y168 ++ y171)])) else (none)) else (none))) else (none)) else (none)) else (none))))) else (none)) else (none)) else ((spec_PageBytes.f k x160000 x160001).bind fun t181 => (if (strOfNums t181).toList = (strOfNums x0).toList then (some (x160000, x160001, true)) else (some (0, ([] : List (List Int)), false))))
end
def spec_PageRead.f (k : Nat) (l0 : List Int) : Option (Int × (List (List Int)) × Bool) := if (l0.length : Int) = 256 then ((spec_GetNum.f k l0 0 4).bind fun bt160 => (spec_PageRead.l0 k l0 ([] : List Int) 0 bt160.1)) else (some (0, ([] : List (List Int)), false))
set_option maxRecDepth 100000 in
theorem spec_PageRead.mono_l : ∀ k, (∀ y0 y1 y2 y3, LeO (spec_PageRead.l0 k y0 y1 y2 y3) (spec_PageRead.l0 (k + 1) y0 y1 y2 y3)) ∧ (∀ y0 y1 y2 y3 y4 y5 y6, LeO (spec_PageRead.l1 k y0 y1 y2 y3 y4 y5 y6) (spec_PageRead.l1 (k + 1) y0 y1 y2 y3 y4 y5 y6)) ∧ (∀ y0 y1 y2 y3 y4 y5 y6 y7, LeO (spec_PageRead.j2 k y0 y1 y2 y3 y4 y5 y6 y7) (spec_PageRead.j2 (k + 1) y0 y1 y2 y3 y4 y5 y6 y7))
 | 0 => ⟨fun _ _ _ _ r h => (by unfold spec_PageRead.l0 at h; exact absurd h (by simp)), fun _ _ _ _ _ _ _ r h => (by unfold spec_PageRead.l1 at h; exact absurd h (by simp)), fun _ _ _ _ _ _ _ _ r h => (by unfold spec_PageRead.j2 at h; exact absurd h (by simp))⟩
 | k + 1 => by
  obtain ⟨ih0, ih1, ih2⟩ := spec_PageRead.mono_l k
  refine ⟨?_, ?_, ?_⟩
  ·intro y0 y1 y2 y3
   unfold spec_PageRead.l0
   repeat' with_reducible first | exact ih0 _ _ _ _ | exact ih1 _ _ _ _ _ _ _ | exact ih2 _ _ _ _ _ _ _ _ | exact spec_GetNum.mono _ _ _ _ | exact spec_PageBytes.mono _ _ _ | exact LeO.refl _ | exact LeO.none _ | refine LeO.ite ?_ ?_ | refine LeO.bind ?_ (fun _ => ?_)
  ·intro y0 y1 y2 y3 y4 y5 y6
   unfold spec_PageRead.l1
   repeat' with_reducible first | exact ih0 _ _ _ _ | exact ih1 _ _ _ _ _ _ _ | exact ih2 _ _ _ _ _ _ _ _ | exact spec_GetNum.mono _ _ _ _ | exact spec_PageBytes.mono _ _ _ | exact LeO.refl _ | exact LeO.none _ | refine LeO.ite ?_ ?_ | refine LeO.bind ?_ (fun _ => ?_)
  ·intro y0 y1 y2 y3 y4 y5 y6 y7
   unfold spec_PageRead.j2
   repeat' with_reducible first | exact ih0 _ _ _ _ | exact ih1 _ _ _ _ _ _ _ | exact ih2 _ _ _ _ _ _ _ _ | exact spec_GetNum.mono _ _ _ _ | exact spec_PageBytes.mono _ _ _ | exact LeO.refl _ | exact LeO.none _ | refine LeO.ite ?_ ?_ | refine LeO.bind ?_ (fun _ => ?_)
set_option maxRecDepth 100000 in
theorem spec_PageRead.mono : ∀ a0 k, LeO (spec_PageRead.f k a0) (spec_PageRead.f (k + 1) a0) := by
 intro a0 k
 obtain ⟨ih0, ih1, ih2⟩ := spec_PageRead.mono_l k
 unfold spec_PageRead.f
 repeat' with_reducible first | exact ih0 _ _ _ _ | exact ih1 _ _ _ _ _ _ _ | exact ih2 _ _ _ _ _ _ _ _ | exact spec_GetNum.mono _ _ _ _ | exact spec_PageBytes.mono _ _ _ | exact LeO.refl _ | exact LeO.none _ | refine LeO.ite ?_ ?_ | refine LeO.bind ?_ (fun _ => ?_)
def spec_PageRead.T18 : Bool × List (List Nat × List Nat) := (true, [([], []), ([0], [0]), ([], []), ([], []), ([], []), ([], []), ([], []), ([5, 6], [5, 6]), ([3, 4, 7], [3, 4, 7]), ([2, 8], [2, 8]), ([9], [9]), ([1, 10, 9], [1, 10]), ([0, 1, 2, 3, 4, 5, 6, 7, 8, 9, 10, 11], []), ([12, 11, 11, 0, 1, 2, 3, 4, 5, 6, 7, 8, 9, 10, 11], [11, 12])])
def spec_PageRead.B18 : List Nat := [0, 1, 0, 0, 0, 0, 0, 96, 248, 508, 1020, 2047, 4095, 8191]
theorem spec_PageRead.tab18 : rtab .any (opsOf Try.f30 18) = spec_PageRead.T18 := by kernel_rfl
theorem spec_PageRead.bits18 : waitsOk spec_PageRead.T18.2 spec_PageRead.B18 = true := by kernel_rfl
set_option maxHeartbeats 8000000 in
set_option maxRecDepth 100000 in
theorem spec_PageRead.calls (k : Nat) (A0 : Option Addr) (c0 : Nat) (l0 : List Int) (r1 : Int) (r2 : List (List Int)) (r3 : Bool) (w : World) (hr0 : Kd.C (Kd.int .u8) w A0 l0.length l0) (hc0 : l0.length ≤ c0) (h : spec_PageRead.f k l0 = some (r1, r2, r3)) :
  Calls Try.prog 30 #[.slice A0 l0.length c0] w fun e w' => ∃ v1_ : Value, e = .returned (.tuple #[.agg #[.int .i64 r1, v1_], .bool r3]) ∧ Kd.S (Kd.slice 5 (Kd.int .u8)) 36 w' w.heap.size (fun _ => True) v1_ r2 ∧ Below w.heap.size w w' := by
 have hu27 := Try.underlying27
 have HR0 := Aside0.mk hr0
 have HC0 := Aside0.mk hc0
 clear hr0 hc0
 have HB := Aside0.mk (Below.refl w.heap.size w)
 have H : (if (l0.length : Int) = 256 then ((spec_GetNum.f k l0 0 4).bind fun bt160 => (spec_PageRead.l0 k l0 ([] : List Int) 0 bt160.1)) else (some (0, ([] : List (List Int)), false))) = some (r1, r2, r3) := h
 clear h
 by_cases c2 : (l0.length : Int) = 256
 ·rw [if_pos c2] at H
  have c2b0 : ((l0.length : Int) == 256) = true := beq_iff_eq.mpr c2
  have c2b1 : ((l0.length : Int) != 256) = false := bne_eq_false_iff_eq.mpr c2
  clear c2
  replace H := Option.bind_eq_some_iff.mp H
  obtain ⟨⟨t160, t161⟩, A30, H⟩ := H
  replace H : (spec_PageRead.l0 k l0 ([] : List Int) 0 t160) = some (r1, r2, r3) := H
  have A3 := Aside0.mk A30
  clear A30
  have H' := Aside0.mk H
  clear H
  go_enter Try.func30, Try.ntmps30
  go_wp2_with (first | ((with_reducible refine gate_dst (N := 2) rfl ?_); (try (refine gate_guard (by rfl) ?_; dsimp only)); refine box_event ?hg (N := 2) ?hd (cs := #[.int .i64 0, .slice none 0 0]) (t := 27) ?hr ?_; (case hd => rfl); (case hg => rfl); (case hr => first | (go_simp; done) | (go_simp; rfl)); intro gb158 hg w4 hbox hb; have n0_ := Aside0.mk (below_step (hup HB.out) hb); have n1_ := Aside0.mk (hbox); have n2_ := Aside0.mk ((by rw [hg]; exact (below_size (hup HB.out)) : w.heap.size ≤ gb158)); have n3_ := Aside0.mk ((by rw [hg]; exact (below_size (hup HB.out)) : w.heap.size ≤ gb158)); clear HB; have HB := n0_; have BK158 := n1_; have GW158 := n2_; have GE158 := n3_; clear n0_ n1_ n2_ n3_; clear hb hbox hg) | ((with_reducible refine gate_dst (N := 4) rfl ?_); (try (refine gate_guard (by rfl) ?_; dsimp only)); refine box_event ?hg (N := 4) ?hd (cs := #[.int .i64 0, .slice none 0 0]) (t := 27) ?hr ?_; (case hd => rfl); (case hg => rfl); (case hr => first | (go_simp; done) | (go_simp; rfl)); intro gb159 hg w5 hbox hb; have n0_ := Aside0.mk (blk_below (g := gb158) (o := .cells #[.int .i64 0, .slice none 0 0] 27 (0, 0)) (bup BK158.out) hb); have n1_ := Aside0.mk (below_step (by with_reducible repeat (first | exact HB.out | refine h4 ?_ GE158.out | apply h1 | apply h2 | apply h3)) hb); have n2_ := Aside0.mk (hbox); have n3_ := Aside0.mk ((by rw [hg]; exact (below_size (by with_reducible repeat (first | exact HB.out | refine h4 ?_ GE158.out | apply h1 | apply h2 | apply h3))) : w.heap.size ≤ gb159)); have n4_ := Aside0.mk ((by rw [hg]; exact (below_size (by with_reducible repeat (first | exact HB.out | refine h4 ?_ GE158.out | apply h1 | apply h2 | apply h3))) : w.heap.size ≤ gb159)); have n5_ := Aside0.mk ((by rw [hg]; exact Nat.ne_of_lt (blk_lt (g := gb158) (o := .cells #[.int .i64 0, .slice none 0 0] 27 (0, 0)) (bup BK158.out)) : gb158 ≠ gb159)); have n6_ := Aside0.mk ((by rw [hg]; exact Nat.ne_of_gt (blk_lt (g := gb158) (o := .cells #[.int .i64 0, .slice none 0 0] 27 (0, 0)) (bup BK158.out)) : gb159 ≠ gb158)); clear BK158; clear HB; have BK158 := n0_; have HB := n1_; have BK159 := n2_; have GW159 := n3_; have GE159 := n4_; have NB158_159 := n5_; have NB159_158 := n6_; clear n0_ n1_ n2_ n3_ n4_ n5_ n6_; clear hb hbox hg) | ((with_reducible refine gate_callee (f := 53) rfl ?_); refine goesL_ (some 17) rfl rfl Try.func53 (by kernel_rfl) rfl #[.slice A0 l0.length c0, .int .i64 0, .int .i64 4] rfl (by (try simp only [List.map_toArray, List.map_cons, List.map_nil]); first | done | rfl) ?_; (with_reducible refine (spec_GetNum.calls k _ _ l0 0 4 t160 t161 _ ?side1 ?side2 A3.out).mono ?_); (case side1 => repeat (first | exact (Kd.C_below HR0.out HB.out) | (with_reducible refine Kd.C_alloc ?_ _) | (with_reducible refine Kd.C_drewN ?_ _) | (with_reducible refine Kd.C_drew ?_))); (case side2 => exact HC0.out); rintro e w' ⟨rfl, ⟨nd, rfl⟩⟩; refine ⟨_, rfl, ?_⟩; (try (rw [drewN_self w5]; generalize hq_ : World.drewN w5 _ = w5; have n0_ : Aside0 (w5.heap[gb158]? = some (.cells #[.int .i64 0, .slice none 0 0] 27 (0, 0))) := ⟨by rw [← hq_]; exact (bup BK158.out)⟩; have n1_ : Aside0 (w5.heap[gb159]? = some (.cells #[.int .i64 0, .slice none 0 0] 27 (0, 0))) := ⟨by rw [← hq_]; exact (bup BK159.out)⟩; have n2_ : Aside0 (Below w.heap.size w w5) := ⟨by rw [← hq_]; exact (by with_reducible repeat (first | exact HB.out | refine h4 ?_ GE158.out | refine h4 ?_ GE159.out | apply h1 | apply h2 | apply h3))⟩; clear BK158 BK159 HB hq_; have BK158 := n0_; have BK159 := n1_; have HB := n2_; clear n0_ n1_ n2_)); have hnb6 := NB159_158.out; have hnc6 := NB158_159.out; obtain ⟨hcz7_0, hcz7_1⟩ := blk_cells2 BK159.out; obtain ⟨hfz7_0, hfz7_1⟩ := blk_frozens2 BK159.out))
  go_loopg [5, 6] k (fun kq v5 v6 w' => ∃ (x5_1 : List Int) (x6_1 : Int), v6 = .int .i64 x6_1 ∧ Aside0 (spec_PageRead.l0 kq l0 x5_1 x6_1 t160 = some (r1, r2, r3)) ∧ Aside0 (kq ≤ k) ∧ Aside0 (Kd.R (Kd.int .u8) 5 w' w.heap.size (fun _ => True) v5 x5_1) ∧ Aside0 (w'.heap[gb158]? = some (.cells #[.int .i64 0, (.slice none 0 0)] 27 (0, 0))) ∧ Aside0 (w'.heap[gb159]? = some (.cells #[.int .i64 t160, (.slice none 0 0)] 27 (0, 0))) ∧ Aside0 (Below w.heap.size w w'))
  case atStart => exact ⟨(([] : List Int)), (0), (by first | rfl | (simp; done) | (simp [*]; done)), H', ⟨Nat.le_refl _⟩, ⟨by first | exact Kd.R_nil _ _ _ _ _ | exact Kd.N_nil _ _ _ _ _ | exact Kd.V_nil _ _ _ _ _ | exact Kd.Q_nil _ _ _ _ _ | exact Kd.S_nil _ _ _ _ _⟩, ⟨by (with_reducible repeat (first | refine b1 ?_ _ | refine b2 ?_ | refine b3 ?_ _)); refine blk_far ?_ NB158_159.out _; exact bup BK158.out⟩, ⟨by (with_reducible repeat (first | refine b1 ?_ _ | refine b2 ?_ | refine b3 ?_ _)); refine blk_put (cs := #[.int .i64 0, .slice none 0 0]) ?_ 0 _ rfl; exact bup BK159.out⟩, ⟨by with_reducible repeat (first | exact HB.out | refine h4 ?_ GE158.out | refine h4 ?_ GE159.out | apply h1 | apply h2 | apply h3)⟩⟩
  case round =>
   clear H'
   try clear c2
   try clear c2b0
   try clear c2b1
   try clear p2
   try clear c3
   try clear c5
   try clear c6
   try clear hcz7_0
   try clear hcz7_1
   try clear hfz7_0
   try clear hfz7_1
   obtain ⟨x5_1, x6_1, rfl, HA, HK1, HO_5, BK158, BK159, HB⟩ := hrel
   cases gk with
   | zero => exact absurd HA.out (by unfold spec_PageRead.l0; simp)
   | succ k1 =>
    have H := HA.out
    clear HA
    unfold spec_PageRead.l0 at H; try dsimp only at H
    by_cases c8 : x6_1 < (l0.length : Int)
    ·rw [if_pos c8] at H
     have c8b0 : decide (x6_1 < (l0.length : Int)) = true := decide_eq_true c8
     clear c8
     obtain ⟨ji9, hji9⟩ : ∃ j_ : Int, (wrap64 (x6_1 + 4)) = j_ := ⟨_, rfl⟩
     replace H : (if 0 ≤ (ji9) then (if (ji9) ≤ (wrap64 (x6_1 + 64)) then (if (wrap64 (x6_1 + 64)) ≤ (l0.length : Int) then (if x5_1.length + ((l0.take ((wrap64 (x6_1 + 64)) : Int).toNat).drop ((ji9) : Int).toNat).length < 140737488355328 then (spec_PageRead.l0 k1 l0 (x5_1 ++ ((l0.take ((wrap64 (x6_1 + 64)) : Int).toNat).drop ((ji9) : Int).toNat)) (wrap64 (x6_1 + 64)) t160) else (none)) else (none)) else (none)) else (none)) = some (r1, r2, r3) := by first | (rw [hji9] at H; exact H) | (simp only [hji9] at H ⊢; exact H)
     have hji9w : (IntKind.i64.wrap (x6_1 + 4)) = ji9 := (i64_w _).trans hji9
     by_cases c10 : 0 ≤ (ji9)
     ·rw [if_pos c10] at H
      have c10b0 := eq_true c10
      have c10b1 : decide (0 ≤ (ji9)) = true := decide_eq_true c10
      clear c10
      by_cases c11 : (ji9) ≤ (wrap64 (x6_1 + 64))
      ·rw [if_pos c11] at H
       have c11b0 := eq_true c11
       have c11b1 : decide ((ji9) ≤ (wrap64 (x6_1 + 64))) = true := decide_eq_true c11
       by_cases c12 : (wrap64 (x6_1 + 64)) ≤ (l0.length : Int)
       ·rw [if_pos c12] at H
        have c12b0 := eq_true c12
        have c12b1 : decide ((wrap64 (x6_1 + 64)) ≤ (l0.length : Int)) = true := decide_eq_true c12
        by_cases c13 : x5_1.length + ((l0.take ((wrap64 (x6_1 + 64)) : Int).toNat).drop ((ji9) : Int).toNat).length < 140737488355328
        ·rw [if_pos c13] at H
         have LMc13 := Aside0.mk c13
         clear c13
         obtain ⟨y163, hy163⟩ : ∃ y_ : List Int, y_ = (x5_1 ++ ((l0.take ((wrap64 (x6_1 + 64)) : Int).toNat).drop ((ji9) : Int).toNat)) := ⟨_, rfl⟩
         replace H : (spec_PageRead.l0 k1 l0 y163 (wrap64 (x6_1 + 64)) t160) = some (r1, r2, r3) := by first | (rw [hy163]; with_reducible exact H) | (have H2_ := (Option.bind_some _ _).symm.trans H; rw [hy163]; with_reducible exact H2_) | (have H2_ := (Option.bind_some _ _).symm.trans H; with_reducible exact H2_) | with_reducible exact H | (rw [hy163]; exact H) | exact H
         have Ny163 := Aside0.mk hy163
         clear hy163
         have H' := Aside0.mk H
         clear H
         obtain ⟨i014, hi014, _, hsz14, _⟩ := info_parts info5
         obtain ⟨A14, hcut14, hA14, hC14⟩ := print_mid_of (P := Try.prog) (Value.int .u8) 0 36 5 .i64 .i64 Try.underlying36 hi014 hsz14 A0 c0 l0 (ji9) (wrap64 (x6_1 + 64)) (of_decide_eq_true (by first | (with_reducible assumption) | assumption)) (by first | omega | exact of_decide_eq_true (by first | (with_reducible assumption) | assumption)) (of_decide_eq_true (by first | (with_reducible assumption) | assumption)) HC0.out
         have HR162 := Aside0.mk (Kd.C_of_reads (h1 := fun _ => rfl) (hA14 _ (Kd.reads_of_C HR0.out)))
         have HC162 := Aside0.mk hC14
         clear hA14 hC14 hi014 hsz14
         go_wp2_with (first | ((with_reducible refine gate_builtin (b := .append) (xs := #[.tmp 27, .tmp 33]) rfl ?_); (try (refine gate_guard (by rfl) ?_; dsimp only)); at_builtin; refine Kd.R_append_rows (Kd.int .u8) (w0 := w) w.heap.size rfl (.tmp 27) (.tmp 33) 36 5 (.int .u8 0) 1 rfl Try.underlying36 info5 rfl (by decide) (by omega) u5 x5_1 ((l0.take ((wrap64 (x6_1 + 64)) : Int).toNat).drop ((ji9) : Int).toNat) _ _ _ (fun _ => True) (fun _ => False) rfl rfl ?aO ?aR (fun _ _ h => h) (fun _ h => h.elim) ?aF ?aB ?aS ?aL ?_; (case aR => first | (rw [← show ((l0.take ((wrap64 (x6_1 + 64)) : Int).toNat).drop ((ji9) : Int).toNat).length = ((wrap64 (x6_1 + 64)).toNat - (ji9).toNat) from (by rw [List.length_drop, List.length_take]; have h_ : ((wrap64 (x6_1 + 64)) : Int) ≤ (l0.length : Int) := of_decide_eq_true (by first | (with_reducible assumption) | assumption); omega)]; repeat (first | exact (Kd.C_below HR162.out HB.out) | (with_reducible refine Kd.C_alloc ?_ _) | (with_reducible refine Kd.C_drewN ?_ _) | (with_reducible refine Kd.C_drew ?_))) | (repeat (first | exact (Kd.C_below HR162.out HB.out) | (with_reducible refine Kd.C_alloc ?_ _) | (with_reducible refine Kd.C_drewN ?_ _) | (with_reducible refine Kd.C_drew ?_)))); (case aB => exact (by with_reducible repeat (first | exact HB.out | refine h4 ?_ GE158.out | refine h4 ?_ GE159.out | apply h1 | apply h2 | apply h3))); (case aF => exact (fun _ _ => trivial)); (case aO => exact (Kd.rup HO_5.out)); (case aS => exact (below_size (by with_reducible repeat (first | exact HB.out | refine h4 ?_ GE158.out | refine h4 ?_ GE159.out | apply h1 | apply h2 | apply h3)))); (case aL => have := LMc13.out; have hlx_ := (show ((l0.take ((wrap64 (x6_1 + 64)) : Int).toNat).drop ((ji9) : Int).toNat).length = ((wrap64 (x6_1 + 64)).toNat - (ji9).toNat) from (by rw [List.length_drop, List.length_take]; have h_ : ((wrap64 (x6_1 + 64)) : Int) ≤ (l0.length : Int) := of_decide_eq_true (by first | (with_reducible assumption) | assumption); omega)); omega); intro v164 w15 ho hb hg hat; rw [← Ny163.out] at ho; have n0_ := Aside0.mk (blk_grown (g := gb158) (o := .cells #[.int .i64 0, .slice none 0 0] 27 (0, 0)) (bup BK158.out) hg (Kd.R_ne HO_5.out BK158.out (by decide))); have n1_ := Aside0.mk (blk_grown (g := gb159) (o := .cells #[.int .i64 t160, .slice none 0 0] 27 (0, 0)) (bup BK159.out) hg (Kd.R_ne HO_5.out BK159.out (by decide))); have n2_ := Aside0.mk (hb); have n3_ := Aside0.mk (ho); clear BK158; clear BK159; clear HB; clear HO_5; have BK158 := n0_; have BK159 := n1_; have HB := n2_; have HO165 := n3_; clear n0_ n1_ n2_ n3_; clear ho hb hg hat))
         go_roundg k1
         case measure => have := HK1.out; omega
         case rel => exact ⟨(y163), (wrap64 (x6_1 + 64)), (by first | rfl | (simp; done) | (simp [*]; done)), H', ⟨by have := HK1.out; omega⟩, ⟨by exact Kd.rup HO165.out⟩, ⟨by exact bup BK158.out⟩, ⟨by exact bup BK159.out⟩, ⟨by with_reducible repeat (first | exact HB.out | refine h4 ?_ GE158.out | refine h4 ?_ GE159.out | apply h1 | apply h2 | apply h3)⟩⟩
        ·rw [if_neg c13] at H
         exact absurd H (by simp)
       ·rw [if_neg c12] at H
        exact absurd H (by simp)
      ·rw [if_neg c11] at H
       exact absurd H (by simp)
     ·rw [if_neg c10] at H
      exact absurd H (by simp)
    ·rw [if_neg c8] at H
     have c8b0 : decide (x6_1 < (l0.length : Int)) = false := decide_eq_false c8
     clear c8
     by_cases c16 : 0 < (x5_1.length : Int)
     ·rw [if_pos c16] at H
      have c16b0 : decide (0 < (x5_1.length : Int)) = true := decide_eq_true c16
      have c16b1 : decide (0 < x5_1.length) = true := decide_eq_true (by omega)
      clear c16
      have H' := Aside0.mk H
      clear H
      obtain ⟨Ao17, co17, eo17⟩ := Kd.R_slice HO_5.out
      subst eo17
      have p166 : 0 ≤ (0 : Int) := (by omega)
      have q166 : 0 < (x5_1.length : Int) := of_decide_eq_true (by first | (with_reducible assumption) | assumption)
      obtain ⟨ad166, e166, hx166_0⟩ := Kd.at_int (Kd.R_reads' HO_5.out).2.2 0 p166 q166
      cases e166
      have qi166 : (0 < x5_1.length) = True := eq_true (by omega)
      (try rw [show ((0 : Int)).toNat = 0 from rfl] at hx166_0)
      (try rw [Addr.add_zero'] at hx166_0)
      replace p166 := eq_true p166
      replace q166 := eq_true q166
      go_wp2
      go_loopg [8, 9] k1 (fun kq v8 v9 w' => ∃ (x8_2 : Int) (x9_2 : Int) (x159000_2 : Int) (x160001_2 : List (List Int)) (u160001 : Value), v8 = .int .i64 x8_2 ∧ v9 = .int .i64 x9_2 ∧ Aside0 (spec_PageRead.l1 kq l0 x5_1 (wrap64 (rd x5_1 0)) x8_2 x9_2 t160 x160001_2 = some (r1, r2, r3)) ∧ Aside0 (kq ≤ k1) ∧ Aside0 (Kd.R (Kd.int .u8) 5 w' w.heap.size (fun _ => True) (.slice (some ad166) x5_1.length co17) x5_1) ∧ Aside0 (Kd.S (Kd.slice 5 (Kd.int .u8)) 36 w' w.heap.size (fun k_ => some k_ ≠ ((.slice (some ad166) x5_1.length co17) : Value).ownBlock) u160001 x160001_2) ∧ Aside0 (w'.heap[gb158]? = some (.cells #[.int .i64 x159000_2, (.slice none 0 0)] 27 (0, 0))) ∧ Aside0 (w'.heap[gb159]? = some (.cells #[.int .i64 t160, u160001] 27 (0, 0))) ∧ Aside0 (Below w.heap.size w w'))
      case atStart => exact ⟨(wrap64 (1 + (wrap64 (rd x5_1 0)))), (0), (0), (([] : List (List Int))), (.slice none 0 0), (by first | rfl | (simp; done) | (simp [*]; done)), (by first | rfl | (simp; done) | (simp [*]; done)), H', ⟨Nat.le_refl _⟩, ⟨by exact Kd.rup HO_5.out⟩, ⟨by first | exact Kd.S_nil _ _ _ _ _ | exact Kd.N_nil _ _ _ _ _ | exact Kd.V_nil _ _ _ _ _ | exact Kd.Q_nil _ _ _ _ _ | exact Kd.R_nil _ _ _ _ _⟩, ⟨by exact bup BK158.out⟩, ⟨by exact bup BK159.out⟩, ⟨by with_reducible repeat (first | exact HB.out | refine h4 ?_ GE158.out | refine h4 ?_ GE159.out | apply h1 | apply h2 | apply h3)⟩⟩
      case round =>
       clear H'
       try clear c1
       try clear p1
       try clear q1
       try clear hx1
       try clear qi1
       try clear c2
       try clear c2b0
       try clear c2b1
       try clear p2
       try clear c3
       try clear c5
       try clear c6
       try clear p6
       try clear c8
       try clear c8b0
       try clear c10
       try clear c10b0
       try clear c10b1
       try clear c11
       try clear c11b0
       try clear c11b1
       try clear c12
       try clear c12b0
       try clear c12b1
       try clear c13
       try clear c16
       try clear c16b0
       try clear c16b1
       try clear p16
       try clear q16
       try clear hx16
       try clear qi16
       try clear hcz7_0
       try clear hcz7_1
       try clear hfz7_0
       try clear hfz7_1
       try clear hx166_0
       try clear p166
       try clear p2
       try clear q166
       obtain ⟨x8_2, x9_2, x159000_2, x160001_2, u160001, rfl, rfl, HA, HK2, HO_5, HO_160001, BK158, BK159, HB⟩ := hrel
       cases gk with
       | zero => exact absurd HA.out (by unfold spec_PageRead.l1; simp)
       | succ k2 =>
        have H := HA.out
        clear HA
        unfold spec_PageRead.l1 at H; try dsimp only at H
        have HC18 := Aside0.mk H
        clear H
        go_upto_region 13 with (fail)
        go_cut [50] (fun v50 wc => ∃ (kq : Nat) (x50_17 : Bool), v50 = .bool x50_17 ∧ Aside0 (spec_PageRead.j2 kq l0 x5_1 (wrap64 (rd x5_1 0)) x8_2 x9_2 x50_17 t160 x160001_2 = some (r1, r2, r3)) ∧ Aside0 (kq ≤ k2) ∧ Aside0 (Kd.R (Kd.int .u8) 5 wc w.heap.size (fun _ => True) (.slice (some ad166) x5_1.length co17) x5_1) ∧ Aside0 (Kd.S (Kd.slice 5 (Kd.int .u8)) 36 wc w.heap.size (fun k_ => some k_ ≠ ((.slice (some ad166) x5_1.length co17) : Value).ownBlock) u160001 x160001_2) ∧ Aside0 (wc.heap[gb158]? = some (.cells #[.int .i64 x159000_2, (.slice none 0 0)] 27 (0, 0))) ∧ Aside0 (wc.heap[gb159]? = some (.cells #[.int .i64 t160, u160001] 27 (0, 0))) ∧ Aside0 (Below w.heap.size w wc))
        case first =>
         have H := HC18.out
         clear HC18
         by_cases c19 : x9_2 < (wrap64 (rd x5_1 0))
         ·rw [if_pos c19] at H
          have c19b0 : decide (x9_2 < (wrap64 (rd x5_1 0))) = true := decide_eq_true c19
          clear c19
          (first | rw [c19b0] | (simp only [i64_w, i32_w]; rw [c19b0]) | skip)
          have H' := Aside0.mk H
          clear H
          go_wp2
          go_meet
          case rel => exact ⟨_, (decide ((wrap64 (1 + x9_2)) < (x5_1.length : Int))), (by first | rfl | (simp; done) | (simp [*]; done)), H', ⟨by have := HK1.out; have := HK2.out; first | omega | exact Nat.le_refl _⟩, ⟨by exact Kd.rup HO_5.out⟩, ⟨by (with_reducible repeat (first | apply Kd.S_alloc | apply Kd.S_drewN | apply Kd.S_drew)); exact HO_160001.out⟩, ⟨by exact bup BK158.out⟩, ⟨by exact bup BK159.out⟩, ⟨by with_reducible repeat (first | exact HB.out | refine h4 ?_ GE158.out | refine h4 ?_ GE159.out | apply h1 | apply h2 | apply h3)⟩⟩
         ·rw [if_neg c19] at H
          have c19b0 : decide (x9_2 < (wrap64 (rd x5_1 0))) = false := decide_eq_false c19
          clear c19
          (first | rw [c19b0] | (simp only [i64_w, i32_w]; rw [c19b0]) | skip)
          have H' := Aside0.mk H
          clear H
          go_wp2
          go_meet
          case rel => exact ⟨_, (false), (by first | rfl | (simp; done) | (simp [*]; done)), H', ⟨by have := HK1.out; have := HK2.out; first | omega | exact Nat.le_refl _⟩, ⟨by exact Kd.rup HO_5.out⟩, ⟨by (with_reducible repeat (first | apply Kd.S_alloc | apply Kd.S_drewN | apply Kd.S_drew)); exact HO_160001.out⟩, ⟨by exact bup BK158.out⟩, ⟨by exact bup BK159.out⟩, ⟨by with_reducible repeat (first | exact HB.out | refine h4 ?_ GE158.out | refine h4 ?_ GE159.out | apply h1 | apply h2 | apply h3)⟩⟩
        case rest =>
         clear HC18
         try clear c1
         try clear p1
         try clear q1
         try clear hx1
         try clear qi1
         try clear c2
         try clear c2b0
         try clear c2b1
         try clear p2
         try clear c3
         try clear c5
         try clear c6
         try clear p6
         try clear c8
         try clear c8b0
         try clear c10
         try clear c10b0
         try clear c10b1
         try clear c11
         try clear c11b0
         try clear c11b1
         try clear c12
         try clear c12b0
         try clear c12b1
         try clear c13
         try clear c16
         try clear c16b0
         try clear c16b1
         try clear p16
         try clear q16
         try clear hx16
         try clear qi16
         try clear c19
         try clear c19b0
         try clear hcz7_0
         try clear hcz7_1
         try clear hfz7_0
         try clear hfz7_1
         try clear hx166_0
         try clear p1
         try clear p16
         try clear p166
         try clear p2
         try clear p6
         try clear q1
         try clear q16
         try clear q166
         obtain ⟨kq, x50_17, rfl, HA, HJ17, HO_5, HO_160001, BK158, BK159, HB⟩ := hcut
         cases kq with
         | zero => exact absurd HA.out (by unfold spec_PageRead.j2; simp)
         | succ kj17 =>
          have H := HA.out
          clear HA
          unfold spec_PageRead.j2 at H; try dsimp only at H
          by_cases c20 : x50_17 = true
          ·subst c20
           have H1 : (if 0 ≤ (wrap64 (1 + x9_2)) then (if (wrap64 (1 + x9_2)) < (x5_1.length : Int) then (if x8_2 > (x5_1.length : Int) then (some (0, ([] : List (List Int)), false)) else (if (wrap64 (rd x5_1 (wrap64 (1 + x9_2)))) > (wrap64 ((x5_1.length : Int) - x8_2)) then (some (0, ([] : List (List Int)), false)) else ((some (([] : List Int) : List Int)).bind fun y168 => (if 0 ≤ x8_2 then (if x8_2 ≤ (wrap64 (x8_2 + (wrap64 (rd x5_1 (wrap64 (1 + x9_2)))))) then (if (wrap64 (x8_2 + (wrap64 (rd x5_1 (wrap64 (1 + x9_2)))))) ≤ (x5_1.length : Int) then ((some ((x5_1.take ((wrap64 (x8_2 + (wrap64 (rd x5_1 (wrap64 (1 + x9_2)))))) : Int).toNat).drop (x8_2 : Int).toNat : List Int)).bind fun y171 => (if y168.length + y171.length < 140737488355328 then (if x160001_2.length < 5864062014805 then (spec_PageRead.l1 kj17 l0 x5_1 (wrap64 (rd x5_1 0)) (wrap64 (x8_2 + (wrap64 (rd x5_1 (wrap64 (1 + x9_2)))))) (wrap64 (x9_2 + 1)) t160 (x160001_2 ++ [(y168 ++ y171)])) else (none)) else (none))) else (none)) else (none)) else (none))))) else (none)) else (none)) = some (r1, r2, r3) := by rw [if_pos rfl] at H; exact H
           clear H
           have H := H1
           clear H1
           obtain ⟨ji21, hji21⟩ : ∃ j_ : Int, (wrap64 (1 + x9_2)) = j_ := ⟨_, rfl⟩
           replace H : (if 0 ≤ (ji21) then (if (ji21) < (x5_1.length : Int) then (if x8_2 > (x5_1.length : Int) then (some (0, ([] : List (List Int)), false)) else (if (wrap64 (rd x5_1 (ji21))) > (wrap64 ((x5_1.length : Int) - x8_2)) then (some (0, ([] : List (List Int)), false)) else ((some (([] : List Int) : List Int)).bind fun y168 => (if 0 ≤ x8_2 then (if x8_2 ≤ (wrap64 (x8_2 + (wrap64 (rd x5_1 (ji21))))) then (if (wrap64 (x8_2 + (wrap64 (rd x5_1 (ji21))))) ≤ (x5_1.length : Int) then ((some ((x5_1.take ((wrap64 (x8_2 + (wrap64 (rd x5_1 (ji21))))) : Int).toNat).drop (x8_2 : Int).toNat : List Int)).bind fun y171 => (if y168.length + y171.length < 140737488355328 then (if x160001_2.length < 5864062014805 then (spec_PageRead.l1 kj17 l0 x5_1 (wrap64 (rd x5_1 0)) (wrap64 (x8_2 + (wrap64 (rd x5_1 (ji21))))) (wrap64 (x9_2 + 1)) t160 (x160001_2 ++ [(y168 ++ y171)])) else (none)) else (none))) else (none)) else (none)) else (none))))) else (none)) else (none)) = some (r1, r2, r3) := by first | (rw [hji21] at H; exact H) | (simp only [hji21] at H ⊢; exact H)
           have hji21w : (IntKind.i64.wrap (1 + x9_2)) = ji21 := (i64_w _).trans hji21
           by_cases c22 : 0 ≤ (ji21)
           ·rw [if_pos c22] at H
            have c22b0 : decide (0 ≤ (ji21)) = true := decide_eq_true c22
            clear c22
            by_cases c23 : (ji21) < (x5_1.length : Int)
            ·rw [if_pos c23] at H
             have c23b0 : decide ((ji21) < (x5_1.length : Int)) = true := decide_eq_true c23
             clear c23
             by_cases c24 : x8_2 > (x5_1.length : Int)
             ·rw [if_pos c24] at H
              have c24b0 : decide ((x5_1.length : Int) < x8_2) = true := decide_eq_true c24
              clear c24
              simp only [Option.some.injEq, Prod.mk.injEq] at H
              obtain ⟨rfl, rfl, rfl⟩ := H
              have p167 : 0 ≤ ((ji21) : Int) := of_decide_eq_true (by first | (with_reducible assumption) | assumption)
              have q167 : (ji21) < (x5_1.length : Int) := of_decide_eq_true (by first | (with_reducible assumption) | assumption)
              obtain ⟨ad167, e167, hx167_0⟩ := Kd.at_int (Kd.R_reads' HO_5.out).2.2 (ji21) p167 q167
              obtain rfl : ad166 = ad167 := (by injection e167)
              replace p167 := eq_true p167
              replace q167 := eq_true q167
              have hnb25 := NB158_159.out
              have hnc25 := NB159_158.out
              obtain ⟨hcz26_0, hcz26_1⟩ := blk_cells2 BK158.out
              obtain ⟨hfz26_0, hfz26_1⟩ := blk_frozens2 BK158.out
              go_wp2
              refine bodyPost_ret (results_ct rfl _ _ gb158 27 #[.int .i64 0, .slice none 0 0] (0, 0) _ rfl (by (with_reducible repeat (first | refine b1 ?_ _ | refine b2 ?_ | refine b3 ?_ _)); refine blk_put (cs := #[.int .i64 0, .slice none 0 0]) ?_ 1 _ rfl; (with_reducible repeat (first | refine b1 ?_ _ | refine b2 ?_ | refine b3 ?_ _)); refine blk_put (cs := #[.int .i64 x159000_2, .slice none 0 0]) ?_ 0 _ rfl; exact bup BK158.out) Try.underlying27 rfl (by kernel_rfl)) rfl ?_
              exact ⟨_, by first | rfl | (simp [errW_none, errW_some] <;> rfl) | (simp only [← hji21]; first | rfl | (simp [errW_none, errW_some] <;> rfl)) | (simp [*, errW_none, errW_some] <;> rfl), by first | exact Kd.S_nil _ _ _ _ _ | exact Kd.N_nil _ _ _ _ _ | exact Kd.V_nil _ _ _ _ _ | exact Kd.Q_nil _ _ _ _ _ | exact Kd.R_nil _ _ _ _ _, by with_reducible repeat (first | exact HB.out | refine h4 ?_ GE158.out | refine h4 ?_ GE159.out | apply h1 | apply h2 | apply h3)⟩
             ·rw [if_neg c24] at H
              have c24b0 : decide ((x5_1.length : Int) < x8_2) = false := decide_eq_false c24
              clear c24
              by_cases c27 : (wrap64 (rd x5_1 (ji21))) > (wrap64 ((x5_1.length : Int) - x8_2))
              ·rw [if_pos c27] at H
               have c27b0 : decide ((wrap64 ((x5_1.length : Int) - x8_2)) < (wrap64 (rd x5_1 (ji21)))) = true := decide_eq_true c27
               clear c27
               simp only [Option.some.injEq, Prod.mk.injEq] at H
               obtain ⟨rfl, rfl, rfl⟩ := H
               have p167 : 0 ≤ ((ji21) : Int) := of_decide_eq_true (by first | (with_reducible assumption) | assumption)
               have q167 : (ji21) < (x5_1.length : Int) := of_decide_eq_true (by first | (with_reducible assumption) | assumption)
               obtain ⟨ad167, e167, hx167_0⟩ := Kd.at_int (Kd.R_reads' HO_5.out).2.2 (ji21) p167 q167
               obtain rfl : ad166 = ad167 := (by injection e167)
               replace p167 := eq_true p167
               replace q167 := eq_true q167
               have hnb28 := NB158_159.out
               have hnc28 := NB159_158.out
               obtain ⟨hcz29_0, hcz29_1⟩ := blk_cells2 BK158.out
               obtain ⟨hfz29_0, hfz29_1⟩ := blk_frozens2 BK158.out
               go_wp2
               refine bodyPost_ret (results_ct rfl _ _ gb158 27 #[.int .i64 0, .slice none 0 0] (0, 0) _ rfl (by (with_reducible repeat (first | refine b1 ?_ _ | refine b2 ?_ | refine b3 ?_ _)); refine blk_put (cs := #[.int .i64 0, .slice none 0 0]) ?_ 1 _ rfl; (with_reducible repeat (first | refine b1 ?_ _ | refine b2 ?_ | refine b3 ?_ _)); refine blk_put (cs := #[.int .i64 x159000_2, .slice none 0 0]) ?_ 0 _ rfl; exact bup BK158.out) Try.underlying27 rfl (by kernel_rfl)) rfl ?_
               exact ⟨_, by first | rfl | (simp [errW_none, errW_some] <;> rfl) | (simp only [← hji21]; first | rfl | (simp [errW_none, errW_some] <;> rfl)) | (simp [*, errW_none, errW_some] <;> rfl), by first | exact Kd.S_nil _ _ _ _ _ | exact Kd.N_nil _ _ _ _ _ | exact Kd.V_nil _ _ _ _ _ | exact Kd.Q_nil _ _ _ _ _ | exact Kd.R_nil _ _ _ _ _, by with_reducible repeat (first | exact HB.out | refine h4 ?_ GE158.out | refine h4 ?_ GE159.out | apply h1 | apply h2 | apply h3)⟩
              ·rw [if_neg c27] at H
               have c27b0 : decide ((wrap64 ((x5_1.length : Int) - x8_2)) < (wrap64 (rd x5_1 (ji21)))) = false := decide_eq_false c27
               clear c27
               obtain ⟨y168, hy168⟩ : ∃ y_ : List Int, y_ = (([] : List Int)) := ⟨_, rfl⟩
               replace H : (if 0 ≤ x8_2 then (if x8_2 ≤ (wrap64 (x8_2 + (wrap64 (rd x5_1 (ji21))))) then (if (wrap64 (x8_2 + (wrap64 (rd x5_1 (ji21))))) ≤ (x5_1.length : Int) then ((some ((x5_1.take ((wrap64 (x8_2 + (wrap64 (rd x5_1 (ji21))))) : Int).toNat).drop (x8_2 : Int).toNat : List Int)).bind fun y171 => (if y168.length + y171.length < 140737488355328 then (if x160001_2.length < 5864062014805 then (spec_PageRead.l1 kj17 l0 x5_1 (wrap64 (rd x5_1 0)) (wrap64 (x8_2 + (wrap64 (rd x5_1 (ji21))))) (wrap64 (x9_2 + 1)) t160 (x160001_2 ++ [(y168 ++ y171)])) else (none)) else (none))) else (none)) else (none)) else (none)) = some (r1, r2, r3) := by first | (rw [hy168]; with_reducible exact H) | (have H2_ := (Option.bind_some _ _).symm.trans H; rw [hy168]; with_reducible exact H2_) | (have H2_ := (Option.bind_some _ _).symm.trans H; with_reducible exact H2_) | with_reducible exact H | (rw [hy168]; exact H) | exact H
               have Ny168 := Aside0.mk hy168
               clear hy168
               by_cases c30 : 0 ≤ x8_2
               ·rw [if_pos c30] at H
                have c30b0 := eq_true c30
                have c30b1 : decide (0 ≤ x8_2) = true := decide_eq_true c30
                clear c30
                by_cases c31 : x8_2 ≤ (wrap64 (x8_2 + (wrap64 (rd x5_1 (ji21)))))
                ·rw [if_pos c31] at H
                 have c31b0 := eq_true c31
                 have c31b1 : decide (x8_2 ≤ (wrap64 (x8_2 + (wrap64 (rd x5_1 (ji21)))))) = true := decide_eq_true c31
                 by_cases c32 : (wrap64 (x8_2 + (wrap64 (rd x5_1 (ji21))))) ≤ (x5_1.length : Int)
                 ·rw [if_pos c32] at H
                  have c32b0 := eq_true c32
                  have c32b1 : decide ((wrap64 (x8_2 + (wrap64 (rd x5_1 (ji21))))) ≤ (x5_1.length : Int)) = true := decide_eq_true c32
                  obtain ⟨y171, hy171⟩ : ∃ y_ : List Int, y_ = ((x5_1.take ((wrap64 (x8_2 + (wrap64 (rd x5_1 (ji21))))) : Int).toNat).drop (x8_2 : Int).toNat) := ⟨_, rfl⟩
                  replace H : (if y168.length + y171.length < 140737488355328 then (if x160001_2.length < 5864062014805 then (spec_PageRead.l1 kj17 l0 x5_1 (wrap64 (rd x5_1 0)) (wrap64 (x8_2 + (wrap64 (rd x5_1 (ji21))))) (wrap64 (x9_2 + 1)) t160 (x160001_2 ++ [(y168 ++ y171)])) else (none)) else (none)) = some (r1, r2, r3) := by first | (rw [hy171]; with_reducible exact H) | (have H2_ := (Option.bind_some _ _).symm.trans H; rw [hy171]; with_reducible exact H2_) | (have H2_ := (Option.bind_some _ _).symm.trans H; with_reducible exact H2_) | with_reducible exact H | (rw [hy171]; exact H) | exact H
                  have Ny171 := Aside0.mk hy171
                  clear hy171
                  by_cases c33 : y168.length + y171.length < 140737488355328
                  ·rw [if_pos c33] at H
                   have LMc33 := Aside0.mk c33
                   clear c33
                   obtain ⟨y175, hy175⟩ : ∃ y_ : List Int, y_ = (y168 ++ y171) := ⟨_, rfl⟩
                   replace H : (if x160001_2.length < 5864062014805 then (spec_PageRead.l1 kj17 l0 x5_1 (wrap64 (rd x5_1 0)) (wrap64 (x8_2 + (wrap64 (rd x5_1 (ji21))))) (wrap64 (x9_2 + 1)) t160 (x160001_2 ++ [y175])) else (none)) = some (r1, r2, r3) := by first | (rw [hy175]; with_reducible exact H) | (have H2_ := (Option.bind_some _ _).symm.trans H; rw [hy175]; with_reducible exact H2_) | (have H2_ := (Option.bind_some _ _).symm.trans H; with_reducible exact H2_) | with_reducible exact H | (rw [hy175]; exact H) | exact H
                   have Ny175 := Aside0.mk hy175
                   clear hy175
                   by_cases c34 : x160001_2.length < 5864062014805
                   ·rw [if_pos c34] at H
                    have LMc34 := Aside0.mk c34
                    clear c34
                    obtain ⟨y178, hy178⟩ : ∃ y_ : List (List Int), y_ = (x160001_2 ++ [y175]) := ⟨_, rfl⟩
                    replace H : (spec_PageRead.l1 kj17 l0 x5_1 (wrap64 (rd x5_1 0)) (wrap64 (x8_2 + (wrap64 (rd x5_1 (ji21))))) (wrap64 (x9_2 + 1)) t160 y178) = some (r1, r2, r3) := by first | (rw [hy178]; with_reducible exact H) | (have H2_ := (Option.bind_some _ _).symm.trans H; rw [hy178]; with_reducible exact H2_) | (have H2_ := (Option.bind_some _ _).symm.trans H; with_reducible exact H2_) | with_reducible exact H | (rw [hy178]; exact H) | exact H
                    have Ny178 := Aside0.mk hy178
                    clear hy178
                    have H' := Aside0.mk H
                    clear H
                    have p167 : 0 ≤ ((ji21) : Int) := of_decide_eq_true (by first | (with_reducible assumption) | assumption)
                    have q167 : (ji21) < (x5_1.length : Int) := of_decide_eq_true (by first | (with_reducible assumption) | assumption)
                    obtain ⟨ad167, e167, hx167_0⟩ := Kd.at_int (Kd.R_reads' HO_5.out).2.2 (ji21) p167 q167
                    obtain rfl : ad166 = ad167 := (by injection e167)
                    replace p167 := eq_true p167
                    replace q167 := eq_true q167
                    try go_wp2
                    have n0_ := Aside0.mk (Kd.R_drew HO_5.out)
                    have n1_ := Aside0.mk (Kd.S_drew HO_160001.out)
                    have n2_ := Aside0.mk (blk_drew BK158.out)
                    have n3_ := Aside0.mk (blk_drew BK159.out)
                    have n4_ := Aside0.mk (below_drew1 HB.out)
                    clear HO_5
                    clear HO_160001
                    clear BK158
                    clear BK159
                    clear HB
                    have HO_5 := n0_
                    have HO_160001 := n1_
                    have BK158 := n2_
                    have BK159 := n3_
                    have HB := n4_
                    clear n0_ n1_ n2_ n3_ n4_
                    have q36 : ((wrap64 (x8_2 + (wrap64 (rd x5_1 (ji21))))) : Int) ≤ ((x5_1.length : Int) : Int) := of_decide_eq_true (by first | (with_reducible assumption) | assumption)
                    obtain ⟨i036, hi036, _, hsz36, _⟩ := info_parts info5
                    have hroom36 : x5_1.length ≤ co17 := (Kd.R_reads' HO_5.out).2.1
                    have hC36 : Kd.C (Kd.int .u8) _ (some ad166) x5_1.length x5_1 := (Kd.R_reads' HO_5.out).2.2
                    have ql36 : (x8_2 : Int) ≤ ((wrap64 (x8_2 + (wrap64 (rd x5_1 (ji21))))) : Int) := of_decide_eq_true (by first | (with_reducible assumption) | assumption)
                    have q036 : (0 : Int) ≤ (x8_2 : Int) := of_decide_eq_true (by first | (with_reducible assumption) | assumption)
                    have hcut36 := cut_mid (P := Try.prog) 36 5 .i64 .i64 Try.underlying36 hi036 1 hsz36 (some ad166) x5_1.length co17 x8_2 (wrap64 (x8_2 + (wrap64 (rd x5_1 (ji21))))) q036 ql36 q36 hroom36
                    have hr36 := Kd.C_mid (lo := (x8_2 : Int).toNat) (hi := ((wrap64 (x8_2 + (wrap64 (rd x5_1 (ji21))))) : Int).toNat) (c := co17) hC36 (by omega) (by omega) hroom36
                    obtain ⟨A36, hA36⟩ : ∃ A1, A1 = (if co17 = (x8_2 : Int).toNat then (some ad166) else ((some ad166) : Option Addr).map (·.add ((x8_2 : Int).toNat * 1))) := ⟨_, rfl⟩
                    obtain ⟨c36, hc36⟩ : ∃ c1, c1 = co17 - (x8_2 : Int).toNat := ⟨_, rfl⟩
                    have hy36 : y171.length = ((wrap64 (x8_2 + (wrap64 (rd x5_1 (ji21))))) : Int).toNat - (x8_2 : Int).toNat := (by rw [Ny171.out, List.length_drop, List.length_take] <;> omega)
                    rw [show ((x5_1).take ((wrap64 (x8_2 + (wrap64 (rd x5_1 (ji21))))) : Int).toNat).drop (x8_2 : Int).toNat = y171 from Ny171.out.symm] at hr36
                    replace hr36 : Kd.C (Kd.int .u8) _ A36 y171.length y171 := (by rw [hA36]; exact hr36)
                    rw [← hy36, ← hA36, ← hc36] at hcut36
                    have HR174 := Aside0.mk hr36
                    have HC174 := Aside0.mk (show y171.length ≤ c36 from by rw [hy36, hc36]; exact Nat.sub_le_sub_right (Nat.le_trans (by omega) hroom36) _)
                    clear hr36 hC36 hroom36 hi036 hsz36 hc36
                    have KY36 := Aside0.mk hy36
                    have KA36 := Aside0.mk hA36
                    clear hy36 hA36
                    have KL36 := Aside0.mk (show ((wrap64 (x8_2 + (wrap64 (rd x5_1 (ji21))))) : Int).toNat ≤ x5_1.length from by omega)
                    have KM36 := Aside0.mk (show (x8_2 : Int).toNat ≤ ((wrap64 (x8_2 + (wrap64 (rd x5_1 (ji21))))) : Int).toNat from by omega)
                    replace q36 := eq_true q36
                    refine start_ (n := 14) (S := fun w' => w'.cell? ⟨gb159, 0, none⟩ = some (.int .i64 t160) ∧ w'.cell? ⟨gb159, 1, none⟩ = some (u160001)) (ds := [13]) #[false, false, false, false, false, false, false, false, false, false, false, false, false, false] (by kernel_rfl) rfl rfl (blk_cells2 BK159.out) (fun hHeld => ?_); refine with_tabW spec_PageRead.tab18 spec_PageRead.bits18 (fun HT_ HW_ => ?_)
                    generalize wc.drew = w35 at HO_5 HO_160001 BK158 BK159 HB HR174 hHeld ⊢
                    refine pure_ (i := 0) (N := some 72) (v := ?_) (a' := ?_) #[true, false, false, false, false, false, false, false, false, false, false, false, false, false] rfl rfl (any_of HT_.out (by kernel_rfl)) (fun _ _ _ h => h) (Or.inl ⟨by rfl, ?_⟩) ?_ ?_
                    rotate_left
                    ·intro w'
                     go_simp
                     with_reducible rfl
                    rotate_left
                    ·simp only [Act.put, List.setIfInBounds_toArray, List.set_cons_zero, List.set_cons_succ, i64_w, i32_w]
                     rfl
                    refine pure_ (i := 3) (N := some 75) (v := ?_) (a' := ?_) #[true, false, false, true, false, false, false, false, false, false, false, false, false, false] rfl rfl (any_of HT_.out (by kernel_rfl)) (fun _ _ _ h => h) (Or.inl ⟨by rfl, ?_⟩) ?_ ?_
                    rotate_left
                    ·intro w'
                     go_simp
                     with_reducible rfl
                    rotate_left
                    ·simp only [Act.put, List.setIfInBounds_toArray, List.set_cons_zero, List.set_cons_succ, i64_w, i32_w]
                     rfl
                    refine pure_ (i := 4) (N := some 76) (v := ?_) (a' := ?_) #[true, false, false, true, true, false, false, false, false, false, false, false, false, false] rfl rfl (any_of HT_.out (by kernel_rfl)) (fun _ _ _ h => h) (Or.inl ⟨by rfl, ?_⟩) ?_ ?_
                    rotate_left
                    ·intro w'
                     go_simp
                     with_reducible rfl
                    rotate_left
                    ·simp only [Act.put, List.setIfInBounds_toArray, List.set_cons_zero, List.set_cons_succ, i64_w, i32_w]
                     rfl
                    refine pure_ (i := 5) (N := some 77) (v := ?_) (a' := ?_) #[true, false, false, true, true, true, false, false, false, false, false, false, false, false] rfl rfl (any_of HT_.out (by kernel_rfl)) (fun _ _ _ h => h) (Or.inl ⟨by rfl, ?_⟩) ?_ ?_
                    rotate_left
                    ·intro w'
                     go_simp
                     with_reducible rfl
                    rotate_left
                    ·simp only [Act.put, List.setIfInBounds_toArray, List.set_cons_zero, List.set_cons_succ, i64_w, i32_w]
                     rfl
                    refine pure_ (i := 6) (N := some 78) (v := ?_) (a' := ?_) #[true, false, false, true, true, true, true, false, false, false, false, false, false, false] rfl rfl (any_of HT_.out (by kernel_rfl)) (fun _ _ _ h => h) (Or.inl ⟨by rfl, ?_⟩) ?_ ?_
                    rotate_left
                    ·intro w'
                     go_simp
                     with_reducible rfl
                    rotate_left
                    ·simp only [Act.put, List.setIfInBounds_toArray, List.set_cons_zero, List.set_cons_succ, i64_w, i32_w]
                     rfl
                    refine pure_ (i := 7) (N := some 79) (v := ?_) (a' := ?_) #[true, false, false, true, true, true, true, true, false, false, false, false, false, false] rfl rfl (any_of HT_.out (by kernel_rfl)) (fun _ _ _ h => h) (Or.inl ⟨by rfl, ?_⟩) ?_ ?_
                    rotate_left
                    ·intro w'
                     go_simp
                     with_reducible rfl
                    rotate_left
                    ·simp only [Act.put, List.setIfInBounds_toArray, List.set_cons_zero, List.set_cons_succ, i64_w, i32_w]
                     rfl
                    refine pure_ (i := 8) (N := some 80) (v := ?_) (a' := ?_) #[true, false, false, true, true, true, true, true, true, false, false, false, false, false] rfl rfl (any_of HT_.out (by kernel_rfl)) (fun _ _ _ h => h) (Or.inl ⟨by rfl, ?_⟩) ?_ ?_
                    rotate_left
                    ·intro w'
                     go_simp
                     with_reducible rfl
                    rotate_left
                    ·simp only [Act.put, List.setIfInBounds_toArray, List.set_cons_zero, List.set_cons_succ, i64_w, i32_w]
                     rfl
                    refine take_ (i := 1) (N := some 73) (v := ?_) (a' := ?_) #[true, true, false, true, true, true, true, true, true, false, false, false, false, false] rfl rfl (take_ofW HT_.out HW_.out (by kernel_rfl)) (fun _ _ _ h => h) (Or.inl ⟨by rfl, ?_⟩) hHeld ?_ ?_
                    rotate_left
                    ·rintro w' ⟨s0, s1⟩
                     go_simp
                     with_reducible rfl
                    rotate_left
                    ·simp only [Act.put, List.setIfInBounds_toArray, List.set_cons_zero, List.set_cons_succ, i64_w, i32_w]
                     rfl
                    refine one_ (i := 2) (N := some 74) #[true, true, true, true, true, true, true, true, true, false, false, false, false, false] rfl rfl (one_of HT_.out (by kernel_rfl)) (by decide) (fun K hK => ?_)
                    refine Kd.R_lit_step (Kd.int .u8) _ 5 ?hg (N := 74) ?hd (xs := ([] : List Int)) (inner := []) (ok := fun _ => True) (okp := fun _ => True) ?hr ?hp (fun _ hk => hk) trivial (Below.refl _ _) (Nat.le_refl _) (by simp) ?_; (case hd => rfl); (case hg => rfl); (case hr => first | (go_simp; done) | (go_simp; rfl)); (case hp => exact (Reps.none _ _))
                    intro v169 w37 ho38 hb hg_ hnew_
                    clear hg_ hnew_
                    (first | rw [← Ny168.out] at ho38 | (simp only [Int.reduceToNat] at ho38; rw [← Ny168.out] at ho38))
                    have n0_ := Aside0.mk (Kd.R_elder' (Kd.rup HO_5.out) (Kd.R_base ho38) hb)
                    have n1_ := Aside0.mk (Kd.S_elder' (by (with_reducible repeat (first | apply Kd.S_alloc | apply Kd.S_drewN | apply Kd.S_drew)); exact HO_160001.out) (Kd.R_base ho38) hb)
                    have n2_ := Aside0.mk (Kd.R_lower (Kd.R_new' ho38 (Kd.R_lt (Kd.rup HO_5.out))) (below_size (by with_reducible repeat (first | exact HB.out | refine h4 ?_ GE158.out | refine h4 ?_ GE159.out | apply h1 | apply h2 | apply h3))))
                    have n3_ := Aside0.mk (blk_below (g := gb158) (o := .cells #[.int .i64 x159000_2, .slice none 0 0] 27 (0, 0)) (bup BK158.out) hb)
                    have n4_ := Aside0.mk (blk_below (g := gb159) (o := .cells #[.int .i64 t160, u160001] 27 (0, 0)) (bup BK159.out) hb)
                    have n5_ := Aside0.mk (Kd.C_below (by repeat (first | (with_reducible exact HR174.out) | (with_reducible refine Kd.C_alloc ?_ _) | (with_reducible refine Kd.C_drewN ?_ _) | (with_reducible refine Kd.C_drew ?_) | exact HR174.out)) hb)
                    have n6_ := Aside0.mk (below_step (by with_reducible repeat (first | exact HB.out | refine h4 ?_ GE158.out | refine h4 ?_ GE159.out | apply h1 | apply h2 | apply h3)) hb)
                    clear HO_5
                    clear HO_160001
                    clear BK158
                    clear BK159
                    clear HR174
                    clear HB
                    have HO_5 := n0_
                    have HO_160001 := n1_
                    have HO170 := n2_
                    have BK158 := n3_
                    have BK159 := n4_
                    have HR174 := n5_
                    have HB := n6_
                    clear n0_ n1_ n2_ n3_ n4_ n5_ n6_
                    clear hb ho38
                    refine hK.out _ _ (blk_cells2 BK159.out) (fun hHeld => ?_)
                    clear hK K
                    refine norm_ (a' := ?_) ?_ ?_
                    rotate_left
                    ·show Act.put _ (some 74) _ = _
                     simp only [Act.put, List.setIfInBounds_toArray, List.set_cons_zero, List.set_cons_succ, i64_w, i32_w]
                     rfl
                    refine one_ (i := 9) (N := some 81) #[true, true, true, true, true, true, true, true, true, true, false, false, false, false] rfl rfl (one_of HT_.out (by kernel_rfl)) (by decide) (fun K hK => ?_)
                    refine Kd.R_append_rows_step (Kd.int .u8) (w0 := w) w.heap.size (by rfl) (.tmp 74) (.tmp 80) 36 5 (.int .u8 0) 1 rfl Try.underlying36 info5 rfl (by decide) (by omega) v169 y168 y171 _ _ _ (fun k_ => some k_ ≠ (.slice (some ad166) x5_1.length co17 : Value).ownBlock) (fun _ => False) rfl rfl ?aO ?aR (fun _ _ h => h) (fun _ h => h.elim) ?aF ?aB ?aS ?aL ?_
                    (case aR => repeat (first | exact (by repeat (first | (with_reducible exact HR174.out) | (with_reducible refine Kd.C_alloc ?_ _) | (with_reducible refine Kd.C_drewN ?_ _) | (with_reducible refine Kd.C_drew ?_) | exact HR174.out)) | (with_reducible refine Kd.C_alloc ?_ _) | (with_reducible refine Kd.C_drewN ?_ _) | (with_reducible refine Kd.C_drew ?_)))
                    (case aB => exact (by with_reducible repeat (first | exact HB.out | refine h4 ?_ GE158.out | refine h4 ?_ GE159.out | apply h1 | apply h2 | apply h3)))
                    (case aF => exact (fun k_ hk => Kd.fresh' (Kd.R_lt (Kd.rup HO_5.out)) k_ hk))
                    (case aO => exact (by exact Kd.rup (Kd.R_mono HO170.out (fun _ hk => hk.2))))
                    (case aS => exact (below_size (by with_reducible repeat (first | exact HB.out | refine h4 ?_ GE158.out | refine h4 ?_ GE159.out | apply h1 | apply h2 | apply h3))))
                    (case aL => have := LMc33.out; omega)
                    intro v176 w39 ho hb hg hat
                    rw [← Ny175.out] at ho
                    have n0_ := Aside0.mk (Kd.R_after (ok := (fun _ => True)) (Kd.rup HO_5.out) hg hat)
                    have n1_ := Aside0.mk (Kd.S_after (ok := (fun k_ => some k_ ≠ (.slice (some ad166) x5_1.length co17 : Value).ownBlock)) (by (with_reducible repeat (first | apply Kd.S_alloc | apply Kd.S_drewN | apply Kd.S_drew)); exact HO_160001.out) hg hat)
                    have n2_ := Aside0.mk (blk_grown (g := gb158) (o := .cells #[.int .i64 x159000_2, .slice none 0 0] 27 (0, 0)) (bup BK158.out) hg (Kd.R_ne HO170.out BK158.out (by decide)))
                    have n3_ := Aside0.mk (blk_grown (g := gb159) (o := .cells #[.int .i64 t160, u160001] 27 (0, 0)) (bup BK159.out) hg (Kd.R_ne HO170.out BK159.out (by decide)))
                    have n4_ := Aside0.mk (hb)
                    have n5_ := Aside0.mk ((show Kd.C (Kd.int .u8) w39 A36 y171.length y171 from by rw [Ny171.out, KA36.out]; exact Kd.C_mid (lo := (x8_2 : Int).toNat) (hi := ((wrap64 (x8_2 + (wrap64 (rd x5_1 (ji21))))) : Int).toNat) (c := co17) ((Kd.R_reads' (Kd.R_after (ok := (fun _ => True)) (Kd.rup HO_5.out) hg hat)).2.2) KM36.out KL36.out ((Kd.R_reads' (Kd.R_after (ok := (fun _ => True)) (Kd.rup HO_5.out) hg hat)).2.1)))
                    have n6_ := Aside0.mk (ho)
                    clear HO_5
                    clear HO_160001
                    clear BK158
                    clear BK159
                    clear HB
                    clear HR174
                    clear HO170
                    have HO_5 := n0_
                    have HO_160001 := n1_
                    have BK158 := n2_
                    have BK159 := n3_
                    have HB := n4_
                    have HR174 := n5_
                    have HO177 := n6_
                    clear n0_ n1_ n2_ n3_ n4_ n5_ n6_
                    clear ho hb hg hat
                    obtain ⟨Ao41, co41, eo41⟩ := Kd.R_slice HO177.out
                    (first | subst eo41 | (injection eo41 with f1_ f2_ f3_; have f4_ := f1_.symm; have f5_ := f3_.symm; clear f1_ f2_ f3_; subst f4_; subst f5_))
                    refine hK.out _ _ (blk_cells2 BK159.out) (fun hHeld => ?_)
                    clear hK K
                    refine norm_ (a' := ?_) ?_ ?_
                    rotate_left
                    ·show Act.put _ (some 81) _ = _
                     simp only [Act.put, List.setIfInBounds_toArray, List.set_cons_zero, List.set_cons_succ, i64_w, i32_w]
                     rfl
                    refine one_ (i := 10) (N := some 82) #[true, true, true, true, true, true, true, true, true, true, true, false, false, false] rfl rfl (one_of HT_.out (by kernel_rfl)) (by decide) (fun K hK => ?_)
                    refine value_ (w1 := ?_) (v := ?_) (by rfl) rfl ?_ ?_
                    rotate_left 2
                    ·go_simp
                     constructor
                     ·rfl
                     ·rfl
                    refine hK.out _ _ ⟨(blk_cell (blk_alloc BK159.out _) 0).trans rfl, (blk_cell (blk_alloc BK159.out _) 1).trans rfl⟩ (fun hHeld => ?_)
                    clear hK K
                    refine norm_ (a' := ?_) ?_ ?_
                    rotate_left
                    ·show Act.put _ (some 82) _ = _
                     simp only [Act.put, List.setIfInBounds_toArray, List.set_cons_zero, List.set_cons_succ, i64_w, i32_w]
                     rfl
                    refine one_ (i := 11) (N := some 83) #[true, true, true, true, true, true, true, true, true, true, true, true, false, false] rfl rfl (one_of HT_.out (by kernel_rfl)) (by decide) (fun K hK => ?_)
                    refine Kd.S_append_step (Kd.slice 5 (Kd.int .u8)) (w0 := w) w.heap.size (by rfl) (.tmp 73) (.tmp 82) 22 36 (.slice none 0 0) 24 rfl Try.underlying22 info36 rfl (by decide) (by omega) u160001 x160001_2 y175 [.slice Ao41 y175.length co41] (fun k_ => some k_ ≠ (.slice (some ad166) x5_1.length co17 : Value).ownBlock) (fun k_ => some k_ = (.slice Ao41 y175.length co41 : Value).ownBlock) rfl rfl ?aP (fun k_ hk_ => ((Kd.R_mono (ok' := fun k_ => ((fun k_ => some k_ ≠ (.slice (some ad166) x5_1.length co17 : Value).ownBlock)) k_ ∧ some k_ ≠ (u160001 : Value).ownBlock) (Kd.R_apart' (HO177.out) (Kd.S_typed HO_160001.out) (by decide)) (fun k_ hk => ⟨hk.1, hk.2⟩))).1 k_ hk_.symm) ?aF ?aO ?aB ?aS ?aL ?_
                    (case aP => exact Kd.M_row (Kd.R_mono (Kd.R_tight rfl (Kd.R_mono (ok' := fun k_ => ((fun k_ => some k_ ≠ (.slice (some ad166) x5_1.length co17 : Value).ownBlock)) k_ ∧ some k_ ≠ (u160001 : Value).ownBlock) (Kd.R_apart' (HO177.out) (Kd.S_typed HO_160001.out) (by decide)) (fun k_ hk => ⟨hk.1, hk.2⟩))) (fun _ h_ => h_)))
                    (case aB => exact (by with_reducible repeat (first | exact HB.out | refine h4 ?_ GE158.out | refine h4 ?_ GE159.out | apply h1 | apply h2 | apply h3)))
                    (case aF => exact (fun k_ hk => Kd.fresh' (Kd.R_lt (Kd.rup HO_5.out)) k_ hk))
                    (case aO => exact (by (with_reducible repeat (first | apply Kd.S_alloc | apply Kd.S_drewN | apply Kd.S_drew)); exact Kd.S_mono HO_160001.out (fun k_ hk => ⟨hk.1, fun e_ => hk.2 e_⟩)))
                    (case aS => exact (below_size (by with_reducible repeat (first | exact HB.out | refine h4 ?_ GE158.out | refine h4 ?_ GE159.out | apply h1 | apply h2 | apply h3))))
                    (case aL => have := LMc34.out; omega)
                    intro v179 w40 ho hb hg hat
                    rw [← Ny178.out] at ho
                    have n0_ := Aside0.mk (Kd.R_over' (Kd.rup HO_5.out) (Kd.S_typed (by (with_reducible repeat (first | apply Kd.S_alloc | apply Kd.S_drewN | apply Kd.S_drew)); exact HO_160001.out)) (by decide) hg)
                    have n1_ := Aside0.mk (blk_grown (g := gb158) (o := .cells #[.int .i64 x159000_2, .slice none 0 0] 27 (0, 0)) (bup BK158.out) hg (Kd.S_ne HO_160001.out BK158.out (by decide)))
                    have n2_ := Aside0.mk (blk_grown (g := gb159) (o := .cells #[.int .i64 t160, u160001] 27 (0, 0)) (bup BK159.out) hg (Kd.S_ne HO_160001.out BK159.out (by decide)))
                    have n3_ := Aside0.mk (hb)
                    have n4_ := Aside0.mk ((show Kd.C (Kd.int .u8) w40 A36 y171.length y171 from by rw [Ny171.out, KA36.out]; exact Kd.C_mid (lo := (x8_2 : Int).toNat) (hi := ((wrap64 (x8_2 + (wrap64 (rd x5_1 (ji21))))) : Int).toNat) (c := co17) ((Kd.R_reads' (Kd.R_over' (Kd.rup HO_5.out) (Kd.S_typed (by (with_reducible repeat (first | apply Kd.S_alloc | apply Kd.S_drewN | apply Kd.S_drew)); exact HO_160001.out)) (by decide) hg)).2.2) KM36.out KL36.out ((Kd.R_reads' (Kd.R_over' (Kd.rup HO_5.out) (Kd.S_typed (by (with_reducible repeat (first | apply Kd.S_alloc | apply Kd.S_drewN | apply Kd.S_drew)); exact HO_160001.out)) (by decide) hg)).2.1)))
                    have n5_ := Aside0.mk (ho)
                    clear HO_5
                    clear BK158
                    clear BK159
                    clear HB
                    clear HR174
                    clear HO_160001
                    clear HO177
                    have HO_5 := n0_
                    have BK158 := n1_
                    have BK159 := n2_
                    have HB := n3_
                    have HR174 := n4_
                    have HO180 := n5_
                    clear n0_ n1_ n2_ n3_ n4_ n5_
                    clear ho hb hg hat
                    obtain ⟨Ao42, co42, eo42⟩ := Kd.S_slice HO180.out
                    (first | subst eo42 | (injection eo42 with f1_ f2_ f3_; have f4_ := f1_.symm; have f5_ := f3_.symm; clear f1_ f2_ f3_; subst f4_; subst f5_))
                    refine hK.out _ _ (blk_cells2 BK159.out) (fun hHeld => ?_)
                    clear hK K
                    refine norm_ (a' := ?_) ?_ ?_
                    rotate_left
                    ·show Act.put _ (some 83) _ = _
                     simp only [Act.put, List.setIfInBounds_toArray, List.set_cons_zero, List.set_cons_succ, i64_w, i32_w]
                     rfl
                    refine pure_ (i := 12) (N := some 84) (v := ?_) (a' := ?_) #[true, true, true, true, true, true, true, true, true, true, true, true, true, false] rfl rfl (any_of HT_.out (by kernel_rfl)) (fun _ _ _ h => h) (Or.inl ⟨by rfl, ?_⟩) ?_ ?_
                    rotate_left
                    ·intro w'
                     go_simp
                     with_reducible rfl
                    rotate_left
                    ·simp only [Act.put, List.setIfInBounds_toArray, List.set_cons_zero, List.set_cons_succ, i64_w, i32_w]
                     rfl
                    refine last_ (i := 13) (N := none) #[true, true, true, true, true, true, true, true, true, true, true, true, true, true] rfl rfl (one_of HT_.out (by kernel_rfl)) (by decide) (fun K hK => ?_)
                    have hs43 : w40.cell? ⟨gb159, 1, none⟩ = some (u160001) := (blk_cell BK159.out 1).trans rfl
                    have hfs43 := blk_frozen BK159.out 1
                    have hns43_0 := NB158_159.out
                    have hms43_0 := NB159_158.out
                    refine skip_ (w1 := ?_) (by rfl) rfl ?_ ?_
                    rotate_left
                    ·go_simp
                     rfl
                    refine hK.out _ _ ?_
                    clear hK K
                    refine done_ (done_of HT_.out (by kernel_rfl)) ?_
                    try go_wp2
                    go_roundg kj17
                    case measure => have := HK1.out; have := HK2.out; have := HJ17.out; omega
                    case rel => exact ⟨(wrap64 (x8_2 + (wrap64 (rd x5_1 (ji21))))), (wrap64 (x9_2 + 1)), (x159000_2), (y178), (.slice Ao42 y178.length co42), (by first | rfl | (simp; done) | (simp only [← hji21] <;> (first | rfl | simp)) | (simp [*]; done)), (by first | rfl | (simp; done) | (simp [*]; done)), H', ⟨by have := HK1.out; have := HK2.out; have := HJ17.out; omega⟩, ⟨by exact Kd.rup (Kd.R_mono (Kd.R_far (p := ⟨gb159, 1, none⟩) (Kd.R_types HO_5.out BK159.out (by decide)) (fun _ hk => hk.2) (.slice Ao42 y178.length co42)) (fun _ hk => trivial))⟩, ⟨by (with_reducible repeat (first | apply Kd.S_alloc | apply Kd.S_drewN | apply Kd.S_drew)); exact Kd.S_mono (Kd.S_far (p := ⟨gb159, 1, none⟩) (Kd.S_types HO180.out BK159.out (by decide)) (fun _ hk => hk.2) (.slice Ao42 y178.length co42)) (fun _ hk => hk.1)⟩, ⟨by (with_reducible repeat (first | refine b1 ?_ _ | refine b2 ?_ | refine b3 ?_ _)); refine blk_far ?_ NB158_159.out _; exact bup BK158.out⟩, ⟨by (with_reducible repeat (first | refine b1 ?_ _ | refine b2 ?_ | refine b3 ?_ _)); refine blk_put (cs := #[.int .i64 t160, u160001]) ?_ 1 _ rfl; exact bup BK159.out⟩, ⟨by with_reducible repeat (first | exact HB.out | refine h4 ?_ GE158.out | refine h4 ?_ GE159.out | apply h1 | apply h2 | apply h3)⟩⟩
                   ·rw [if_neg c34] at H
                    exact absurd H (by simp)
                  ·rw [if_neg c33] at H
                   exact absurd H (by simp)
                 ·rw [if_neg c32] at H
                  exact absurd H (by simp)
                ·rw [if_neg c31] at H
                 exact absurd H (by simp)
               ·rw [if_neg c30] at H
                exact absurd H (by simp)
            ·rw [if_neg c23] at H
             exact absurd H (by simp)
           ·rw [if_neg c22] at H
            exact absurd H (by simp)
          ·replace c20 := Bool.eq_false_iff.mpr c20
           subst c20
           have H1 : ((spec_PageBytes.f kj17 t160 x160001_2).bind fun t181 => (if (strOfNums t181).toList = (strOfNums l0).toList then (some (t160, x160001_2, true)) else (some (0, ([] : List (List Int)), false)))) = some (r1, r2, r3) := by rw [if_neg (show ¬ (false = true) by decide)] at H; exact H
           clear H
           have H := H1
           clear H1
           replace H := Option.bind_eq_some_iff.mp H
           obtain ⟨t181, A440, H⟩ := H
           replace H : (if (strOfNums t181).toList = (strOfNums l0).toList then (some (t160, x160001_2, true)) else (some (0, ([] : List (List Int)), false))) = some (r1, r2, r3) := H
           have A44 := Aside0.mk A440
           clear A440
           by_cases c45 : (strOfNums t181).toList = (strOfNums l0).toList
           ·rw [if_pos c45] at H
            have c45b0 : ((strOfNums t181).toList == (strOfNums l0).toList) = true := beq_iff_eq.mpr c45
            have c45b1 : ((strOfNums t181).toList != (strOfNums l0).toList) = false := bne_eq_false_iff_eq.mpr c45
            clear c45
            simp only [Option.some.injEq, Prod.mk.injEq] at H
            obtain ⟨rfl, rfl, rfl⟩ := H
            obtain ⟨Ao46, co46, eo46⟩ := Kd.S_slice HO_160001.out
            subst eo46
            try go_wp2
            have n0_ := Aside0.mk (Kd.R_drew HO_5.out)
            have n1_ := Aside0.mk (Kd.S_drew HO_160001.out)
            have n2_ := Aside0.mk (blk_drew BK158.out)
            have n3_ := Aside0.mk (blk_drew BK159.out)
            have n4_ := Aside0.mk (below_drew1 HB.out)
            clear HO_5
            clear HO_160001
            clear BK158
            clear BK159
            clear HB
            have HO_5 := n0_
            have HO_160001 := n1_
            have BK158 := n2_
            have BK159 := n3_
            have HB := n4_
            clear n0_ n1_ n2_ n3_ n4_
            refine start_ (n := 6) (S := fun w' => w'.cell? ⟨gb159, 0, none⟩ = some (.int .i64 t160) ∧ w'.cell? ⟨gb159, 1, none⟩ = some (.slice Ao46 x160001_2.length co46) ∧ Kd.C (Kd.int .u8) w' A0 l0.length l0) (ds := []) #[false, false, false, false, false, false] (by kernel_rfl) rfl rfl ⟨(blk_cell BK159.out 0).trans rfl, (blk_cell BK159.out 1).trans rfl, (Kd.C_below HR0.out (hup HB.out))⟩ (fun hHeld => ?_)
            generalize wc.drew = w47 at HO_5 HO_160001 BK158 BK159 HB hHeld ⊢
            refine pure_ (i := 3) (N := some 91) (v := ?_) (a' := ?_) #[false, false, false, true, false, false] rfl rfl (by kernel_rfl) (fun _ _ _ h => h) (Or.inl ⟨by rfl, ?_⟩) ?_ ?_
            rotate_left
            ·intro w'
             go_simp
             with_reducible rfl
            rotate_left
            ·simp only [Act.put, List.setIfInBounds_toArray, List.set_cons_zero, List.set_cons_succ, i64_w, i32_w]
             rfl
            refine take_ (i := 4) (N := some 92) (v := ?_) (a' := ?_) #[false, false, false, true, true, false] rfl rfl (by kernel_rfl) (fun _ _ _ h => h) (Or.inl ⟨by rfl, ?_⟩) hHeld ?_ ?_
            rotate_left
            ·rintro w' ⟨s0, s1, sC⟩
             have hcv_ := Kd.C_string (P := Try.prog) (A := A0) (c := c0) Try.underlying36 Try.underlying5 Try.underlying9 sC
             go_simp
             with_reducible rfl
            rotate_left
            ·simp only [Act.put, List.setIfInBounds_toArray, List.set_cons_zero, List.set_cons_succ, i64_w, i32_w]
             rfl
            refine take_ (i := 0) (N := some 88) (v := ?_) (a' := ?_) #[true, false, false, true, true, false] rfl rfl (by kernel_rfl) (fun _ _ _ h => h) (Or.inl ⟨by rfl, ?_⟩) hHeld ?_ ?_
            rotate_left
            ·rintro w' ⟨s0, s1, sC⟩
             go_simp
             with_reducible rfl
            rotate_left
            ·simp only [Act.put, List.setIfInBounds_toArray, List.set_cons_zero, List.set_cons_succ, i64_w, i32_w]
             rfl
            refine one_ (i := 1) (N := some 89) #[true, true, false, true, true, false] rfl rfl (by kernel_rfl) (by decide) (fun K hK => ?_)
            refine goes_ Try.func27 (by kernel_rfl) rfl #[.agg #[.int .i64 t160, .slice Ao46 x160001_2.length co46]] (by rfl) rfl rfl (by (try simp only [List.map_toArray, List.map_cons, List.map_nil]); first | done | rfl) ?_
            with_reducible refine (spec_PageBytes.calls kj17 t160 _ _ x160001_2 t181 _ ?side1 ?side2 A44.out).mono ?_
            (case side1 => repeat (first | exact (Kd.S_reads' HO_160001.out).2.2 | (with_reducible refine Kd.C_alloc ?_ _) | (with_reducible refine Kd.C_drewN ?_ _) | (with_reducible refine Kd.C_drew ?_)))
            (case side2 => exact (Kd.S_reads' HO_160001.out).2.1)
            rintro e w48 ⟨v182, rfl, ho0, hb⟩
            refine ⟨_, rfl, ?_⟩
            have n0_ := Aside0.mk (Kd.R_elder' (Kd.rup HO_5.out) (Kd.R_base ho0) hb)
            have n1_ := Aside0.mk (Kd.S_elder' (by (with_reducible repeat (first | apply Kd.S_alloc | apply Kd.S_drewN | apply Kd.S_drew)); exact HO_160001.out) (Kd.R_base ho0) hb)
            have n2_ := Aside0.mk (Kd.R_lower (Kd.R_new' ho0 (Kd.R_lt (Kd.rup HO_5.out))) (below_size (by with_reducible repeat (first | exact HB.out | refine h4 ?_ GE158.out | refine h4 ?_ GE159.out | apply h1 | apply h2 | apply h3))))
            have n3_ := Aside0.mk (blk_below (g := gb158) (o := .cells #[.int .i64 x159000_2, .slice none 0 0] 27 (0, 0)) (bup BK158.out) hb)
            have n4_ := Aside0.mk (blk_below (g := gb159) (o := .cells #[.int .i64 t160, .slice Ao46 x160001_2.length co46] 27 (0, 0)) (bup BK159.out) hb)
            have n5_ := Aside0.mk (below_step (by with_reducible repeat (first | exact HB.out | refine h4 ?_ GE158.out | refine h4 ?_ GE159.out | apply h1 | apply h2 | apply h3)) hb)
            clear HO_5
            clear HO_160001
            clear BK158
            clear BK159
            clear HB
            have HO_5 := n0_
            have HO_160001 := n1_
            have HO183 := n2_
            have BK158 := n3_
            have BK159 := n4_
            have HB := n5_
            clear n0_ n1_ n2_ n3_ n4_ n5_
            (try clear hb)
            (try clear hb2)
            (try clear hk)
            (try clear hi)
            (try clear ho0)
            have hcv50 := Kd.C_string (P := Try.prog) (A := A0) (c := c0) Try.underlying36 Try.underlying5 Try.underlying9 (Kd.C_below HR0.out HB.out)
            refine hK.out _ _ ⟨(blk_cell BK159.out 0).trans rfl, (blk_cell BK159.out 1).trans rfl, (Kd.C_below HR0.out (hup HB.out))⟩ (fun hHeld => ?_)
            clear hK K
            refine norm_ (a' := ?_) ?_ ?_
            rotate_left
            ·show Act.put _ (some 89) _ = _
             simp only [Act.put, List.setIfInBounds_toArray, List.set_cons_zero, List.set_cons_succ, i64_w, i32_w]
             rfl
            refine one_ (i := 2) (N := some 90) #[true, true, true, true, true, false] rfl rfl (by kernel_rfl) (by decide) (fun K hK => ?_)
            have hcv49 := own_string (P := Try.prog) Try.underlying36 Try.underlying5 Try.underlying9 (Kd.own_of_R HO183.out)
            refine value_ (w1 := ?_) (v := ?_) (by rfl) rfl ?_ ?_
            rotate_left 2
            ·go_simp
             constructor
             ·rfl
             ·rfl
            clear hcv49
            refine hK.out _ _ ⟨(blk_cell BK159.out 0).trans rfl, (blk_cell BK159.out 1).trans rfl, (Kd.C_below HR0.out (hup HB.out))⟩ (fun hHeld => ?_)
            clear hK K
            refine norm_ (a' := ?_) ?_ ?_
            rotate_left
            ·show Act.put _ (some 90) _ = _
             simp only [Act.put, List.setIfInBounds_toArray, List.set_cons_zero, List.set_cons_succ, i64_w, i32_w]
             rfl
            refine pure_ (i := 5) (N := some 93) (v := ?_) (a' := ?_) #[true, true, true, true, true, true] rfl rfl (by kernel_rfl) (fun _ _ _ h => h) (Or.inl ⟨by rfl, ?_⟩) ?_ ?_
            rotate_left
            ·intro w'
             go_simp
             with_reducible rfl
            rotate_left
            ·simp only [Act.put, List.setIfInBounds_toArray, List.set_cons_zero, List.set_cons_succ, i64_w, i32_w]
             rfl
            refine done_ (by kernel_rfl) ?_
            have hnb52 := NB159_158.out
            have hnc52 := NB158_159.out
            obtain ⟨hcz53_0, hcz53_1⟩ := blk_cells2 BK159.out
            obtain ⟨hfz53_0, hfz53_1⟩ := blk_frozens2 BK159.out
            obtain ⟨hcz54_0, hcz54_1⟩ := blk_cells2 BK158.out
            obtain ⟨hfz54_0, hfz54_1⟩ := blk_frozens2 BK158.out
            try go_wp2
            refine bodyPost_ret (results_ct rfl _ _ gb158 27 #[.int .i64 t160, .slice Ao46 x160001_2.length co46] (0, 0) _ rfl (by (with_reducible repeat (first | refine b1 ?_ _ | refine b2 ?_ | refine b3 ?_ _)); refine blk_put (cs := #[.int .i64 t160, .slice none 0 0]) ?_ 1 _ rfl; (with_reducible repeat (first | refine b1 ?_ _ | refine b2 ?_ | refine b3 ?_ _)); refine blk_put (cs := #[.int .i64 x159000_2, .slice none 0 0]) ?_ 0 _ rfl; exact bup BK158.out) Try.underlying27 rfl (by kernel_rfl)) rfl ?_
            exact ⟨_, by first | rfl | (simp [errW_none, errW_some] <;> rfl) | (simp [*, errW_none, errW_some] <;> rfl), by (with_reducible repeat (first | apply Kd.S_alloc | apply Kd.S_drewN | apply Kd.S_drew)); exact Kd.S_mono (Kd.S_far (p := ⟨gb158, 1, none⟩) (Kd.S_far (p := ⟨gb158, 0, none⟩) (Kd.S_types HO_160001.out BK158.out (by decide)) (fun _ hk => hk.2) (.int .i64 t160)) (fun _ hk => hk.2) (.slice Ao46 x160001_2.length co46)) (fun _ hk => trivial), by with_reducible repeat (first | exact HB.out | refine h4 ?_ GE158.out | refine h4 ?_ GE159.out | apply h1 | apply h2 | apply h3)⟩
           ·rw [if_neg c45] at H
            have c45b0 : ((strOfNums t181).toList == (strOfNums l0).toList) = false := beq_eq_false_iff_ne.mpr c45
            have c45b1 : ((strOfNums t181).toList != (strOfNums l0).toList) = true := bne_iff_ne.mpr c45
            simp only [Option.some.injEq, Prod.mk.injEq] at H
            obtain ⟨rfl, rfl, rfl⟩ := H
            obtain ⟨Ao55, co55, eo55⟩ := Kd.S_slice HO_160001.out
            subst eo55
            try go_wp2
            have n0_ := Aside0.mk (Kd.R_drew HO_5.out)
            have n1_ := Aside0.mk (Kd.S_drew HO_160001.out)
            have n2_ := Aside0.mk (blk_drew BK158.out)
            have n3_ := Aside0.mk (blk_drew BK159.out)
            have n4_ := Aside0.mk (below_drew1 HB.out)
            clear HO_5
            clear HO_160001
            clear BK158
            clear BK159
            clear HB
            have HO_5 := n0_
            have HO_160001 := n1_
            have BK158 := n2_
            have BK159 := n3_
            have HB := n4_
            clear n0_ n1_ n2_ n3_ n4_
            refine start_ (n := 6) (S := fun w' => w'.cell? ⟨gb159, 0, none⟩ = some (.int .i64 t160) ∧ w'.cell? ⟨gb159, 1, none⟩ = some (.slice Ao55 x160001_2.length co55) ∧ Kd.C (Kd.int .u8) w' A0 l0.length l0) (ds := []) #[false, false, false, false, false, false] (by kernel_rfl) rfl rfl ⟨(blk_cell BK159.out 0).trans rfl, (blk_cell BK159.out 1).trans rfl, (Kd.C_below HR0.out (hup HB.out))⟩ (fun hHeld => ?_)
            generalize wc.drew = w56 at HO_5 HO_160001 BK158 BK159 HB hHeld ⊢
            refine pure_ (i := 3) (N := some 91) (v := ?_) (a' := ?_) #[false, false, false, true, false, false] rfl rfl (by kernel_rfl) (fun _ _ _ h => h) (Or.inl ⟨by rfl, ?_⟩) ?_ ?_
            rotate_left
            ·intro w'
             go_simp
             with_reducible rfl
            rotate_left
            ·simp only [Act.put, List.setIfInBounds_toArray, List.set_cons_zero, List.set_cons_succ, i64_w, i32_w]
             rfl
            refine take_ (i := 4) (N := some 92) (v := ?_) (a' := ?_) #[false, false, false, true, true, false] rfl rfl (by kernel_rfl) (fun _ _ _ h => h) (Or.inl ⟨by rfl, ?_⟩) hHeld ?_ ?_
            rotate_left
            ·rintro w' ⟨s0, s1, sC⟩
             have hcv_ := Kd.C_string (P := Try.prog) (A := A0) (c := c0) Try.underlying36 Try.underlying5 Try.underlying9 sC
             go_simp
             with_reducible rfl
            rotate_left
            ·simp only [Act.put, List.setIfInBounds_toArray, List.set_cons_zero, List.set_cons_succ, i64_w, i32_w]
             rfl
            refine take_ (i := 0) (N := some 88) (v := ?_) (a' := ?_) #[true, false, false, true, true, false] rfl rfl (by kernel_rfl) (fun _ _ _ h => h) (Or.inl ⟨by rfl, ?_⟩) hHeld ?_ ?_
            rotate_left
            ·rintro w' ⟨s0, s1, sC⟩
             go_simp
             with_reducible rfl
            rotate_left
            ·simp only [Act.put, List.setIfInBounds_toArray, List.set_cons_zero, List.set_cons_succ, i64_w, i32_w]
             rfl
            refine one_ (i := 1) (N := some 89) #[true, true, false, true, true, false] rfl rfl (by kernel_rfl) (by decide) (fun K hK => ?_)
            refine goes_ Try.func27 (by kernel_rfl) rfl #[.agg #[.int .i64 t160, .slice Ao55 x160001_2.length co55]] (by rfl) rfl rfl (by (try simp only [List.map_toArray, List.map_cons, List.map_nil]); first | done | rfl) ?_
            with_reducible refine (spec_PageBytes.calls kj17 t160 _ _ x160001_2 t181 _ ?side1 ?side2 A44.out).mono ?_
            (case side1 => repeat (first | exact (Kd.S_reads' HO_160001.out).2.2 | (with_reducible refine Kd.C_alloc ?_ _) | (with_reducible refine Kd.C_drewN ?_ _) | (with_reducible refine Kd.C_drew ?_)))
            (case side2 => exact (Kd.S_reads' HO_160001.out).2.1)
            rintro e w57 ⟨v182, rfl, ho0, hb⟩
            refine ⟨_, rfl, ?_⟩
            have n0_ := Aside0.mk (Kd.R_elder' (Kd.rup HO_5.out) (Kd.R_base ho0) hb)
            have n1_ := Aside0.mk (Kd.S_elder' (by (with_reducible repeat (first | apply Kd.S_alloc | apply Kd.S_drewN | apply Kd.S_drew)); exact HO_160001.out) (Kd.R_base ho0) hb)
            have n2_ := Aside0.mk (Kd.R_lower (Kd.R_new' ho0 (Kd.R_lt (Kd.rup HO_5.out))) (below_size (by with_reducible repeat (first | exact HB.out | refine h4 ?_ GE158.out | refine h4 ?_ GE159.out | apply h1 | apply h2 | apply h3))))
            have n3_ := Aside0.mk (blk_below (g := gb158) (o := .cells #[.int .i64 x159000_2, .slice none 0 0] 27 (0, 0)) (bup BK158.out) hb)
            have n4_ := Aside0.mk (blk_below (g := gb159) (o := .cells #[.int .i64 t160, .slice Ao55 x160001_2.length co55] 27 (0, 0)) (bup BK159.out) hb)
            have n5_ := Aside0.mk (below_step (by with_reducible repeat (first | exact HB.out | refine h4 ?_ GE158.out | refine h4 ?_ GE159.out | apply h1 | apply h2 | apply h3)) hb)
            clear HO_5
            clear HO_160001
            clear BK158
            clear BK159
            clear HB
            have HO_5 := n0_
            have HO_160001 := n1_
            have HO183 := n2_
            have BK158 := n3_
            have BK159 := n4_
            have HB := n5_
            clear n0_ n1_ n2_ n3_ n4_ n5_
            (try clear hb)
            (try clear hb2)
            (try clear hk)
            (try clear hi)
            (try clear ho0)
            have hcv59 := Kd.C_string (P := Try.prog) (A := A0) (c := c0) Try.underlying36 Try.underlying5 Try.underlying9 (Kd.C_below HR0.out HB.out)
            refine hK.out _ _ ⟨(blk_cell BK159.out 0).trans rfl, (blk_cell BK159.out 1).trans rfl, (Kd.C_below HR0.out (hup HB.out))⟩ (fun hHeld => ?_)
            clear hK K
            refine norm_ (a' := ?_) ?_ ?_
            rotate_left
            ·show Act.put _ (some 89) _ = _
             simp only [Act.put, List.setIfInBounds_toArray, List.set_cons_zero, List.set_cons_succ, i64_w, i32_w]
             rfl
            refine one_ (i := 2) (N := some 90) #[true, true, true, true, true, false] rfl rfl (by kernel_rfl) (by decide) (fun K hK => ?_)
            have hcv58 := own_string (P := Try.prog) Try.underlying36 Try.underlying5 Try.underlying9 (Kd.own_of_R HO183.out)
            refine value_ (w1 := ?_) (v := ?_) (by rfl) rfl ?_ ?_
            rotate_left 2
            ·go_simp
             constructor
             ·rfl
             ·rfl
            clear hcv58
            refine hK.out _ _ ⟨(blk_cell BK159.out 0).trans rfl, (blk_cell BK159.out 1).trans rfl, (Kd.C_below HR0.out (hup HB.out))⟩ (fun hHeld => ?_)
            clear hK K
            refine norm_ (a' := ?_) ?_ ?_
            rotate_left
            ·show Act.put _ (some 90) _ = _
             simp only [Act.put, List.setIfInBounds_toArray, List.set_cons_zero, List.set_cons_succ, i64_w, i32_w]
             rfl
            refine pure_ (i := 5) (N := some 93) (v := ?_) (a' := ?_) #[true, true, true, true, true, true] rfl rfl (by kernel_rfl) (fun _ _ _ h => h) (Or.inl ⟨by rfl, ?_⟩) ?_ ?_
            rotate_left
            ·intro w'
             go_simp
             with_reducible rfl
            rotate_left
            ·simp only [Act.put, List.setIfInBounds_toArray, List.set_cons_zero, List.set_cons_succ, i64_w, i32_w]
             rfl
            refine done_ (by kernel_rfl) ?_
            have hnb61 := NB158_159.out
            have hnc61 := NB159_158.out
            obtain ⟨hcz62_0, hcz62_1⟩ := blk_cells2 BK158.out
            obtain ⟨hfz62_0, hfz62_1⟩ := blk_frozens2 BK158.out
            try go_wp2
            refine bodyPost_ret (results_ct rfl _ _ gb158 27 #[.int .i64 0, .slice none 0 0] (0, 0) _ rfl (by (with_reducible repeat (first | refine b1 ?_ _ | refine b2 ?_ | refine b3 ?_ _)); refine blk_put (cs := #[.int .i64 0, .slice none 0 0]) ?_ 1 _ rfl; (with_reducible repeat (first | refine b1 ?_ _ | refine b2 ?_ | refine b3 ?_ _)); refine blk_put (cs := #[.int .i64 x159000_2, .slice none 0 0]) ?_ 0 _ rfl; exact bup BK158.out) Try.underlying27 rfl (by kernel_rfl)) rfl ?_
            exact ⟨_, by first | rfl | (simp [errW_none, errW_some] <;> rfl) | (simp [*, errW_none, errW_some] <;> rfl), by first | exact Kd.S_nil _ _ _ _ _ | exact Kd.N_nil _ _ _ _ _ | exact Kd.V_nil _ _ _ _ _ | exact Kd.Q_nil _ _ _ _ _ | exact Kd.R_nil _ _ _ _ _, by with_reducible repeat (first | exact HB.out | refine h4 ?_ GE158.out | refine h4 ?_ GE159.out | apply h1 | apply h2 | apply h3)⟩
     ·rw [if_neg c16] at H
      exact absurd H (by simp)
 ·rw [if_neg c2] at H
  have c2b0 : ((l0.length : Int) == 256) = false := beq_eq_false_iff_ne.mpr c2
  have c2b1 : ((l0.length : Int) != 256) = true := bne_iff_ne.mpr c2
  simp only [Option.some.injEq, Prod.mk.injEq] at H
  obtain ⟨rfl, rfl, rfl⟩ := H
  go_enter Try.func30, Try.ntmps30
  go_wp2_with (first | ((with_reducible refine gate_dst (N := 2) rfl ?_); (try (refine gate_guard (by rfl) ?_; dsimp only)); refine box_event ?hg (N := 2) ?hd (cs := #[.int .i64 0, .slice none 0 0]) (t := 27) ?hr ?_; (case hd => rfl); (case hg => rfl); (case hr => first | (go_simp; done) | (go_simp; rfl)); intro gb158 hg w63 hbox hb; have n0_ := Aside0.mk (below_step (hup HB.out) hb); have n1_ := Aside0.mk (hbox); have n2_ := Aside0.mk ((by rw [hg]; exact (below_size (hup HB.out)) : w.heap.size ≤ gb158)); have n3_ := Aside0.mk ((by rw [hg]; exact (below_size (hup HB.out)) : w.heap.size ≤ gb158)); clear HB; have HB := n0_; have BK158 := n1_; have GW158 := n2_; have GE158 := n3_; clear n0_ n1_ n2_ n3_; clear hb hbox hg) | ((with_reducible refine gate_dst (N := 4) rfl ?_); (try (refine gate_guard (by rfl) ?_; dsimp only)); refine box_event ?hg (N := 4) ?hd (cs := #[.int .i64 0, .slice none 0 0]) (t := 27) ?hr ?_; (case hd => rfl); (case hg => rfl); (case hr => first | (go_simp; done) | (go_simp; rfl)); intro gb159 hg w64 hbox hb; have n0_ := Aside0.mk (blk_below (g := gb158) (o := .cells #[.int .i64 0, .slice none 0 0] 27 (0, 0)) (bup BK158.out) hb); have n1_ := Aside0.mk (below_step (by with_reducible repeat (first | exact HB.out | refine h4 ?_ GE158.out | apply h1 | apply h2 | apply h3)) hb); have n2_ := Aside0.mk (hbox); have n3_ := Aside0.mk ((by rw [hg]; exact (below_size (by with_reducible repeat (first | exact HB.out | refine h4 ?_ GE158.out | apply h1 | apply h2 | apply h3))) : w.heap.size ≤ gb159)); have n4_ := Aside0.mk ((by rw [hg]; exact (below_size (by with_reducible repeat (first | exact HB.out | refine h4 ?_ GE158.out | apply h1 | apply h2 | apply h3))) : w.heap.size ≤ gb159)); have n5_ := Aside0.mk ((by rw [hg]; exact Nat.ne_of_lt (blk_lt (g := gb158) (o := .cells #[.int .i64 0, .slice none 0 0] 27 (0, 0)) (bup BK158.out)) : gb158 ≠ gb159)); have n6_ := Aside0.mk ((by rw [hg]; exact Nat.ne_of_gt (blk_lt (g := gb158) (o := .cells #[.int .i64 0, .slice none 0 0] 27 (0, 0)) (bup BK158.out)) : gb159 ≠ gb158)); clear BK158; clear HB; have BK158 := n0_; have HB := n1_; have BK159 := n2_; have GW159 := n3_; have GE159 := n4_; have NB158_159 := n5_; have NB159_158 := n6_; clear n0_ n1_ n2_ n3_ n4_ n5_ n6_; clear hb hbox hg; have hnb65 := NB159_158.out; have hnc65 := NB158_159.out; obtain ⟨hcz66_0, hcz66_1⟩ := blk_cells2 BK159.out; obtain ⟨hfz66_0, hfz66_1⟩ := blk_frozens2 BK159.out; obtain ⟨hcz67_0, hcz67_1⟩ := blk_cells2 BK158.out; obtain ⟨hfz67_0, hfz67_1⟩ := blk_frozens2 BK158.out))
  refine bodyPost_ret (results_ct rfl _ _ gb158 27 #[.int .i64 0, .slice none 0 0] (0, 0) _ rfl (by (with_reducible repeat (first | refine b1 ?_ _ | refine b2 ?_ | refine b3 ?_ _)); refine blk_put (cs := #[.int .i64 0, .slice none 0 0]) ?_ 1 _ rfl; (with_reducible repeat (first | refine b1 ?_ _ | refine b2 ?_ | refine b3 ?_ _)); refine blk_put (cs := #[.int .i64 0, .slice none 0 0]) ?_ 0 _ rfl; exact bup BK158.out) Try.underlying27 rfl (by kernel_rfl)) rfl ?_
  exact ⟨_, by first | rfl | (simp [errW_none, errW_some] <;> rfl) | (simp [*, errW_none, errW_some] <;> rfl), by first | exact Kd.S_nil _ _ _ _ _ | exact Kd.N_nil _ _ _ _ _ | exact Kd.V_nil _ _ _ _ _ | exact Kd.Q_nil _ _ _ _ _ | exact Kd.R_nil _ _ _ _ _, by with_reducible repeat (first | exact HB.out | refine h4 ?_ GE158.out | refine h4 ?_ GE159.out | apply h1 | apply h2 | apply h3)⟩

end Go.Proofs.Ytokpniagnbaflaa.PFnExactPageRead
