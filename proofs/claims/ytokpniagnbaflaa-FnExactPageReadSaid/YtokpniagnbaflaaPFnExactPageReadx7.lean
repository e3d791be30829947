-- By this session's own program (wip/xprint.py), over the kit's print.
import Derived.Test.YtokpniagnbaflaaPFnExactPageReadx0
import Derived.Test.YtokpniagnbaflaaPFnExactPageReadx6
namespace Go.Proofs.Ytokpniagnbaflaa.PFnExactPageRead
open Go.RowKit Go.Proofs.YtokpniagnbaflaaW.PrintWords Go.Proofs.YtokpniagnbaflaaW.PrintLast Go.Proofs.YtokpniagnbaflaaW.PrintMore
attribute [local go_sem] max2_int min2_int max_two min_two max_three min_three max_four min_four   -- for this text's walks alone
attribute [local go_sem high] fl_eql fl_neq fl_lss fl_leq fl_gtr fl_geq fl_add fl_sub fl_mul fl_quo fl_neg fl_ofInt fl_toInt fl_store sub_sign fl_nan_quo fl_nan_add fl_nan_mul fl_nan_sub
open Go.Proofs.YtokpniagnbaflaaW.PrintWords renaming below_alloc → h1, pw_below_drewN → h2, below_drew1 → h3, below_set → h4, blk_drewN → b1, blk_drew → b2, blk_alloc → b3
set_option linter.unusedVariables false
set_option linter.unusedSimpArgs false

/-! ### impl_PageRead: function 31 -/
def impl_PageRead.l0 : Nat → List Int → List Int → Int → Int → Int → Int → List (List Int) → Option (Int × (List (List Int)) × Bool)
 | 0, _, _, _, _, _, _, _ => none
 | k + 1, x0, x5, x8, x34, x35, x226000, x226001 => if x35 < x34 then ((impl_hasBytes.f x5 (wrap64 (1 + x35)) 1).bind fun t235 => (if t235 = true then (if 0 ≤ (wrap64 (1 + x35)) then (if (wrap64 (1 + x35)) < (x5.length : Int) then ((impl_hasBytes.f x5 x8 (wrap64 (rd x5 (wrap64 (1 + x35))))).bind fun t237 => (if t237 = true then (if 0 ≤ x8 then (if x8 ≤ (wrap64 (x8 + (wrap64 (rd x5 (wrap64 (1 + x35)))))) then (if (wrap64 (x8 + (wrap64 (rd x5 (wrap64 (1 + x35)))))) ≤ (x5.length : Int) then ((slices_Clone_byte_byte.f ((x5.take ((wrap64 (x8 + (wrap64 (rd x5 (wrap64 (1 + x35)))))) : Int).toNat).drop (x8 : Int).toNat)).bind fun t243 => (if x226001.length < 5864062014805 then (impl_PageRead.l0 k x0 x5 (wrap64 (x8 + (wrap64 (rd x5 (wrap64 (1 + x35)))))) x34 (wrap64 (x35 + 1)) x226000 (x226001 ++ [t243])) else (none))) else (none)) else (none)) else (none)) else (some (0, ([] : List (List Int)), false)))) else (none)) else (none)) else (some (0, ([] : List (List Int)), false)))) else ((impl_PageBytes.f k x226000 x226001).bind fun t249 => ((bytes_Equal.f t249 x0).bind fun t252 => (if t252 = true then (some (x226000, x226001, true)) else (some (0, ([] : List (List Int)), false)))))
def impl_PageRead.f (k : Nat) (l0 : List Int) : Option (Int × (List (List Int)) × Bool) := if (l0.length : Int) = 256 then ((impl_GetNum.f k l0 0 4).bind fun bt226 => (if 0 ≤ 240 then (if 240 ≤ (l0.length : Int) then (if ([] : List Int).length + (body64 l0).length < 140737488355328 then ((some (([] : List Int) ++ (body64 l0) : List Int)).bind fun y231 => (if 0 < (y231.length : Int) then (impl_PageRead.l0 k l0 y231 (wrap64 (1 + (wrap64 (rd y231 0)))) (wrap64 (rd y231 0)) 0 bt226.1 ([] : List (List Int))) else (none))) else (none)) else (none)) else (none))) else (some (0, ([] : List (List Int)), false))
set_option maxRecDepth 100000 in
theorem impl_PageRead.mono_l : ∀ k, (∀ y0 y1 y2 y3 y4 y5 y6, LeO (impl_PageRead.l0 k y0 y1 y2 y3 y4 y5 y6) (impl_PageRead.l0 (k + 1) y0 y1 y2 y3 y4 y5 y6))
 | 0 => fun _ _ _ _ _ _ _ r h => (by unfold impl_PageRead.l0 at h; exact absurd h (by simp))
 | k + 1 => by
  have ih0 := impl_PageRead.mono_l k
  ·intro y0 y1 y2 y3 y4 y5 y6
   unfold impl_PageRead.l0
   repeat' with_reducible first | exact ih0 _ _ _ _ _ _ _ | exact impl_GetNum.mono _ _ _ _ | exact impl_PageBytes.mono _ _ _ | exact LeO.refl _ | exact LeO.none _ | refine LeO.ite ?_ ?_ | refine LeO.bind ?_ (fun _ => ?_)
set_option maxRecDepth 100000 in
theorem impl_PageRead.mono : ∀ a0 k, LeO (impl_PageRead.f k a0) (impl_PageRead.f (k + 1) a0) := by
 intro a0 k
 have ih0 := impl_PageRead.mono_l k
 unfold impl_PageRead.f
 repeat' with_reducible first | exact ih0 _ _ _ _ _ _ _ | exact impl_GetNum.mono _ _ _ _ | exact impl_PageBytes.mono _ _ _ | exact LeO.refl _ | exact LeO.none _ | refine LeO.ite ?_ ?_ | refine LeO.bind ?_ (fun _ => ?_)
def impl_PageRead.T14 : Bool × List (List Nat × List Nat) := (true, [([], []), ([], []), ([1], [1]), ([0, 2], [0, 2]), ([3], [3]), ([4, 3], [4]), ([5], [5]), ([5], [5]), ([5], [5]), ([5], [5]), ([9, 5], [5, 9]), ([8, 10, 5], [5, 8, 10]), ([11, 5], [5, 11]), ([12, 5], [5, 12]), ([6, 7, 13, 5, 5], [5, 6, 7, 13]), ([14, 5], [5, 14]), ([5, 15], [5, 15])])
def impl_PageRead.B14 : List Nat := [0, 0, 2, 7, 15, 31, 63, 63, 63, 63, 575, 1855, 3903, 7999, 16383, 32767, 65535]
theorem impl_PageRead.tab14 : rtab .any (opsOf Try.f31 14) = impl_PageRead.T14 := by kernel_rfl
theorem impl_PageRead.bits14 : waitsOk impl_PageRead.T14.2 impl_PageRead.B14 = true := by kernel_rfl
def impl_PageRead.T17 : Bool × List (List Nat × List Nat) := (true, [([], []), ([0], [0]), ([], []), ([], []), ([], []), ([2, 3, 4], [2, 3, 4]), ([5], [5]), ([6], [6]), ([1, 7, 6], [1, 7]), ([0, 1, 2, 3, 4, 5, 6, 7, 8], []), ([9, 8, 8, 0, 1, 2, 3, 4, 5, 6, 7, 8], [8, 9])])
def impl_PageRead.B17 : List Nat := [0, 1, 0, 0, 0, 28, 60, 124, 255, 511, 1023]
theorem impl_PageRead.tab17 : rtab .any (opsOf Try.f31 17) = impl_PageRead.T17 := by kernel_rfl
theorem impl_PageRead.bits17 : waitsOk impl_PageRead.T17.2 impl_PageRead.B17 = true := by kernel_rfl
section
attribute [local go_sem] Oper.semAt_some
set_option maxHeartbeats 8000000 in
set_option maxRecDepth 100000 in
theorem impl_PageRead.calls (k : Nat) (A0 : Option Addr) (c0 : Nat) (l0 : List Int) (r1 : Int) (r2 : List (List Int)) (r3 : Bool) (w : World) (hr0 : Kd.C (Kd.int .u8) w A0 l0.length l0) (hc0 : l0.length ≤ c0) (h : impl_PageRead.f k l0 = some (r1, r2, r3)) :
  Calls Try.prog 31 #[.slice A0 l0.length c0] w fun e w' => ∃ v1_ : Value, e = .returned (.tuple #[.agg #[.int .i64 r1, v1_], .bool r3]) ∧ Kd.S (Kd.slice 5 (Kd.int .u8)) 36 w' w.heap.size (fun _ => True) v1_ r2 ∧ Below w.heap.size w w' := by
 have hu27 := Try.underlying27
 have HR0 := Aside0.mk hr0
 have HC0 := Aside0.mk hc0
 clear hr0 hc0
 have HB := Aside0.mk (Below.refl w.heap.size w)
 have H : (if (l0.length : Int) = 256 then ((impl_GetNum.f k l0 0 4).bind fun bt226 => (if 0 ≤ 240 then (if 240 ≤ (l0.length : Int) then (if ([] : List Int).length + (body64 l0).length < 140737488355328 then ((some (([] : List Int) ++ (body64 l0) : List Int)).bind fun y231 => (if 0 < (y231.length : Int) then (impl_PageRead.l0 k l0 y231 (wrap64 (1 + (wrap64 (rd y231 0)))) (wrap64 (rd y231 0)) 0 bt226.1 ([] : List (List Int))) else (none))) else (none)) else (none)) else (none))) else (some (0, ([] : List (List Int)), false))) = some (r1, r2, r3) := h
 clear h
 by_cases c2 : (l0.length : Int) = 256
 ·rw [if_pos c2] at H
  have c2b0 : ((l0.length : Int) == 256) = true := beq_iff_eq.mpr c2
  have c2b1 : ((l0.length : Int) != 256) = false := bne_eq_false_iff_eq.mpr c2
  clear c2
  replace H := Option.bind_eq_some_iff.mp H
  obtain ⟨⟨t226, t227⟩, A30, H⟩ := H
  replace H : (if 0 ≤ 240 then (if 240 ≤ (l0.length : Int) then (if ([] : List Int).length + (body64 l0).length < 140737488355328 then ((some (([] : List Int) ++ (body64 l0) : List Int)).bind fun y231 => (if 0 < (y231.length : Int) then (impl_PageRead.l0 k l0 y231 (wrap64 (1 + (wrap64 (rd y231 0)))) (wrap64 (rd y231 0)) 0 t226 ([] : List (List Int))) else (none))) else (none)) else (none)) else (none)) = some (r1, r2, r3) := H
  have A3 := Aside0.mk A30
  clear A30
  by_cases c4 : 0 ≤ 240
  ·rw [if_pos c4] at H
   have c4b0 := eq_true c4
   have c4b1 : decide (0 ≤ 240) = true := decide_eq_true c4
   clear c4
   by_cases c5 : 240 ≤ (l0.length : Int)
   ·rw [if_pos c5] at H
    have c5b0 := eq_true c5
    have c5b1 : decide (240 ≤ (l0.length : Int)) = true := decide_eq_true c5
    clear c5
    by_cases c6 : ([] : List Int).length + (body64 l0).length < 140737488355328
    ·rw [if_pos c6] at H
     have LMc6 := Aside0.mk c6
     clear c6
     obtain ⟨y231, hy231⟩ : ∃ y_ : List Int, y_ = (([] : List Int) ++ (body64 l0)) := ⟨_, rfl⟩
     replace H : (if 0 < (y231.length : Int) then (impl_PageRead.l0 k l0 y231 (wrap64 (1 + (wrap64 (rd y231 0)))) (wrap64 (rd y231 0)) 0 t226 ([] : List (List Int))) else (none)) = some (r1, r2, r3) := by first | (rw [hy231]; with_reducible exact H) | (have H2_ := (Option.bind_some _ _).symm.trans H; rw [hy231]; with_reducible exact H2_) | (have H2_ := (Option.bind_some _ _).symm.trans H; with_reducible exact H2_) | with_reducible exact H | (rw [hy231]; exact H) | exact H
     have Ny231 := Aside0.mk hy231
     clear hy231
     by_cases c7 : 0 < (y231.length : Int)
     ·rw [if_pos c7] at H
      have c7b0 : decide (0 < (y231.length : Int)) = true := decide_eq_true c7
      have c7b1 : decide (0 < y231.length) = true := decide_eq_true (by omega)
      clear c7
      have H' := Aside0.mk H
      clear H
      refine calls_of_wp_marksQ Try.func31 rfl ?_; simp only [Try.ntmps31, List.size_toArray, List.length_cons, List.length_nil, Nat.reduceAdd, Nat.reduceSub, Array.replicate_succ, Array.replicate_zero, List.push_toArray, List.append_toArray, List.nil_append, List.cons_append]
      go_upto_region 5 with (first | ((with_reducible refine gate_dst (N := 2) rfl ?_); refine box_event ?hg (N := 2) ?hd (cs := #[.int .i64 0, .slice none 0 0]) (t := 27) ?hr ?_; (case hd => rfl); (case hg => rfl); (case hr => first | (go_simp; done) | (go_simp; rfl)); intro gb224 hg w8 hbox hb; have n0_ := Aside0.mk (below_step (hup HB.out) hb); have n1_ := Aside0.mk (hbox); have n2_ := Aside0.mk ((by rw [hg]; exact (below_size (hup HB.out)) : w.heap.size ≤ gb224)); have n3_ := Aside0.mk ((by rw [hg]; exact (below_size (hup HB.out)) : w.heap.size ≤ gb224)); clear HB; have HB := n0_; have BK224 := n1_; have GW224 := n2_; have GE224 := n3_; clear n0_ n1_ n2_ n3_; clear hb hbox hg) | ((with_reducible refine gate_dst (N := 4) rfl ?_); refine box_event ?hg (N := 4) ?hd (cs := #[.int .i64 0, .slice none 0 0]) (t := 27) ?hr ?_; (case hd => rfl); (case hg => rfl); (case hr => first | (go_simp; done) | (go_simp; rfl)); intro gb225 hg w9 hbox hb; have n0_ := Aside0.mk (blk_below (g := gb224) (o := .cells #[.int .i64 0, .slice none 0 0] 27 (0, 0)) (bup BK224.out) hb); have n1_ := Aside0.mk (below_step (by with_reducible repeat (first | exact HB.out | refine h4 ?_ GE224.out | apply h1 | apply h2 | apply h3)) hb); have n2_ := Aside0.mk (hbox); have n3_ := Aside0.mk ((by rw [hg]; exact (below_size (by with_reducible repeat (first | exact HB.out | refine h4 ?_ GE224.out | apply h1 | apply h2 | apply h3))) : w.heap.size ≤ gb225)); have n4_ := Aside0.mk ((by rw [hg]; exact (below_size (by with_reducible repeat (first | exact HB.out | refine h4 ?_ GE224.out | apply h1 | apply h2 | apply h3))) : w.heap.size ≤ gb225)); have n5_ := Aside0.mk ((by rw [hg]; exact Nat.ne_of_lt (blk_lt (g := gb224) (o := .cells #[.int .i64 0, .slice none 0 0] 27 (0, 0)) (bup BK224.out)) : gb224 ≠ gb225)); have n6_ := Aside0.mk ((by rw [hg]; exact Nat.ne_of_gt (blk_lt (g := gb224) (o := .cells #[.int .i64 0, .slice none 0 0] 27 (0, 0)) (bup BK224.out)) : gb225 ≠ gb224)); clear BK224; clear HB; have BK224 := n0_; have HB := n1_; have BK225 := n2_; have GW225 := n3_; have GE225 := n4_; have NB224_225 := n5_; have NB225_224 := n6_; clear n0_ n1_ n2_ n3_ n4_ n5_ n6_; clear hb hbox hg) | ((with_reducible refine gate_callee (f := 54) rfl ?_); refine goesL_ (some 17) rfl rfl Try.func54 (by kernel_rfl) rfl #[.slice A0 l0.length c0, .int .i64 0, .int .i64 4] rfl (by (try simp only [List.map_toArray, List.map_cons, List.map_nil]); first | done | rfl) ?_; (with_reducible refine (impl_GetNum.calls k _ _ l0 0 4 t226 t227 _ ?side1 ?side2 A3.out).mono ?_); (case side1 => repeat (first | exact (Kd.C_below HR0.out HB.out) | (with_reducible refine Kd.C_alloc ?_ _) | (with_reducible refine Kd.C_drewN ?_ _) | (with_reducible refine Kd.C_drew ?_))); (case side2 => exact HC0.out); rintro e w' ⟨rfl, ⟨nd, rfl⟩⟩; refine ⟨_, rfl, ?_⟩; (try (rw [drewN_self w9]; generalize hq_ : World.drewN w9 _ = w9; have n0_ : Aside0 (w9.heap[gb224]? = some (.cells #[.int .i64 0, .slice none 0 0] 27 (0, 0))) := ⟨by rw [← hq_]; exact (bup BK224.out)⟩; have n1_ : Aside0 (w9.heap[gb225]? = some (.cells #[.int .i64 0, .slice none 0 0] 27 (0, 0))) := ⟨by rw [← hq_]; exact (bup BK225.out)⟩; have n2_ : Aside0 (Below w.heap.size w w9) := ⟨by rw [← hq_]; exact (by with_reducible repeat (first | exact HB.out | refine h4 ?_ GE224.out | refine h4 ?_ GE225.out | apply h1 | apply h2 | apply h3))⟩; clear BK224 BK225 HB hq_; have BK224 := n0_; have BK225 := n1_; have HB := n2_; clear n0_ n1_ n2_)); have hnb10 := NB225_224.out; have hnc10 := NB224_225.out; obtain ⟨hcz11_0, hcz11_1⟩ := blk_cells2 BK225.out; obtain ⟨hfz11_0, hfz11_1⟩ := blk_frozens2 BK225.out))
      go_upto_region 6 with (first | ((with_reducible refine gate_dst (N := 5) rfl ?_); refine box_event ?hg (N := 5) ?hd (cs := #[.slice none 0 0]) (t := 36) ?hr ?_; (case hd => rfl); (case hg => rfl); (case hr => first | (go_simp; done) | (go_simp; rfl)); intro gb228 hg w12 hbox hb; have n0_ := Aside0.mk (blk_below (g := gb224) (o := .cells #[.int .i64 0, .slice none 0 0] 27 (0, 0)) (by (with_reducible repeat (first | refine b1 ?_ _ | refine b2 ?_ | refine b3 ?_ _)); refine blk_far ?_ NB224_225.out _; exact bup BK224.out) hb); have n1_ := Aside0.mk (blk_below (g := gb225) (o := .cells #[.int .i64 t226, .slice none 0 0] 27 (0, 0)) (by (with_reducible repeat (first | refine b1 ?_ _ | refine b2 ?_ | refine b3 ?_ _)); refine blk_put (cs := #[.int .i64 0, .slice none 0 0]) ?_ 0 _ rfl; exact bup BK225.out) hb); have n2_ := Aside0.mk (below_step (by with_reducible repeat (first | exact HB.out | refine h4 ?_ GE224.out | refine h4 ?_ GE225.out | apply h1 | apply h2 | apply h3)) hb); have n3_ := Aside0.mk (hbox); have n4_ := Aside0.mk ((by rw [hg]; exact (below_size (by with_reducible repeat (first | exact HB.out | refine h4 ?_ GE224.out | refine h4 ?_ GE225.out | apply h1 | apply h2 | apply h3))) : w.heap.size ≤ gb228)); have n5_ := Aside0.mk ((by rw [hg]; exact (below_size (by with_reducible repeat (first | exact HB.out | refine h4 ?_ GE224.out | refine h4 ?_ GE225.out | apply h1 | apply h2 | apply h3))) : w.heap.size ≤ gb228)); have n6_ := Aside0.mk ((by rw [hg]; exact Nat.ne_of_lt (blk_lt (g := gb224) (o := .cells #[.int .i64 0, .slice none 0 0] 27 (0, 0)) (by (with_reducible repeat (first | refine b1 ?_ _ | refine b2 ?_ | refine b3 ?_ _)); refine blk_far ?_ NB224_225.out _; exact bup BK224.out)) : gb224 ≠ gb228)); have n7_ := Aside0.mk ((by rw [hg]; exact Nat.ne_of_gt (blk_lt (g := gb224) (o := .cells #[.int .i64 0, .slice none 0 0] 27 (0, 0)) (by (with_reducible repeat (first | refine b1 ?_ _ | refine b2 ?_ | refine b3 ?_ _)); refine blk_far ?_ NB224_225.out _; exact bup BK224.out)) : gb228 ≠ gb224)); have n8_ := Aside0.mk ((by rw [hg]; exact Nat.ne_of_lt (blk_lt (g := gb225) (o := .cells #[.int .i64 t226, .slice none 0 0] 27 (0, 0)) (by (with_reducible repeat (first | refine b1 ?_ _ | refine b2 ?_ | refine b3 ?_ _)); refine blk_put (cs := #[.int .i64 0, .slice none 0 0]) ?_ 0 _ rfl; exact bup BK225.out)) : gb225 ≠ gb228)); have n9_ := Aside0.mk ((by rw [hg]; exact Nat.ne_of_gt (blk_lt (g := gb225) (o := .cells #[.int .i64 t226, .slice none 0 0] 27 (0, 0)) (by (with_reducible repeat (first | refine b1 ?_ _ | refine b2 ?_ | refine b3 ?_ _)); refine blk_put (cs := #[.int .i64 0, .slice none 0 0]) ?_ 0 _ rfl; exact bup BK225.out)) : gb228 ≠ gb225)); clear BK224; clear BK225; clear HB; have BK224 := n0_; have BK225 := n1_; have HB := n2_; have BK228 := n3_; have GW228 := n4_; have GE228 := n5_; have NB224_228 := n6_; have NB228_224 := n7_; have NB225_228 := n8_; have NB228_225 := n9_; clear n0_ n1_ n2_ n3_ n4_ n5_ n6_ n7_ n8_ n9_; clear hb hbox hg))
      have hl256 : l0.length = 256 := by have := eq_of_beq c2b0; omega
      obtain ⟨ad0, eA0, _⟩ := HR0.out.2.2 (by omega)
      have hcap := HC0.out
      rw [hl256] at hcap
      have hsA := blk_lt BK228.out
      replace eA0 := Aside0.mk eA0
      have hl0 := Aside0.mk hl256
      clear hl256
      go_wp2_with (first | ((with_reducible refine gate_callee (f := 51) rfl ?_); refine goesL_ (some 22) rfl rfl Try.func51 (by kernel_rfl) rfl #[.slice A0 l0.length c0, .int .i64 64] rfl (by (try simp only [List.map_toArray, List.map_cons, List.map_nil]); first | done | rfl) ?_; refine (chunk_calls _ _ _ _ (by decide) _).mono ?_; rintro e wc ⟨bs, bn, rfl, hbs, hbn, hsb, hsn, hbc⟩; refine ⟨_, rfl, ?_⟩))
      have h8c := (hbc.block _ hsA).trans BK228.out
      have hsc := hbc.size
      have hBc := below_step HB.out hbc
      rw [eA0.out, hl0.out] at hbs
      have hwA : w.heap.size ≤ gb228 := GW228.out
      refine (wpIn_wide (n := 5)).1 ?_
      refine wpIn_rangeFunc_ownG (F := Fence.wide) (α := Fin 4) rfl (by omega) (gf := 66) (lb := #[.pointer (some ⟨bs, 0, none⟩), .pointer (some ⟨bn, 0, none⟩)]) rfl trivial (enters_of Try.func66 (by kernel_rfl) rfl)
        (chunk64_stops 4 (by omega) bs bn gb228 ad0 c0 hcap wc hbs hbn (by omega) (by omega)) (fun h k => KeepI.trans h k) (KeepI.put (Nat.le_refl _)) (Below.refl _ _) (fun _ => rfl)
        (fun pre X => (∃ v, X.heap[gb228]? = some (.cells #[v] 36 (0, 0)) ∧ Kd.R (Kd.int .u8) 5 X wc.heap.size (fun _ => True) v (cut4 l0 pre)) ∧ (Below w.heap.size wc X ∧ KeepI wc.heap.size gb228 wc X))
        (fun _ _ _ => False)
        (OwnFrom.and (box_own (by omega) _) (OwnFrom.and (ownFrom_below (by omega) (by omega)) (keepI_own (Nat.le_refl _))))
        (fun _ _ _ _ _ hs _ _ => hs)
        ⟨⟨_, h8c, Kd.R_nil _ _ _ _ _⟩, Below.refl _ _, KeepI.refl _ _ _⟩ ?a1 ?assign ?body ?done ?stop
      case assign =>
        intro l x X K hK
        gi_wp2
        exact hK
      case stop =>
        rintro D c pre X _ _ hx _
        exact hx.elim
      case body =>
        rintro l pre x X ⟨⟨v, hbx, hRv⟩, hBX, hKX⟩ hlen
        obtain ⟨Av, cv, ev⟩ := Kd.R_slice hRv
        subst ev
        have hxl := x.2
        have hpl : (((l0.drop (64 * x.1)).take 64).drop 4).length = 60 := by rw [List.length_drop, List.length_take, List.length_drop, hl0.out]; omega
        obtain ⟨part, hpt⟩ : ∃ p_, p_ = ((l0.drop (64 * x.1)).take 64).drop 4 := ⟨_, rfl⟩
        have hmm : ∀ Z, Below w.heap.size w Z → Kd.C (Kd.int .u8) Z (some ((ad0.add (64 * x.1)).add 4)) 60 part := by
          intro Z hZ
          have h0 : Kd.C (Kd.int .u8) Z (some ad0) l0.length l0 := by have h_ := Kd.C_below HR0.out hZ; rw [eA0.out] at h_; exact h_
          have hm := Kd.C_mid (lo := 64 * x.1) (hi := 64 * x.1 + 64) (c := c0) h0 (by omega) (by rw [hl0.out]; omega) (by rw [hl0.out]; omega)
          rw [if_neg (by omega), List.drop_take, Nat.add_sub_cancel_left] at hm
          have e1 : 64 * x.1 * (Kd.int .u8).sz = 64 * x.1 := Nat.mul_one _
          rw [e1] at hm
          have hn : Kd.C (Kd.int .u8) Z (some (ad0.add (64 * x.1))) ((l0.drop (64 * x.1)).take 64).length ((l0.drop (64 * x.1)).take 64) := hm
          have hl4 : ((l0.drop (64 * x.1)).take 64).length = 64 := by rw [List.length_take, List.length_drop, hl0.out]; omega
          have hd := Kd.C_drop (m := 4) (c := 64) hn (by rw [hl4]; omega) (by rw [hl4]; omega)
          rw [if_neg (by omega), hpl, ← hpt] at hd
          have e2 : 4 * (Kd.int .u8).sz = 4 := rfl
          rw [e2] at hd
          exact hd
        rw [← hpt] at hpl
        have hol := cut4_len l0 pre
        have hol2 : (cut4 l0 pre).length ≤ 3 * 60 := Nat.le_trans hol (Nat.mul_le_mul_right _ (by omega))
        have hsn2 := cut4_snoc l0 pre x
        rw [← hpt] at hsn2
        obtain ⟨out, ho⟩ : ∃ o_, o_ = cut4 l0 pre := ⟨_, rfl⟩
        rw [← ho] at hol2 hRv hbx hsn2
        clear hol
        replace ho := Aside0.mk ho
        replace hsn2 := Aside0.mk hsn2
        replace hpt := Aside0.mk hpt
        have hB0X := hBc.trans hBX
        refine wpIn_block ?_
        have hsX := hKX.1
        refine start_R (n := 5) (S := fun w' => w'.cell? ⟨gb228, 0, none⟩ = some (.slice Av out.length cv)) (ds := [4]) #[false, false, false, false, false] (by kernel_rfl) (fun hl => by obtain ⟨_, _, hl⟩ := hl; exact hl) (by kernel_rfl) rfl rfl (cell_of_block (blk_drew hbx)) (fun hHeld => ?_)
        have hbx1 := blk_drew hbx
        have hR1 := Kd.R_drew hRv
        have hk1 : KeepsOthers X X.drew := KeepsOthers.drew X
        have hB1 : Below wc.heap.size X X.drew := below_drew1 (Below.refl _ _)
        have hs1 : X.heap.size ≤ X.drew.heap.size := Nat.le_refl _
        generalize X.drew = X1 at hbx1 hR1 hk1 hB1 hs1 hHeld ⊢
        refine take_ (i := 0) (N := some 24) (v := ?_) (a' := ?_) #[true, false, false, false, false] rfl rfl (by kernel_rfl) (fun _ _ _ h => h) (Or.inl ⟨by rfl, ?_⟩) hHeld ?_ ?_
        rotate_left
        · intro w' s0
          go_simp
          with_reducible rfl
        rotate_left
        · simp only [Act.put, List.setIfInBounds_toArray, List.set_cons_zero, List.set_cons_succ, i64_w, i32_w]
          rfl
        refine pure_ (i := 1) (N := some 25) (v := ?_) (a' := ?_) #[true, true, false, false, false] rfl rfl (by kernel_rfl) (fun _ _ _ h => h) (Or.inl ⟨by rfl, ?_⟩) ?_ ?_
        rotate_left
        · intro w'
          go_simp
          with_reducible rfl
        rotate_left
        · simp only [Act.put, List.setIfInBounds_toArray, List.set_cons_zero, List.set_cons_succ, i64_w, i32_w]
          rfl
        refine pure_ (i := 2) (N := some 26) (v := ?_) (a' := ?_) #[true, true, true, false, false] rfl rfl (by kernel_rfl) (fun _ _ _ h => h) (Or.inl ⟨by rfl, ?_⟩) ?_ ?_
        rotate_left
        · intro w'
          go_simp
          with_reducible rfl
        rotate_left
        · simp only [Act.put, List.setIfInBounds_toArray, List.set_cons_zero, List.set_cons_succ, i64_w, i32_w]
          rfl
        refine one_ (i := 3) (N := some 27) #[true, true, true, true, false] rfl rfl (by kernel_rfl) (by decide) (fun K hK => ?_)
        refine Kd.R_append_rows_step (Kd.int .u8) (w0 := X) wc.heap.size (by rfl) (.tmp 24) (.tmp 26) 36 5 (.int .u8 0) 1 rfl Try.underlying36 info5 rfl (by decide) (by omega) (.slice Av out.length cv) out part _ 60 60 (fun _ => True) (fun _ => False) rfl rfl hR1 (hmm X1 (hB0X.trans (Below.mono hB1 (by omega)))) (fun _ _ h => h) (fun _ h => h.elim) (fun _ _ => trivial) hB1 (by omega) (by omega) ?_
        intro v6 X4 hR4 hB4 hg4 hat4
        have hne3 : some gb228 ≠ (Value.slice Av out.length cv).ownBlock := fun e => by have := Kd.R_base hR1 _ e.symm; omega
        have hbx4 := blk_grown hbx1 hg4 hne3
        have hk4 := hk1.trans (keepsOthers_row hR1 hg4)
        have hs4 := hg4.size
        obtain ⟨A6, c6, e6⟩ := Kd.R_slice hR4
        subst e6
        refine hK.out _ _ (cell_of_block hbx4) (fun hHeld => ?_)
        clear hK K
        refine norm_ (a' := ?_) ?_ ?_
        rotate_left
        · show Act.put _ (some 27) _ = _
          simp only [Act.put, List.setIfInBounds_toArray, List.set_cons_zero, List.set_cons_succ, i64_w, i32_w]
          rfl
        have hc4 := cell_of_block hbx4
        have hf4 := blk_frozen hbx4 0
        refine last_ (i := 4) (N := none) #[true, true, true, true, true] rfl rfl (by kernel_rfl) (by decide) (fun K hK => ?_)
        refine skip_ (w1 := X4.setCell ⟨gb228, 0, none⟩ (.slice A6 (out ++ part).length c6)) (by rfl) rfl ?_ ?_
        · first | (go_simp; done) | (go_simp; rfl)
        refine hK.out _ _ ?_
        clear hK K
        refine done_ (by kernel_rfl) ?_
        have hB4' : Below w.heap.size X X4 := Below.mono hB4 (by omega)
        have hB5 : Below w.heap.size X (X4.setCell ⟨gb228, 0, none⟩ (.slice A6 (out ++ part).length c6)) := Below.setCell hB4' (p := ⟨gb228, 0, none⟩) hwA _
        have hK5 : KeepI wc.heap.size gb228 X (X4.setCell ⟨gb228, 0, none⟩ (.slice A6 (out ++ part).length c6)) := ⟨hB5.size, fun i h1 h2 => (Below.heap_setCell X4 _ _ i h2).trans (hB4.block i h1)⟩
        refine ⟨(hk4.trans (KeepsOthers.setCell _ _ _)).from _, hK5, ⟨_, Boxed.set _ hbx4, ?_⟩, hBX.trans hB5, hKX.trans hK5⟩
        rw [hsn2.out]
        exact Kd.R_mono (Kd.R_step (Kd.R_bound hR4) (fun k hk _ => Below.heap_setCell _ _ _ k (by have h2 := hk.2.1; show k ≠ gb228; omega))) (fun _ _ => trivial)
      rintro gb229 ys X hD rfl ⟨⟨vb_, hbx, hRv⟩, hBX, hKX⟩ hK
      have hrs_ := blk_lt BK224.out
      have hps_ := blk_lt BK225.out
      have n0_ := Aside0.mk ((hKX.2 gb224 (by omega) NB224_228.out).trans ((hbc.block _ hrs_).trans BK224.out))
      have n1_ := Aside0.mk ((hKX.2 gb225 (by omega) NB225_228.out).trans ((hbc.block _ hps_).trans BK225.out))
      have n2_ := Aside0.mk hbx
      have n3_ := Aside0.mk (hBc.trans hBX)
      have n4_ := Aside0.mk hK
      have GW229 := Aside0.mk (show w.heap.size ≤ gb229 by omega)
      have GE229 := Aside0.mk (show w.heap.size ≤ gb229 by omega)
      have NB224_229 := Aside0.mk (show gb224 ≠ gb229 by omega)
      have NB229_224 := Aside0.mk (show gb229 ≠ gb224 by omega)
      have NB225_229 := Aside0.mk (show gb225 ≠ gb229 by omega)
      have NB229_225 := Aside0.mk (show gb229 ≠ gb225 by omega)
      have NB228_229 := Aside0.mk (show gb228 ≠ gb229 by omega)
      have NB229_228 := Aside0.mk (show gb229 ≠ gb228 by omega)
      have HO233 : Aside0 (Kd.R (Kd.int .u8) 5 X w.heap.size (fun _ => True) vb_ y231) := ⟨by rw [Ny231.out, List.nil_append]; exact Kd.R_lower hRv (by omega)⟩
      clear BK224 BK225 BK228 HB hbx hK hBX hKX hRv hBc h8c hbs hbn hsb hsn hbc hsc hsA hwA hrs_ hps_ hD hcap eA0 hl0
      have BK224 := n0_
      have BK225 := n1_
      have BK228 := n2_
      have HB := n3_
      have BK229 := n4_
      clear n0_ n1_ n2_ n3_ n4_
      obtain ⟨Ao23, co23, eo23⟩ := Kd.R_slice HO233.out
      subst eo23
      have hnb16 := NB228_224.out
      have hnc16 := NB224_228.out
      have hnb17 := NB228_225.out
      have hnc17 := NB225_228.out
      have hcz19_0 := cell_of_block BK228.out
      have hfz19_0 := blk_frozen BK228.out 0
      have p234 : 0 ≤ (0 : Int) := (by omega)
      have q234 : 0 < (y231.length : Int) := of_decide_eq_true (by first | (with_reducible assumption) | assumption)
      obtain ⟨ad234, e234, hx234_0⟩ := Kd.at_int (Kd.R_reads' HO233.out).2.2 0 p234 q234
      cases e234
      have qi234 : (0 < y231.length) = True := eq_true (by omega)
      (try rw [show ((0 : Int)).toNat = 0 from rfl] at hx234_0)
      (try rw [Addr.add_zero'] at hx234_0)
      replace p234 := eq_true p234
      replace q234 := eq_true q234
      go_wp2
      go_loopg [8, 35] k (fun kq v8 v35 w' => ∃ (x8_1 : Int) (x35_1 : Int) (x225000_1 : Int) (x226001_1 : List (List Int)) (u226001 : Value), v8 = .int .i64 x8_1 ∧ v35 = .int .i64 x35_1 ∧ Aside0 (impl_PageRead.l0 kq l0 y231 x8_1 (wrap64 (rd y231 0)) x35_1 t226 x226001_1 = some (r1, r2, r3)) ∧ Aside0 (kq ≤ k) ∧ Aside0 (Kd.R (Kd.int .u8) 5 w' w.heap.size (fun _ => True) (.slice (some ad234) y231.length co23) y231) ∧ Aside0 (Kd.S (Kd.slice 5 (Kd.int .u8)) 36 w' w.heap.size (fun k_ => (some k_ ≠ ((.slice (some ad234) y231.length co23) : Value).ownBlock ∧ k_ ≠ gb228)) u226001 x226001_1) ∧ Aside0 (w'.heap[gb224]? = some (.cells #[.int .i64 x225000_1, (.slice none 0 0)] 27 (0, 0))) ∧ Aside0 (w'.heap[gb225]? = some (.cells #[.int .i64 t226, u226001] 27 (0, 0))) ∧ Aside0 (w'.heap[gb228]? = some (.cells #[.slice (some ad234) y231.length co23] 36 (0, 0))) ∧ Aside0 (w'.heap[gb229]? = some (.deferred (some []))) ∧ Aside0 (Below w.heap.size w w'))
      case atStart => exact ⟨(wrap64 (1 + (wrap64 (rd y231 0)))), (0), (0), (([] : List (List Int))), (.slice none 0 0), (by first | rfl | (simp; done) | (simp [*]; done)), (by first | rfl | (simp; done) | (simp [*]; done)), H', ⟨Nat.le_refl _⟩, ⟨by exact Kd.rup HO233.out⟩, ⟨by first | exact Kd.S_nil _ _ _ _ _ | exact Kd.N_nil _ _ _ _ _ | exact Kd.V_nil _ _ _ _ _ | exact Kd.Q_nil _ _ _ _ _ | exact Kd.R_nil _ _ _ _ _⟩, ⟨by exact bup BK224.out⟩, ⟨by exact bup BK225.out⟩, ⟨by exact bup BK228.out⟩, ⟨by exact bup BK229.out⟩, ⟨by with_reducible repeat (first | exact HB.out | refine h4 ?_ GE224.out | refine h4 ?_ GE225.out | refine h4 ?_ GE228.out | refine h4 ?_ GE229.out | apply h1 | apply h2 | apply h3)⟩⟩
      case round =>
       clear H'
       try clear c1
       try clear c2
       try clear c2b0
       try clear c2b1
       try clear p2
       try clear q2
       try clear hx2
       try clear qi2
       try clear c3
       try clear c4
       try clear c4b0
       try clear c4b1
       try clear c5
       try clear c5b0
       try clear c5b1
       try clear c6
       try clear p6
       try clear c7
       try clear c7b0
       try clear c7b1
       try clear c10
       try clear c16
       try clear c17
       try clear c18
       try clear c20
       try clear c21
       try clear p23
       try clear q23
       try clear hx23
       try clear qi23
       try clear hcz11_0
       try clear hcz11_1
       try clear hcz19_0
       try clear hcz19_1
       try clear hcz22_0
       try clear hcz22_1
       try clear hfz11_0
       try clear hfz11_1
       try clear hfz19_0
       try clear hfz19_1
       try clear hfz22_0
       try clear hfz22_1
       try clear hx234_0
       try clear p234
       try clear q234
       obtain ⟨x8_1, x35_1, x225000_1, x226001_1, u226001, rfl, rfl, HA, HK1, HO_5, HO_226001, BK224, BK225, BK228, BK229, HB⟩ := hrel
       cases gk with
       | zero => exact absurd HA.out (by unfold impl_PageRead.l0; simp)
       | succ k1 =>
        have H := HA.out
        clear HA
        unfold impl_PageRead.l0 at H; try dsimp only at H
        by_cases c24 : x35_1 < (wrap64 (rd y231 0))
        ·rw [if_pos c24] at H
         have c24b0 : decide (x35_1 < (wrap64 (rd y231 0))) = true := decide_eq_true c24
         clear c24
         replace H := Option.bind_eq_some_iff.mp H
         obtain ⟨t235, A250, H⟩ := H
         replace H : (if t235 = true then (if 0 ≤ (wrap64 (1 + x35_1)) then (if (wrap64 (1 + x35_1)) < (y231.length : Int) then ((impl_hasBytes.f y231 x8_1 (wrap64 (rd y231 (wrap64 (1 + x35_1))))).bind fun t237 => (if t237 = true then (if 0 ≤ x8_1 then (if x8_1 ≤ (wrap64 (x8_1 + (wrap64 (rd y231 (wrap64 (1 + x35_1)))))) then (if (wrap64 (x8_1 + (wrap64 (rd y231 (wrap64 (1 + x35_1)))))) ≤ (y231.length : Int) then ((slices_Clone_byte_byte.f ((y231.take ((wrap64 (x8_1 + (wrap64 (rd y231 (wrap64 (1 + x35_1)))))) : Int).toNat).drop (x8_1 : Int).toNat)).bind fun t243 => (if x226001_1.length < 5864062014805 then (impl_PageRead.l0 k1 l0 y231 (wrap64 (x8_1 + (wrap64 (rd y231 (wrap64 (1 + x35_1)))))) (wrap64 (rd y231 0)) (wrap64 (x35_1 + 1)) t226 (x226001_1 ++ [t243])) else (none))) else (none)) else (none)) else (none)) else (some (0, ([] : List (List Int)), false)))) else (none)) else (none)) else (some (0, ([] : List (List Int)), false))) = some (r1, r2, r3) := H
         have A25 := Aside0.mk A250
         clear A250
         by_cases c26 : t235 = true
         ·subst c26
          have H1 : (if 0 ≤ (wrap64 (1 + x35_1)) then (if (wrap64 (1 + x35_1)) < (y231.length : Int) then ((impl_hasBytes.f y231 x8_1 (wrap64 (rd y231 (wrap64 (1 + x35_1))))).bind fun t237 => (if t237 = true then (if 0 ≤ x8_1 then (if x8_1 ≤ (wrap64 (x8_1 + (wrap64 (rd y231 (wrap64 (1 + x35_1)))))) then (if (wrap64 (x8_1 + (wrap64 (rd y231 (wrap64 (1 + x35_1)))))) ≤ (y231.length : Int) then ((slices_Clone_byte_byte.f ((y231.take ((wrap64 (x8_1 + (wrap64 (rd y231 (wrap64 (1 + x35_1)))))) : Int).toNat).drop (x8_1 : Int).toNat)).bind fun t243 => (if x226001_1.length < 5864062014805 then (impl_PageRead.l0 k1 l0 y231 (wrap64 (x8_1 + (wrap64 (rd y231 (wrap64 (1 + x35_1)))))) (wrap64 (rd y231 0)) (wrap64 (x35_1 + 1)) t226 (x226001_1 ++ [t243])) else (none))) else (none)) else (none)) else (none)) else (some (0, ([] : List (List Int)), false)))) else (none)) else (none)) = some (r1, r2, r3) := by rw [if_pos rfl] at H; exact H
          clear H
          have H := H1
          clear H1
          obtain ⟨ji27, hji27⟩ : ∃ j_ : Int, (wrap64 (1 + x35_1)) = j_ := ⟨_, rfl⟩
          replace H : (if 0 ≤ (ji27) then (if (ji27) < (y231.length : Int) then ((impl_hasBytes.f y231 x8_1 (wrap64 (rd y231 (ji27)))).bind fun t237 => (if t237 = true then (if 0 ≤ x8_1 then (if x8_1 ≤ (wrap64 (x8_1 + (wrap64 (rd y231 (ji27))))) then (if (wrap64 (x8_1 + (wrap64 (rd y231 (ji27))))) ≤ (y231.length : Int) then ((slices_Clone_byte_byte.f ((y231.take ((wrap64 (x8_1 + (wrap64 (rd y231 (ji27))))) : Int).toNat).drop (x8_1 : Int).toNat)).bind fun t243 => (if x226001_1.length < 5864062014805 then (impl_PageRead.l0 k1 l0 y231 (wrap64 (x8_1 + (wrap64 (rd y231 (ji27))))) (wrap64 (rd y231 0)) (wrap64 (x35_1 + 1)) t226 (x226001_1 ++ [t243])) else (none))) else (none)) else (none)) else (none)) else (some (0, ([] : List (List Int)), false)))) else (none)) else (none)) = some (r1, r2, r3) := by first | (rw [hji27] at H; exact H) | (simp only [hji27] at H ⊢; exact H)
          (try rw [hji27] at A25)
          have hji27w : (IntKind.i64.wrap (1 + x35_1)) = ji27 := (i64_w _).trans hji27
          by_cases c28 : 0 ≤ (ji27)
          ·rw [if_pos c28] at H
           have c28b0 : decide (0 ≤ (ji27)) = true := decide_eq_true c28
           clear c28
           by_cases c29 : (ji27) < (y231.length : Int)
           ·rw [if_pos c29] at H
            have c29b0 : decide ((ji27) < (y231.length : Int)) = true := decide_eq_true c29
            clear c29
            replace H := Option.bind_eq_some_iff.mp H
            obtain ⟨t237, A300, H⟩ := H
            replace H : (if t237 = true then (if 0 ≤ x8_1 then (if x8_1 ≤ (wrap64 (x8_1 + (wrap64 (rd y231 (ji27))))) then (if (wrap64 (x8_1 + (wrap64 (rd y231 (ji27))))) ≤ (y231.length : Int) then ((slices_Clone_byte_byte.f ((y231.take ((wrap64 (x8_1 + (wrap64 (rd y231 (ji27))))) : Int).toNat).drop (x8_1 : Int).toNat)).bind fun t243 => (if x226001_1.length < 5864062014805 then (impl_PageRead.l0 k1 l0 y231 (wrap64 (x8_1 + (wrap64 (rd y231 (ji27))))) (wrap64 (rd y231 0)) (wrap64 (x35_1 + 1)) t226 (x226001_1 ++ [t243])) else (none))) else (none)) else (none)) else (none)) else (some (0, ([] : List (List Int)), false))) = some (r1, r2, r3) := H
            have A30 := Aside0.mk A300
            clear A300
            by_cases c31 : t237 = true
            ·subst c31
             have H1 : (if 0 ≤ x8_1 then (if x8_1 ≤ (wrap64 (x8_1 + (wrap64 (rd y231 (ji27))))) then (if (wrap64 (x8_1 + (wrap64 (rd y231 (ji27))))) ≤ (y231.length : Int) then ((slices_Clone_byte_byte.f ((y231.take ((wrap64 (x8_1 + (wrap64 (rd y231 (ji27))))) : Int).toNat).drop (x8_1 : Int).toNat)).bind fun t243 => (if x226001_1.length < 5864062014805 then (impl_PageRead.l0 k1 l0 y231 (wrap64 (x8_1 + (wrap64 (rd y231 (ji27))))) (wrap64 (rd y231 0)) (wrap64 (x35_1 + 1)) t226 (x226001_1 ++ [t243])) else (none))) else (none)) else (none)) else (none)) = some (r1, r2, r3) := by rw [if_pos rfl] at H; exact H
             clear H
             have H := H1
             clear H1
             by_cases c32 : 0 ≤ x8_1
             ·rw [if_pos c32] at H
              have c32b0 := eq_true c32
              have c32b1 : decide (0 ≤ x8_1) = true := decide_eq_true c32
              clear c32
              by_cases c33 : x8_1 ≤ (wrap64 (x8_1 + (wrap64 (rd y231 (ji27)))))
              ·rw [if_pos c33] at H
               have c33b0 := eq_true c33
               have c33b1 : decide (x8_1 ≤ (wrap64 (x8_1 + (wrap64 (rd y231 (ji27)))))) = true := decide_eq_true c33
               by_cases c34 : (wrap64 (x8_1 + (wrap64 (rd y231 (ji27))))) ≤ (y231.length : Int)
               ·rw [if_pos c34] at H
                have c34b0 := eq_true c34
                have c34b1 : decide ((wrap64 (x8_1 + (wrap64 (rd y231 (ji27))))) ≤ (y231.length : Int)) = true := decide_eq_true c34
                obtain ⟨y239, hy239⟩ : ∃ y_ : List Int, y_ = ((y231.take ((wrap64 (x8_1 + (wrap64 (rd y231 (ji27))))) : Int).toNat).drop (x8_1 : Int).toNat) := ⟨_, rfl⟩
                replace H : ((slices_Clone_byte_byte.f y239).bind fun t243 => (if x226001_1.length < 5864062014805 then (impl_PageRead.l0 k1 l0 y231 (wrap64 (x8_1 + (wrap64 (rd y231 (ji27))))) (wrap64 (rd y231 0)) (wrap64 (x35_1 + 1)) t226 (x226001_1 ++ [t243])) else (none))) = some (r1, r2, r3) := by first | (rw [hy239]; with_reducible exact H) | (have H2_ := (Option.bind_some _ _).symm.trans H; rw [hy239]; with_reducible exact H2_) | (have H2_ := (Option.bind_some _ _).symm.trans H; with_reducible exact H2_) | with_reducible exact H | (rw [hy239]; exact H) | exact H
                have Ny239 := Aside0.mk hy239
                clear hy239
                replace H := Option.bind_eq_some_iff.mp H
                obtain ⟨t243, A350, H⟩ := H
                replace H : (if x226001_1.length < 5864062014805 then (impl_PageRead.l0 k1 l0 y231 (wrap64 (x8_1 + (wrap64 (rd y231 (ji27))))) (wrap64 (rd y231 0)) (wrap64 (x35_1 + 1)) t226 (x226001_1 ++ [t243])) else (none)) = some (r1, r2, r3) := H
                have A35 := Aside0.mk A350
                clear A350
                by_cases c36 : x226001_1.length < 5864062014805
                ·rw [if_pos c36] at H
                 have LMc36 := Aside0.mk c36
                 clear c36
                 obtain ⟨y246, hy246⟩ : ∃ y_ : List (List Int), y_ = (x226001_1 ++ [t243]) := ⟨_, rfl⟩
                 replace H : (impl_PageRead.l0 k1 l0 y231 (wrap64 (x8_1 + (wrap64 (rd y231 (ji27))))) (wrap64 (rd y231 0)) (wrap64 (x35_1 + 1)) t226 y246) = some (r1, r2, r3) := by first | (rw [hy246]; with_reducible exact H) | (have H2_ := (Option.bind_some _ _).symm.trans H; rw [hy246]; with_reducible exact H2_) | (have H2_ := (Option.bind_some _ _).symm.trans H; with_reducible exact H2_) | with_reducible exact H | (rw [hy246]; exact H) | exact H
                 have Ny246 := Aside0.mk hy246
                 clear hy246
                 have H' := Aside0.mk H
                 clear H
                 try go_wp2
                 have n0_ := Aside0.mk (Kd.R_drew HO_5.out)
                 have n1_ := Aside0.mk (Kd.S_drew HO_226001.out)
                 have n2_ := Aside0.mk (blk_drew BK224.out)
                 have n3_ := Aside0.mk (blk_drew BK225.out)
                 have n4_ := Aside0.mk (blk_drew BK228.out)
                 have n5_ := Aside0.mk (blk_drew BK229.out)
                 have n6_ := Aside0.mk (below_drew1 HB.out)
                 clear HO_5
                 clear HO_226001
                 clear BK224
                 clear BK225
                 clear BK228
                 clear BK229
                 clear HB
                 have HO_5 := n0_
                 have HO_226001 := n1_
                 have BK224 := n2_
                 have BK225 := n3_
                 have BK228 := n4_
                 have BK229 := n5_
                 have HB := n6_
                 clear n0_ n1_ n2_ n3_ n4_ n5_ n6_
                 have p236 : 0 ≤ ((ji27) : Int) := of_decide_eq_true (by first | (with_reducible assumption) | assumption)
                 have q236 : (ji27) < (y231.length : Int) := of_decide_eq_true (by first | (with_reducible assumption) | assumption)
                 obtain ⟨ad236, e236, hx236_0⟩ := Kd.at_int (Kd.R_reads' HO_5.out).2.2 (ji27) p236 q236
                 obtain rfl : ad234 = ad236 := (by injection e236)
                 replace p236 := eq_true p236
                 replace q236 := eq_true q236
                 refine start_ (n := 17) (S := fun w' => (w'.cell? (ad234.add ((ji27)).toNat) = some (.int .u8 (rd y231 (ji27)))) ∧ w'.cell? ⟨gb228, 0, none⟩ = some (.slice (some ad234) y231.length co23)) (ds := []) #[false, false, false, false, false, false, false, false, false, false, false, false, false, false, false, false, false] (by kernel_rfl) rfl rfl ⟨(hx236_0), cell_of_block (blk_drew BK228.out)⟩ (fun hHeld => ?_); refine with_tabW impl_PageRead.tab14 impl_PageRead.bits14 (fun HT_ HW_ => ?_)
                 generalize wr.drew = w37 at HO_5 HO_226001 BK224 BK225 BK228 BK229 HB hx236_0 hHeld ⊢
                 refine take_ (i := 0) (N := some 38) (v := ?_) (a' := ?_) #[true, false, false, false, false, false, false, false, false, false, false, false, false, false, false, false, false] rfl rfl (take_of HT_.out (by kernel_rfl)) (fun _ _ _ h => h) (Or.inl ⟨by rfl, ?_⟩) hHeld ?_ ?_
                 rotate_left
                 ·rintro w' ⟨_, sB_⟩
                  go_simp
                  with_reducible rfl
                 rotate_left
                 ·simp only [Act.put, List.setIfInBounds_toArray, List.set_cons_zero, List.set_cons_succ, i64_w, i32_w]
                  rfl
                 refine pure_ (i := 1) (N := some 39) (v := ?_) (a' := ?_) #[true, true, false, false, false, false, false, false, false, false, false, false, false, false, false, false, false] rfl rfl (any_of HT_.out (by kernel_rfl)) (fun _ _ _ h => h) (Or.inl ⟨by rfl, ?_⟩) ?_ ?_
                 rotate_left
                 ·intro w'
                  go_simp
                  with_reducible rfl
                 rotate_left
                 ·simp only [Act.put, List.setIfInBounds_toArray, List.set_cons_zero, List.set_cons_succ, i64_w, i32_w]
                  rfl
                 refine pure_ (i := 2) (N := some 40) (v := ?_) (a' := ?_) #[true, true, true, false, false, false, false, false, false, false, false, false, false, false, false, false, false] rfl rfl (any_of HT_.out (by kernel_rfl)) (fun _ _ _ h => h) (Or.inl ⟨by rfl, ?_⟩) ?_ ?_
                 rotate_left
                 ·intro w'
                  go_simp
                  with_reducible rfl
                 rotate_left
                 ·simp only [Act.put, List.setIfInBounds_toArray, List.set_cons_zero, List.set_cons_succ, i64_w, i32_w]
                  rfl
                 refine one_ (i := 3) (N := some 41) #[true, true, true, true, false, false, false, false, false, false, false, false, false, false, false, false, false] rfl rfl (one_of HT_.out (by kernel_rfl)) (by decide) (fun K hK => ?_)
                 refine goes_ Try.func55 (by kernel_rfl) rfl #[.slice (some ad234) y231.length co23, .int .i64 ji27, .int .i64 1] (by rfl) rfl rfl (by (try simp only [List.map_toArray, List.map_cons, List.map_nil]); first | done | (simp only [hji27]; rfl) | rfl | (simp only [List.length_drop, List.length_take]; rfl)) ?_
                 with_reducible refine (impl_hasBytes.calls _ _ y231 ji27 1 true _ ?side1 ?side2 A25.out).mono ?_
                 (case side1 => repeat (first | exact (Kd.R_reads' HO_5.out).2.2 | (with_reducible refine Kd.C_alloc ?_ _) | (with_reducible refine Kd.C_drewN ?_ _) | (with_reducible refine Kd.C_drew ?_)))
                 (case side2 => exact (Kd.R_reads' HO_5.out).2.1)
                 rintro e w' ⟨rfl, ⟨nd, rfl⟩⟩
                 refine ⟨_, rfl, ?_⟩
                 refine hK.out _ _ (hHeld) (fun hHeld => ?_)
                 clear hK K
                 refine norm_ (a' := ?_) ?_ ?_
                 rotate_left
                 ·show Act.put _ (some 41) _ = _
                  simp only [Act.put, List.setIfInBounds_toArray, List.set_cons_zero, List.set_cons_succ, i64_w, i32_w]
                  rfl
                 refine pure_ (i := 4) (N := some 42) (v := ?_) (a' := ?_) #[true, true, true, true, true, false, false, false, false, false, false, false, false, false, false, false, false] rfl rfl (any_of HT_.out (by kernel_rfl)) (fun _ _ _ h => h) (Or.inl ⟨by rfl, ?_⟩) ?_ ?_
                 rotate_left
                 ·intro w'
                  go_simp
                  with_reducible rfl
                 rotate_left
                 ·simp only [Act.put, List.setIfInBounds_toArray, List.set_cons_zero, List.set_cons_succ, i64_w, i32_w]
                  rfl
                 refine pure_ (i := 5) (N := some 43) (v := ?_) (a' := ?_) #[true, true, true, true, true, true, false, false, false, false, false, false, false, false, false, false, false] rfl rfl (any_of HT_.out (by kernel_rfl)) (fun _ _ _ h => h) (Or.inl ⟨by rfl, ?_⟩) ?_ ?_
                 rotate_left
                 ·intro w'
                  go_simp
                  with_reducible rfl
                 rotate_left
                 ·simp only [Act.put, List.setIfInBounds_toArray, List.set_cons_zero, List.set_cons_succ, i64_w, i32_w]
                  rfl
                 refine take_ (i := 6) (N := some 44) (v := ?_) (a' := ?_) #[true, true, true, true, true, true, true, false, false, false, false, false, false, false, false, false, false] rfl rfl (take_of HT_.out (by kernel_rfl)) (fun _ _ _ h => h) (Or.inl ⟨by rfl, ?_⟩) hHeld ?_ ?_
                 rotate_left
                 ·rintro w' ⟨_, sB_⟩
                  go_simp
                  with_reducible rfl
                 rotate_left
                 ·simp only [Act.put, List.setIfInBounds_toArray, List.set_cons_zero, List.set_cons_succ, i64_w, i32_w]
                  rfl
                 refine pure_ (i := 7) (N := some 45) (v := ?_) (a' := ?_) #[true, true, true, true, true, true, true, true, false, false, false, false, false, false, false, false, false] rfl rfl (any_of HT_.out (by kernel_rfl)) (fun _ _ _ h => h) (Or.inl ⟨by rfl, ?_⟩) ?_ ?_
                 rotate_left
                 ·intro w'
                  go_simp
                  with_reducible rfl
                 rotate_left
                 ·simp only [Act.put, List.setIfInBounds_toArray, List.set_cons_zero, List.set_cons_succ, i64_w, i32_w]
                  rfl
                 refine take_ (i := 8) (N := some 46) (v := ?_) (a' := ?_) #[true, true, true, true, true, true, true, true, true, false, false, false, false, false, false, false, false] rfl rfl (take_of HT_.out (by kernel_rfl)) (fun _ _ _ h => h) (Or.inl ⟨by rfl, ?_⟩) hHeld ?_ ?_
                 rotate_left
                 ·rintro w' ⟨_, sB_⟩
                  go_simp
                  with_reducible rfl
                 rotate_left
                 ·simp only [Act.put, List.setIfInBounds_toArray, List.set_cons_zero, List.set_cons_succ, i64_w, i32_w]
                  rfl
                 refine pure_ (i := 9) (N := some 47) (v := ?_) (a' := ?_) #[true, true, true, true, true, true, true, true, true, true, false, false, false, false, false, false, false] rfl rfl (any_of HT_.out (by kernel_rfl)) (fun _ _ _ h => h) (Or.inl ⟨by rfl, ?_⟩) ?_ ?_
                 rotate_left
                 ·intro w'
                  go_simp
                  with_reducible rfl
                 rotate_left
                 ·simp only [Act.put, List.setIfInBounds_toArray, List.set_cons_zero, List.set_cons_succ, i64_w, i32_w]
                  rfl
                 refine pure_ (i := 10) (N := some 48) (v := ?_) (a' := ?_) #[true, true, true, true, true, true, true, true, true, true, true, false, false, false, false, false, false] rfl rfl (any_of HT_.out (by kernel_rfl)) (fun _ _ _ h => h) (Or.inl ⟨by rfl, ?_⟩) ?_ ?_
                 rotate_left
                 ·intro w'
                  go_simp
                  with_reducible rfl
                 rotate_left
                 ·simp only [Act.put, List.setIfInBounds_toArray, List.set_cons_zero, List.set_cons_succ, i64_w, i32_w]
                  rfl
                 refine pure_ (i := 11) (N := some 49) (v := ?_) (a' := ?_) #[true, true, true, true, true, true, true, true, true, true, true, true, false, false, false, false, false] rfl rfl (any_of HT_.out (by kernel_rfl)) (fun _ _ _ h => h) (Or.inl ⟨by rfl, ?_⟩) ?_ ?_
                 rotate_left
                 ·intro w'
                  go_simp
                  with_reducible rfl
                 rotate_left
                 ·simp only [Act.put, List.setIfInBounds_toArray, List.set_cons_zero, List.set_cons_succ, i64_w, i32_w]
                  rfl
                 refine take_ (i := 12) (N := some 50) (v := ?_) (a' := ?_) #[true, true, true, true, true, true, true, true, true, true, true, true, true, false, false, false, false] rfl rfl (take_ofW HT_.out HW_.out (by kernel_rfl)) (fun _ _ _ h => h) (Or.inl ⟨by rfl, ?_⟩) hHeld ?_ ?_
                 rotate_left
                 ·rintro w' ⟨s0, sB_⟩
                  go_simp
                  with_reducible rfl
                 rotate_left
                 ·simp only [Act.put, List.setIfInBounds_toArray, List.set_cons_zero, List.set_cons_succ, i64_w, i32_w]
                  rfl
                 refine pure_ (i := 13) (N := some 51) (v := ?_) (a' := ?_) #[true, true, true, true, true, true, true, true, true, true, true, true, true, true, false, false, false] rfl rfl (any_of HT_.out (by kernel_rfl)) (fun _ _ _ h => h) (Or.inl ⟨by rfl, ?_⟩) ?_ ?_
                 rotate_left
                 ·intro w'
                  go_simp
                  with_reducible rfl
                 rotate_left
                 ·simp only [Act.put, List.setIfInBounds_toArray, List.set_cons_zero, List.set_cons_succ, i64_w, i32_w]
                  rfl
                 refine one_ (i := 14) (N := some 52) #[true, true, true, true, true, true, true, true, true, true, true, true, true, true, true, false, false] rfl rfl (one_of HT_.out (by kernel_rfl)) (by decide) (fun K hK => ?_)
                 refine goes_ Try.func55 (by kernel_rfl) rfl #[.slice (some ad234) y231.length co23, .int .i64 x8_1, .int .i64 (wrap64 (rd y231 (ji27)))] (by rfl) rfl rfl (by (try simp only [List.map_toArray, List.map_cons, List.map_nil]); first | done | (simp only [hji27]; rfl) | rfl | (simp only [List.length_drop, List.length_take]; rfl)) ?_
                 with_reducible refine (impl_hasBytes.calls _ _ y231 x8_1 (wrap64 (rd y231 (ji27))) true _ ?side1 ?side2 A30.out).mono ?_
                 (case side1 => repeat (first | exact (Kd.R_reads' HO_5.out).2.2 | (with_reducible refine Kd.C_alloc ?_ _) | (with_reducible refine Kd.C_drewN ?_ _) | (with_reducible refine Kd.C_drew ?_)))
                 (case side2 => exact (Kd.R_reads' HO_5.out).2.1)
                 rintro e w' ⟨rfl, ⟨nd, rfl⟩⟩
                 refine ⟨_, rfl, ?_⟩
                 refine hK.out _ _ (hHeld) (fun hHeld => ?_)
                 clear hK K
                 refine norm_ (a' := ?_) ?_ ?_
                 rotate_left
                 ·show Act.put _ (some 52) _ = _
                  simp only [Act.put, List.setIfInBounds_toArray, List.set_cons_zero, List.set_cons_succ, i64_w, i32_w]
                  rfl
                 refine pure_ (i := 15) (N := some 53) (v := ?_) (a' := ?_) #[true, true, true, true, true, true, true, true, true, true, true, true, true, true, true, true, false] rfl rfl (any_of HT_.out (by kernel_rfl)) (fun _ _ _ h => h) (Or.inl ⟨by rfl, ?_⟩) ?_ ?_
                 rotate_left
                 ·intro w'
                  go_simp
                  with_reducible rfl
                 rotate_left
                 ·simp only [Act.put, List.setIfInBounds_toArray, List.set_cons_zero, List.set_cons_succ, i64_w, i32_w]
                  rfl
                 refine pure_ (i := 16) (N := some 54) (v := ?_) (a' := ?_) #[true, true, true, true, true, true, true, true, true, true, true, true, true, true, true, true, true] rfl rfl (any_of HT_.out (by kernel_rfl)) (fun _ _ _ h => h) (Or.inl ⟨by rfl, ?_⟩) ?_ ?_
                 rotate_left
                 ·intro w'
                  go_simp
                  with_reducible rfl
                 rotate_left
                 ·simp only [Act.put, List.setIfInBounds_toArray, List.set_cons_zero, List.set_cons_succ, i64_w, i32_w]
                  rfl
                 refine done_ (done_of HT_.out (by kernel_rfl)) ?_
                 have hnb38 := NB228_224.out
                 have hnc38 := NB224_228.out
                 have hnb39 := NB228_225.out
                 have hnc39 := NB225_228.out
                 have hnb40 := NB228_229.out
                 have hnc40 := NB229_228.out
                 have hcz41_0 := cell_of_block BK228.out
                 have hfz41_0 := blk_frozen BK228.out 0
                 have hnb42 := NB229_224.out
                 have hnc42 := NB224_229.out
                 have hnb43 := NB229_225.out
                 have hnc43 := NB225_229.out
                 have p238 : 0 ≤ ((ji27) : Int) := of_decide_eq_true (by first | (with_reducible assumption) | assumption)
                 have q238 : (ji27) < (y231.length : Int) := of_decide_eq_true (by first | (with_reducible assumption) | assumption)
                 obtain ⟨ad238, e238, hx238_0⟩ := Kd.at_int (Kd.R_reads' HO_5.out).2.2 (ji27) p238 q238
                 obtain rfl : ad234 = ad238 := (by injection e238)
                 replace p238 := eq_true p238
                 replace q238 := eq_true q238
                 try go_wp2
                 (try (rw [drewN_self w37]; generalize hq_ : World.drewN w37 _ = w37; have n0_ : Aside0 (Kd.S (Kd.slice 5 (Kd.int .u8)) 36 w37 w.heap.size (fun k_ => (some k_ ≠ (.slice (some ad234) y231.length co23 : Value).ownBlock ∧ k_ ≠ gb228)) u226001 x226001_1) := ⟨by rw [← hq_]; exact (by (with_reducible repeat (first | apply Kd.S_alloc | apply Kd.S_drewN | apply Kd.S_drew)); exact HO_226001.out)⟩; have n1_ : Aside0 (Kd.R (Kd.int .u8) 5 w37 w.heap.size (fun k_ => True) (.slice (some ad234) y231.length co23) y231) := ⟨by rw [← hq_]; exact (Kd.rup HO_5.out)⟩; have n2_ : Aside0 (w37.heap[gb224]? = some (.cells #[.int .i64 x225000_1, .slice none 0 0] 27 (0, 0))) := ⟨by rw [← hq_]; exact (bup BK224.out)⟩; have n3_ : Aside0 (w37.heap[gb225]? = some (.cells #[.int .i64 t226, u226001] 27 (0, 0))) := ⟨by rw [← hq_]; exact (bup BK225.out)⟩; have n4_ : Aside0 (w37.heap[gb228]? = some (.cells #[.slice (some ad234) y231.length co23] 36 (0, 0))) := ⟨by rw [← hq_]; exact (bup BK228.out)⟩; have n5_ : Aside0 (w37.heap[gb229]? = some (.deferred (some []))) := ⟨by rw [← hq_]; exact (bup BK229.out)⟩; have n6_ : Aside0 (Below w.heap.size w w37) := ⟨by rw [← hq_]; exact (by with_reducible repeat (first | exact HB.out | refine h4 ?_ GE224.out | refine h4 ?_ GE225.out | refine h4 ?_ GE228.out | refine h4 ?_ GE229.out | apply h1 | apply h2 | apply h3))⟩; clear HO_226001 HO_5 BK224 BK225 BK228 BK229 HB hq_; have HO_226001 := n0_; have HO_5 := n1_; have BK224 := n2_; have BK225 := n3_; have BK228 := n4_; have BK229 := n5_; have HB := n6_; clear n0_ n1_ n2_ n3_ n4_ n5_ n6_))
                 have n0_ := Aside0.mk (Kd.R_drew HO_5.out)
                 have n1_ := Aside0.mk (Kd.S_drew HO_226001.out)
                 have n2_ := Aside0.mk (blk_drew BK224.out)
                 have n3_ := Aside0.mk (blk_drew BK225.out)
                 have n4_ := Aside0.mk (blk_drew BK228.out)
                 have n5_ := Aside0.mk (blk_drew BK229.out)
                 have n6_ := Aside0.mk (below_drew1 HB.out)
                 clear HO_5
                 clear HO_226001
                 clear BK224
                 clear BK225
                 clear BK228
                 clear BK229
                 clear HB
                 have HO_5 := n0_
                 have HO_226001 := n1_
                 have BK224 := n2_
                 have BK225 := n3_
                 have BK228 := n4_
                 have BK229 := n5_
                 have HB := n6_
                 clear n0_ n1_ n2_ n3_ n4_ n5_ n6_
                 have q46 : ((wrap64 (x8_1 + (wrap64 (rd y231 (ji27))))) : Int) ≤ ((y231.length : Int) : Int) := of_decide_eq_true (by first | (with_reducible assumption) | assumption)
                 obtain ⟨i046, hi046, _, hsz46, _⟩ := info_parts info5
                 have hroom46 : y231.length ≤ co23 := (Kd.R_reads' HO_5.out).2.1
                 have hC46 : Kd.C (Kd.int .u8) _ (some ad234) y231.length y231 := (Kd.R_reads' HO_5.out).2.2
                 have ql46 : (x8_1 : Int) ≤ ((wrap64 (x8_1 + (wrap64 (rd y231 (ji27))))) : Int) := of_decide_eq_true (by first | (with_reducible assumption) | assumption)
                 have q046 : (0 : Int) ≤ (x8_1 : Int) := of_decide_eq_true (by first | (with_reducible assumption) | assumption)
                 have hcut46 := cut_mid (P := Try.prog) 36 5 .i64 .i64 Try.underlying36 hi046 1 hsz46 (some ad234) y231.length co23 x8_1 (wrap64 (x8_1 + (wrap64 (rd y231 (ji27))))) q046 ql46 q46 hroom46
                 have hr46 := Kd.C_mid (lo := (x8_1 : Int).toNat) (hi := ((wrap64 (x8_1 + (wrap64 (rd y231 (ji27))))) : Int).toNat) (c := co23) hC46 (by omega) (by omega) hroom46
                 obtain ⟨A46, hA46⟩ : ∃ A1, A1 = (if co23 = (x8_1 : Int).toNat then (some ad234) else ((some ad234) : Option Addr).map (·.add ((x8_1 : Int).toNat * 1))) := ⟨_, rfl⟩
                 obtain ⟨c46, hc46⟩ : ∃ c1, c1 = co23 - (x8_1 : Int).toNat := ⟨_, rfl⟩
                 have hy46 : y239.length = ((wrap64 (x8_1 + (wrap64 (rd y231 (ji27))))) : Int).toNat - (x8_1 : Int).toNat := (by rw [Ny239.out, List.length_drop, List.length_take] <;> omega)
                 rw [show ((y231).take ((wrap64 (x8_1 + (wrap64 (rd y231 (ji27))))) : Int).toNat).drop (x8_1 : Int).toNat = y239 from Ny239.out.symm] at hr46
                 replace hr46 : Kd.C (Kd.int .u8) _ A46 y239.length y239 := (by rw [hA46]; exact hr46)
                 rw [← hy46, ← hA46, ← hc46] at hcut46
                 have HR242 := Aside0.mk hr46
                 have HC242 := Aside0.mk (show y239.length ≤ c46 from by rw [hy46, hc46]; exact Nat.sub_le_sub_right (Nat.le_trans (by omega) hroom46) _)
                 clear hr46 hC46 hroom46 hi046 hsz46 hc46
                 have KY46 := Aside0.mk hy46
                 have KA46 := Aside0.mk hA46
                 clear hy46 hA46
                 have KL46 := Aside0.mk (show ((wrap64 (x8_1 + (wrap64 (rd y231 (ji27))))) : Int).toNat ≤ y231.length from by omega)
                 have KM46 := Aside0.mk (show (x8_1 : Int).toNat ≤ ((wrap64 (x8_1 + (wrap64 (rd y231 (ji27))))) : Int).toNat from by omega)
                 replace q46 := eq_true q46
                 refine start_ (n := 11) (S := fun w' => (w'.cell? ⟨gb225, 0, none⟩ = some (.int .i64 t226) ∧ w'.cell? ⟨gb225, 1, none⟩ = some (u226001)) ∧ w'.cell? ⟨gb228, 0, none⟩ = some (.slice (some ad234) y231.length co23)) (ds := [10]) #[false, false, false, false, false, false, false, false, false, false, false] (by kernel_rfl) rfl rfl ⟨(blk_cells2 BK225.out), cell_of_block (blk_drew BK228.out)⟩ (fun hHeld => ?_); refine with_tabW impl_PageRead.tab17 impl_PageRead.bits17 (fun HT_ HW_ => ?_)
                 generalize w37.drew = w45 at HO_5 HO_226001 BK224 BK225 BK228 BK229 HB HR242 hHeld ⊢
                 refine pure_ (i := 0) (N := some 64) (v := ?_) (a' := ?_) #[true, false, false, false, false, false, false, false, false, false, false] rfl rfl (any_of HT_.out (by kernel_rfl)) (fun _ _ _ h => h) (Or.inl ⟨by rfl, ?_⟩) ?_ ?_
                 rotate_left
                 ·intro w'
                  go_simp
                  with_reducible rfl
                 rotate_left
                 ·simp only [Act.put, List.setIfInBounds_toArray, List.set_cons_zero, List.set_cons_succ, i64_w, i32_w]
                  rfl
                 refine take_ (i := 2) (N := some 66) (v := ?_) (a' := ?_) #[true, false, true, false, false, false, false, false, false, false, false] rfl rfl (take_of HT_.out (by kernel_rfl)) (fun _ _ _ h => h) (Or.inl ⟨by rfl, ?_⟩) hHeld ?_ ?_
                 rotate_left
                 ·rintro w' ⟨_, sB_⟩
                  go_simp
                  with_reducible rfl
                 rotate_left
                 ·simp only [Act.put, List.setIfInBounds_toArray, List.set_cons_zero, List.set_cons_succ, i64_w, i32_w]
                  rfl
                 refine pure_ (i := 3) (N := some 67) (v := ?_) (a' := ?_) #[true, false, true, true, false, false, false, false, false, false, false] rfl rfl (any_of HT_.out (by kernel_rfl)) (fun _ _ _ h => h) (Or.inl ⟨by rfl, ?_⟩) ?_ ?_
                 rotate_left
                 ·intro w'
                  go_simp
                  with_reducible rfl
                 rotate_left
                 ·simp only [Act.put, List.setIfInBounds_toArray, List.set_cons_zero, List.set_cons_succ, i64_w, i32_w]
                  rfl
                 refine pure_ (i := 4) (N := some 68) (v := ?_) (a' := ?_) #[true, false, true, true, true, false, false, false, false, false, false] rfl rfl (any_of HT_.out (by kernel_rfl)) (fun _ _ _ h => h) (Or.inl ⟨by rfl, ?_⟩) ?_ ?_
                 rotate_left
                 ·intro w'
                  go_simp
                  with_reducible rfl
                 rotate_left
                 ·simp only [Act.put, List.setIfInBounds_toArray, List.set_cons_zero, List.set_cons_succ, i64_w, i32_w]
                  rfl
                 refine pure_ (i := 5) (N := some 69) (v := ?_) (a' := ?_) #[true, false, true, true, true, true, false, false, false, false, false] rfl rfl (any_of HT_.out (by kernel_rfl)) (fun _ _ _ h => h) (Or.inl ⟨by rfl, ?_⟩) ?_ ?_
                 rotate_left
                 ·intro w'
                  go_simp
                  with_reducible rfl
                 rotate_left
                 ·simp only [Act.put, List.setIfInBounds_toArray, List.set_cons_zero, List.set_cons_succ, i64_w, i32_w]
                  rfl
                 refine take_ (i := 1) (N := some 65) (v := ?_) (a' := ?_) #[true, true, true, true, true, true, false, false, false, false, false] rfl rfl (take_ofW HT_.out HW_.out (by kernel_rfl)) (fun _ _ _ h => h) (Or.inl ⟨by rfl, ?_⟩) hHeld ?_ ?_
                 rotate_left
                 ·rintro w' ⟨⟨s0, s1⟩, sB_⟩
                  go_simp
                  with_reducible rfl
                 rotate_left
                 ·simp only [Act.put, List.setIfInBounds_toArray, List.set_cons_zero, List.set_cons_succ, i64_w, i32_w]
                  rfl
                 refine one_ (i := 6) (N := some 70) #[true, true, true, true, true, true, true, false, false, false, false] rfl rfl (one_of HT_.out (by kernel_rfl)) (by decide) (fun K hK => ?_)
                 refine goes_ Try.func49 (by kernel_rfl) rfl #[.slice A46 y239.length c46] (by rfl) rfl rfl (by (try simp only [List.map_toArray, List.map_cons, List.map_nil]); first | done | rfl) ?_
                 with_reducible refine (slices_Clone_byte_byte.calls _ _ y239 t243 _ ?side1 ?side2 A35.out).mono ?_
                 (case side1 => repeat (first | exact (by repeat (first | (with_reducible exact HR242.out) | (with_reducible refine Kd.C_alloc ?_ _) | (with_reducible refine Kd.C_drewN ?_ _) | (with_reducible refine Kd.C_drew ?_) | exact HR242.out)) | (with_reducible refine Kd.C_alloc ?_ _) | (with_reducible refine Kd.C_drewN ?_ _) | (with_reducible refine Kd.C_drew ?_)))
                 (case side2 => exact HC242.out)
                 rintro e w47 ⟨v244, rfl, ho0, hb⟩
                 refine ⟨_, rfl, ?_⟩
                 have n0_ := Aside0.mk (Kd.R_elder' (Kd.rup HO_5.out) (Kd.R_base ho0) hb)
                 have n1_ := Aside0.mk (Kd.S_elder' (by (with_reducible repeat (first | apply Kd.S_alloc | apply Kd.S_drewN | apply Kd.S_drew)); exact HO_226001.out) (Kd.R_base ho0) hb)
                 have n2_ := Aside0.mk (Kd.R_lower (Kd.R_new' ho0 (Kd.R_lt (Kd.rup HO_5.out))) (below_size (by with_reducible repeat (first | exact HB.out | refine h4 ?_ GE224.out | refine h4 ?_ GE225.out | refine h4 ?_ GE228.out | refine h4 ?_ GE229.out | apply h1 | apply h2 | apply h3))))
                 have n3_ := Aside0.mk (blk_below (g := gb224) (o := .cells #[.int .i64 x225000_1, .slice none 0 0] 27 (0, 0)) (bup BK224.out) hb)
                 have n4_ := Aside0.mk (blk_below (g := gb225) (o := .cells #[.int .i64 t226, u226001] 27 (0, 0)) (bup BK225.out) hb)
                 have n5_ := Aside0.mk (blk_below (g := gb228) (o := .cells #[.slice (some ad234) y231.length co23] 36 (0, 0)) (bup BK228.out) hb)
                 have n6_ := Aside0.mk (blk_below (g := gb229) (o := .deferred (some [])) (bup BK229.out) hb)
                 have n7_ := Aside0.mk (Kd.C_below (by repeat (first | (with_reducible exact HR242.out) | (with_reducible refine Kd.C_alloc ?_ _) | (with_reducible refine Kd.C_drewN ?_ _) | (with_reducible refine Kd.C_drew ?_) | exact HR242.out)) hb)
                 have n8_ := Aside0.mk (below_step (by with_reducible repeat (first | exact HB.out | refine h4 ?_ GE224.out | refine h4 ?_ GE225.out | refine h4 ?_ GE228.out | refine h4 ?_ GE229.out | apply h1 | apply h2 | apply h3)) hb)
                 clear HO_5
                 clear HO_226001
                 clear BK224
                 clear BK225
                 clear BK228
                 clear BK229
                 clear HR242
                 clear HB
                 have HO_5 := n0_
                 have HO_226001 := n1_
                 have HO245 := n2_
                 have BK224 := n3_
                 have BK225 := n4_
                 have BK228 := n5_
                 have BK229 := n6_
                 have HR242 := n7_
                 have HB := n8_
                 clear n0_ n1_ n2_ n3_ n4_ n5_ n6_ n7_ n8_
                 (try clear hb)
                 (try clear hb2)
                 (try clear hk)
                 (try clear hi)
                 (try clear ho0)
                 obtain ⟨Ao49, co49, eo49⟩ := Kd.R_slice HO245.out
                 (first | subst eo49 | (injection eo49 with f1_ f2_ f3_; have f4_ := f1_.symm; have f5_ := f3_.symm; clear f1_ f2_ f3_; subst f4_; subst f5_))
                 refine hK.out _ _ ⟨(blk_cells2 BK225.out), cell_of_block BK228.out⟩ (fun hHeld => ?_)
                 clear hK K
                 refine norm_ (a' := ?_) ?_ ?_
                 rotate_left
                 ·show Act.put _ (some 70) _ = _
                  simp only [Act.put, List.setIfInBounds_toArray, List.set_cons_zero, List.set_cons_succ, i64_w, i32_w]
                  rfl
                 refine one_ (i := 7) (N := some 71) #[true, true, true, true, true, true, true, true, false, false, false] rfl rfl (one_of HT_.out (by kernel_rfl)) (by decide) (fun K hK => ?_)
                 refine value_ (w1 := ?_) (v := ?_) (by rfl) rfl ?_ ?_
                 rotate_left 2
                 ·go_simp
                  constructor
                  ·rfl
                  ·rfl
                 refine hK.out _ _ ⟨⟨(blk_cell (blk_alloc BK225.out _) 0).trans rfl, (blk_cell (blk_alloc BK225.out _) 1).trans rfl⟩, cell_of_block (blk_alloc BK228.out _)⟩ (fun hHeld => ?_)
                 clear hK K
                 refine norm_ (a' := ?_) ?_ ?_
                 rotate_left
                 ·show Act.put _ (some 71) _ = _
                  simp only [Act.put, List.setIfInBounds_toArray, List.set_cons_zero, List.set_cons_succ, i64_w, i32_w]
                  rfl
                 refine one_ (i := 8) (N := some 72) #[true, true, true, true, true, true, true, true, true, false, false] rfl rfl (one_of HT_.out (by kernel_rfl)) (by decide) (fun K hK => ?_)
                 refine Kd.S_append_step (Kd.slice 5 (Kd.int .u8)) (w0 := w) w.heap.size (by rfl) (.tmp 65) (.tmp 71) 22 36 (.slice none 0 0) 24 rfl Try.underlying22 info36 rfl (by decide) (by omega) u226001 x226001_1 t243 [.slice Ao49 t243.length co49] (fun k_ => (some k_ ≠ (.slice (some ad234) y231.length co23 : Value).ownBlock ∧ k_ ≠ gb228)) (fun k_ => some k_ = (.slice Ao49 t243.length co49 : Value).ownBlock) rfl rfl ?aP (fun k_ hk_ => ((Kd.R_mono (ok' := fun k_ => ((fun k_ => (some k_ ≠ (.slice (some ad234) y231.length co23 : Value).ownBlock ∧ k_ ≠ gb228))) k_ ∧ some k_ ≠ (u226001 : Value).ownBlock) (Kd.R_apart' (Kd.R_types HO245.out BK228.out (by decide)) (Kd.S_typed HO_226001.out) (by decide)) (fun k_ hk => ⟨⟨hk.1.1.2, hk.1.2⟩, hk.2⟩))).1 k_ hk_.symm) ?aF ?aO ?aB ?aS ?aL ?_
                 (case aP => exact Kd.M_row (Kd.R_mono (Kd.R_tight rfl (Kd.R_mono (ok' := fun k_ => ((fun k_ => (some k_ ≠ (.slice (some ad234) y231.length co23 : Value).ownBlock ∧ k_ ≠ gb228))) k_ ∧ some k_ ≠ (u226001 : Value).ownBlock) (Kd.R_apart' (Kd.R_types HO245.out BK228.out (by decide)) (Kd.S_typed HO_226001.out) (by decide)) (fun k_ hk => ⟨⟨hk.1.1.2, hk.1.2⟩, hk.2⟩))) (fun _ h_ => h_)))
                 (case aB => exact (by with_reducible repeat (first | exact HB.out | refine h4 ?_ GE224.out | refine h4 ?_ GE225.out | refine h4 ?_ GE228.out | refine h4 ?_ GE229.out | apply h1 | apply h2 | apply h3)))
                 (case aF => exact (fun k_ hk => ⟨Kd.fresh' (Kd.R_lt (Kd.rup HO_5.out)) k_ hk, Kd.freshB (g := gb228) (o := .cells #[.slice (some ad234) y231.length co23] 36 (0, 0)) (bup BK228.out) k_ hk⟩))
                 (case aO => exact (by (with_reducible repeat (first | apply Kd.S_alloc | apply Kd.S_drewN | apply Kd.S_drew)); exact Kd.S_mono HO_226001.out (fun k_ hk => ⟨hk.1, fun e_ => hk.2 e_⟩)))
                 (case aS => exact (below_size (by with_reducible repeat (first | exact HB.out | refine h4 ?_ GE224.out | refine h4 ?_ GE225.out | refine h4 ?_ GE228.out | refine h4 ?_ GE229.out | apply h1 | apply h2 | apply h3))))
                 (case aL => have := LMc36.out; omega)
                 intro v247 w48 ho hb hg hat
                 rw [← Ny246.out] at ho
                 have n0_ := Aside0.mk (Kd.R_over' (Kd.rup HO_5.out) (Kd.S_typed (by (with_reducible repeat (first | apply Kd.S_alloc | apply Kd.S_drewN | apply Kd.S_drew)); exact HO_226001.out)) (by decide) hg)
                 have n1_ := Aside0.mk (blk_grown (g := gb224) (o := .cells #[.int .i64 x225000_1, .slice none 0 0] 27 (0, 0)) (bup BK224.out) hg (Kd.S_ne HO_226001.out BK224.out (by decide)))
                 have n2_ := Aside0.mk (blk_grown (g := gb225) (o := .cells #[.int .i64 t226, u226001] 27 (0, 0)) (bup BK225.out) hg (Kd.S_ne HO_226001.out BK225.out (by decide)))
                 have n3_ := Aside0.mk (blk_grown (g := gb228) (o := .cells #[.slice (some ad234) y231.length co23] 36 (0, 0)) (bup BK228.out) hg (Kd.S_away HO_226001.out (fun _ hk => hk.1.2)))
                 have n4_ := Aside0.mk (blk_grown (g := gb229) (o := .deferred (some [])) (bup BK229.out) hg (S_ne_mark HO_226001.out BK229.out rfl))
                 have n5_ := Aside0.mk (hb)
                 have n6_ := Aside0.mk ((show Kd.C (Kd.int .u8) w48 A46 y239.length y239 from by rw [Ny239.out, KA46.out]; exact Kd.C_mid (lo := (x8_1 : Int).toNat) (hi := ((wrap64 (x8_1 + (wrap64 (rd y231 (ji27))))) : Int).toNat) (c := co23) ((Kd.R_reads' (Kd.R_over' (Kd.rup HO_5.out) (Kd.S_typed (by (with_reducible repeat (first | apply Kd.S_alloc | apply Kd.S_drewN | apply Kd.S_drew)); exact HO_226001.out)) (by decide) hg)).2.2) KM46.out KL46.out ((Kd.R_reads' (Kd.R_over' (Kd.rup HO_5.out) (Kd.S_typed (by (with_reducible repeat (first | apply Kd.S_alloc | apply Kd.S_drewN | apply Kd.S_drew)); exact HO_226001.out)) (by decide) hg)).2.1)))
                 have n7_ := Aside0.mk (ho)
                 clear HO_5
                 clear BK224
                 clear BK225
                 clear BK228
                 clear BK229
                 clear HB
                 clear HR242
                 clear HO_226001
                 clear HO245
                 have HO_5 := n0_
                 have BK224 := n1_
                 have BK225 := n2_
                 have BK228 := n3_
                 have BK229 := n4_
                 have HB := n5_
                 have HR242 := n6_
                 have HO248 := n7_
                 clear n0_ n1_ n2_ n3_ n4_ n5_ n6_ n7_
                 clear ho hb hg hat
                 obtain ⟨Ao50, co50, eo50⟩ := Kd.S_slice HO248.out
                 (first | subst eo50 | (injection eo50 with f1_ f2_ f3_; have f4_ := f1_.symm; have f5_ := f3_.symm; clear f1_ f2_ f3_; subst f4_; subst f5_))
                 refine hK.out _ _ ⟨(blk_cells2 BK225.out), cell_of_block BK228.out⟩ (fun hHeld => ?_)
                 clear hK K
                 refine norm_ (a' := ?_) ?_ ?_
                 rotate_left
                 ·show Act.put _ (some 72) _ = _
                  simp only [Act.put, List.setIfInBounds_toArray, List.set_cons_zero, List.set_cons_succ, i64_w, i32_w]
                  rfl
                 refine pure_ (i := 9) (N := some 73) (v := ?_) (a' := ?_) #[true, true, true, true, true, true, true, true, true, true, false] rfl rfl (any_of HT_.out (by kernel_rfl)) (fun _ _ _ h => h) (Or.inl ⟨by rfl, ?_⟩) ?_ ?_
                 rotate_left
                 ·intro w'
                  go_simp
                  with_reducible rfl
                 rotate_left
                 ·simp only [Act.put, List.setIfInBounds_toArray, List.set_cons_zero, List.set_cons_succ, i64_w, i32_w]
                  rfl
                 refine last_ (i := 10) (N := none) #[true, true, true, true, true, true, true, true, true, true, true] rfl rfl (one_of HT_.out (by kernel_rfl)) (by decide) (fun K hK => ?_)
                 have hs51 : w48.cell? ⟨gb225, 1, none⟩ = some (u226001) := (blk_cell BK225.out 1).trans rfl
                 have hfs51 := blk_frozen BK225.out 1
                 have hns51_0 := NB224_225.out
                 have hns51_2 := NB228_225.out
                 have hns51_3 := NB229_225.out
                 have hms51_0 := NB225_224.out
                 have hms51_2 := NB225_228.out
                 have hms51_3 := NB225_229.out
                 refine skip_ (w1 := ?_) (by rfl) rfl ?_ ?_
                 rotate_left
                 ·go_simp
                  rfl
                 refine hK.out _ _ ?_
                 clear hK K
                 refine done_ (done_of HT_.out (by kernel_rfl)) ?_
                 try go_wp2
                 go_roundg k1
                 case measure => have := HK1.out; omega
                 case rel => exact ⟨(wrap64 (x8_1 + (wrap64 (rd y231 (ji27))))), (wrap64 (x35_1 + 1)), (x225000_1), (y246), (.slice Ao50 y246.length co50), (by first | rfl | (simp; done) | (simp only [← hji27] <;> (first | rfl | simp)) | (simp [*]; done)), (by first | rfl | (simp; done) | (simp [*]; done)), H', ⟨by have := HK1.out; omega⟩, ⟨by exact Kd.rup (Kd.R_mono (Kd.R_far (p := ⟨gb225, 1, none⟩) (Kd.R_types HO_5.out BK225.out (by decide)) (fun _ hk => hk.2) (.slice Ao50 y246.length co50)) (fun _ hk => trivial))⟩, ⟨by (with_reducible repeat (first | apply Kd.S_alloc | apply Kd.S_drewN | apply Kd.S_drew)); exact Kd.S_mono (Kd.S_far (p := ⟨gb225, 1, none⟩) (Kd.S_types HO248.out BK225.out (by decide)) (fun _ hk => hk.2) (.slice Ao50 y246.length co50)) (fun _ hk => hk.1)⟩, ⟨by (with_reducible repeat (first | refine b1 ?_ _ | refine b2 ?_ | refine b3 ?_ _)); refine blk_far ?_ NB224_225.out _; exact bup BK224.out⟩, ⟨by (with_reducible repeat (first | refine b1 ?_ _ | refine b2 ?_ | refine b3 ?_ _)); refine blk_put (cs := #[.int .i64 t226, u226001]) ?_ 1 _ rfl; exact bup BK225.out⟩, ⟨by (with_reducible repeat (first | refine b1 ?_ _ | refine b2 ?_ | refine b3 ?_ _)); refine blk_far ?_ NB228_225.out _; exact bup BK228.out⟩, ⟨by (with_reducible repeat (first | refine b1 ?_ _ | refine b2 ?_ | refine b3 ?_ _)); refine blk_farO ?_ NB229_225.out _; exact bup BK229.out⟩, ⟨by with_reducible repeat (first | exact HB.out | refine h4 ?_ GE224.out | refine h4 ?_ GE225.out | refine h4 ?_ GE228.out | refine h4 ?_ GE229.out | apply h1 | apply h2 | apply h3)⟩⟩
                ·rw [if_neg c36] at H
                 exact absurd H (by simp)
               ·rw [if_neg c34] at H
                exact absurd H (by simp)
              ·rw [if_neg c33] at H
               exact absurd H (by simp)
             ·rw [if_neg c32] at H
              exact absurd H (by simp)
            ·replace c31 := Bool.eq_false_iff.mpr c31
             subst c31
             have H1 : (some (0, ([] : List (List Int)), false)) = some (r1, r2, r3) := by rw [if_neg (show ¬ (false = true) by decide)] at H; exact H
             clear H
             have H := H1
             clear H1
             simp only [Option.some.injEq, Prod.mk.injEq] at H
             obtain ⟨rfl, rfl, rfl⟩ := H
             try go_wp2
             have n0_ := Aside0.mk (Kd.R_drew HO_5.out)
             have n1_ := Aside0.mk (Kd.S_drew HO_226001.out)
             have n2_ := Aside0.mk (blk_drew BK224.out)
             have n3_ := Aside0.mk (blk_drew BK225.out)
             have n4_ := Aside0.mk (blk_drew BK228.out)
             have n5_ := Aside0.mk (blk_drew BK229.out)
             have n6_ := Aside0.mk (below_drew1 HB.out)
             clear HO_5
             clear HO_226001
             clear BK224
             clear BK225
             clear BK228
             clear BK229
             clear HB
             have HO_5 := n0_
             have HO_226001 := n1_
             have BK224 := n2_
             have BK225 := n3_
             have BK228 := n4_
             have BK229 := n5_
             have HB := n6_
             clear n0_ n1_ n2_ n3_ n4_ n5_ n6_
             have p236 : 0 ≤ ((ji27) : Int) := of_decide_eq_true (by first | (with_reducible assumption) | assumption)
             have q236 : (ji27) < (y231.length : Int) := of_decide_eq_true (by first | (with_reducible assumption) | assumption)
             obtain ⟨ad236, e236, hx236_0⟩ := Kd.at_int (Kd.R_reads' HO_5.out).2.2 (ji27) p236 q236
             obtain rfl : ad234 = ad236 := (by injection e236)
             replace p236 := eq_true p236
             replace q236 := eq_true q236
             refine start_ (n := 17) (S := fun w' => (w'.cell? (ad234.add ((ji27)).toNat) = some (.int .u8 (rd y231 (ji27)))) ∧ w'.cell? ⟨gb228, 0, none⟩ = some (.slice (some ad234) y231.length co23)) (ds := []) #[false, false, false, false, false, false, false, false, false, false, false, false, false, false, false, false, false] (by kernel_rfl) rfl rfl ⟨(hx236_0), cell_of_block (blk_drew BK228.out)⟩ (fun hHeld => ?_); refine with_tabW impl_PageRead.tab14 impl_PageRead.bits14 (fun HT_ HW_ => ?_)
             generalize wr.drew = w52 at HO_5 HO_226001 BK224 BK225 BK228 BK229 HB hx236_0 hHeld ⊢
             refine take_ (i := 0) (N := some 38) (v := ?_) (a' := ?_) #[true, false, false, false, false, false, false, false, false, false, false, false, false, false, false, false, false] rfl rfl (take_of HT_.out (by kernel_rfl)) (fun _ _ _ h => h) (Or.inl ⟨by rfl, ?_⟩) hHeld ?_ ?_
             rotate_left
             ·rintro w' ⟨_, sB_⟩
              go_simp
              with_reducible rfl
             rotate_left
             ·simp only [Act.put, List.setIfInBounds_toArray, List.set_cons_zero, List.set_cons_succ, i64_w, i32_w]
              rfl
             refine pure_ (i := 1) (N := some 39) (v := ?_) (a' := ?_) #[true, true, false, false, false, false, false, false, false, false, false, false, false, false, false, false, false] rfl rfl (any_of HT_.out (by kernel_rfl)) (fun _ _ _ h => h) (Or.inl ⟨by rfl, ?_⟩) ?_ ?_
             rotate_left
             ·intro w'
              go_simp
              with_reducible rfl
             rotate_left
             ·simp only [Act.put, List.setIfInBounds_toArray, List.set_cons_zero, List.set_cons_succ, i64_w, i32_w]
              rfl
             refine pure_ (i := 2) (N := some 40) (v := ?_) (a' := ?_) #[true, true, true, false, false, false, false, false, false, false, false, false, false, false, false, false, false] rfl rfl (any_of HT_.out (by kernel_rfl)) (fun _ _ _ h => h) (Or.inl ⟨by rfl, ?_⟩) ?_ ?_
             rotate_left
             ·intro w'
              go_simp
              with_reducible rfl
             rotate_left
             ·simp only [Act.put, List.setIfInBounds_toArray, List.set_cons_zero, List.set_cons_succ, i64_w, i32_w]
              rfl
             refine one_ (i := 3) (N := some 41) #[true, true, true, true, false, false, false, false, false, false, false, false, false, false, false, false, false] rfl rfl (one_of HT_.out (by kernel_rfl)) (by decide) (fun K hK => ?_)
             refine goes_ Try.func55 (by kernel_rfl) rfl #[.slice (some ad234) y231.length co23, .int .i64 ji27, .int .i64 1] (by rfl) rfl rfl (by (try simp only [List.map_toArray, List.map_cons, List.map_nil]); first | done | (simp only [hji27]; rfl) | rfl | (simp only [List.length_drop, List.length_take]; rfl)) ?_
             with_reducible refine (impl_hasBytes.calls _ _ y231 ji27 1 true _ ?side1 ?side2 A25.out).mono ?_
             (case side1 => repeat (first | exact (Kd.R_reads' HO_5.out).2.2 | (with_reducible refine Kd.C_alloc ?_ _) | (with_reducible refine Kd.C_drewN ?_ _) | (with_reducible refine Kd.C_drew ?_)))
             (case side2 => exact (Kd.R_reads' HO_5.out).2.1)
             rintro e w' ⟨rfl, ⟨nd, rfl⟩⟩
             refine ⟨_, rfl, ?_⟩
             refine hK.out _ _ (hHeld) (fun hHeld => ?_)
             clear hK K
             refine norm_ (a' := ?_) ?_ ?_
             rotate_left
             ·show Act.put _ (some 41) _ = _
              simp only [Act.put, List.setIfInBounds_toArray, List.set_cons_zero, List.set_cons_succ, i64_w, i32_w]
              rfl
             refine pure_ (i := 4) (N := some 42) (v := ?_) (a' := ?_) #[true, true, true, true, true, false, false, false, false, false, false, false, false, false, false, false, false] rfl rfl (any_of HT_.out (by kernel_rfl)) (fun _ _ _ h => h) (Or.inl ⟨by rfl, ?_⟩) ?_ ?_
             rotate_left
             ·intro w'
              go_simp
              with_reducible rfl
             rotate_left
             ·simp only [Act.put, List.setIfInBounds_toArray, List.set_cons_zero, List.set_cons_succ, i64_w, i32_w]
              rfl
             refine pure_ (i := 5) (N := some 43) (v := ?_) (a' := ?_) #[true, true, true, true, true, true, false, false, false, false, false, false, false, false, false, false, false] rfl rfl (any_of HT_.out (by kernel_rfl)) (fun _ _ _ h => h) (Or.inl ⟨by rfl, ?_⟩) ?_ ?_
             rotate_left
             ·intro w'
              go_simp
              with_reducible rfl
             rotate_left
             ·simp only [Act.put, List.setIfInBounds_toArray, List.set_cons_zero, List.set_cons_succ, i64_w, i32_w]
              rfl
             refine take_ (i := 6) (N := some 44) (v := ?_) (a' := ?_) #[true, true, true, true, true, true, true, false, false, false, false, false, false, false, false, false, false] rfl rfl (take_of HT_.out (by kernel_rfl)) (fun _ _ _ h => h) (Or.inl ⟨by rfl, ?_⟩) hHeld ?_ ?_
             rotate_left
             ·rintro w' ⟨_, sB_⟩
              go_simp
              with_reducible rfl
             rotate_left
             ·simp only [Act.put, List.setIfInBounds_toArray, List.set_cons_zero, List.set_cons_succ, i64_w, i32_w]
              rfl
             refine pure_ (i := 7) (N := some 45) (v := ?_) (a' := ?_) #[true, true, true, true, true, true, true, true, false, false, false, false, false, false, false, false, false] rfl rfl (any_of HT_.out (by kernel_rfl)) (fun _ _ _ h => h) (Or.inl ⟨by rfl, ?_⟩) ?_ ?_
             rotate_left
             ·intro w'
              go_simp
              with_reducible rfl
             rotate_left
             ·simp only [Act.put, List.setIfInBounds_toArray, List.set_cons_zero, List.set_cons_succ, i64_w, i32_w]
              rfl
             refine take_ (i := 8) (N := some 46) (v := ?_) (a' := ?_) #[true, true, true, true, true, true, true, true, true, false, false, false, false, false, false, false, false] rfl rfl (take_of HT_.out (by kernel_rfl)) (fun _ _ _ h => h) (Or.inl ⟨by rfl, ?_⟩) hHeld ?_ ?_
             rotate_left
             ·rintro w' ⟨_, sB_⟩
              go_simp
              with_reducible rfl
             rotate_left
             ·simp only [Act.put, List.setIfInBounds_toArray, List.set_cons_zero, List.set_cons_succ, i64_w, i32_w]
              rfl
             refine pure_ (i := 9) (N := some 47) (v := ?_) (a' := ?_) #[true, true, true, true, true, true, true, true, true, true, false, false, false, false, false, false, false] rfl rfl (any_of HT_.out (by kernel_rfl)) (fun _ _ _ h => h) (Or.inl ⟨by rfl, ?_⟩) ?_ ?_
             rotate_left
             ·intro w'
              go_simp
              with_reducible rfl
             rotate_left
             ·simp only [Act.put, List.setIfInBounds_toArray, List.set_cons_zero, List.set_cons_succ, i64_w, i32_w]
              rfl
             refine pure_ (i := 10) (N := some 48) (v := ?_) (a' := ?_) #[true, true, true, true, true, true, true, true, true, true, true, false, false, false, false, false, false] rfl rfl (any_of HT_.out (by kernel_rfl)) (fun _ _ _ h => h) (Or.inl ⟨by rfl, ?_⟩) ?_ ?_
             rotate_left
             ·intro w'
              go_simp
              with_reducible rfl
             rotate_left
             ·simp only [Act.put, List.setIfInBounds_toArray, List.set_cons_zero, List.set_cons_succ, i64_w, i32_w]
              rfl
             refine pure_ (i := 11) (N := some 49) (v := ?_) (a' := ?_) #[true, true, true, true, true, true, true, true, true, true, true, true, false, false, false, false, false] rfl rfl (any_of HT_.out (by kernel_rfl)) (fun _ _ _ h => h) (Or.inl ⟨by rfl, ?_⟩) ?_ ?_
             rotate_left
             ·intro w'
              go_simp
              with_reducible rfl
             rotate_left
             ·simp only [Act.put, List.setIfInBounds_toArray, List.set_cons_zero, List.set_cons_succ, i64_w, i32_w]
              rfl
             refine take_ (i := 12) (N := some 50) (v := ?_) (a' := ?_) #[true, true, true, true, true, true, true, true, true, true, true, true, true, false, false, false, false] rfl rfl (take_ofW HT_.out HW_.out (by kernel_rfl)) (fun _ _ _ h => h) (Or.inl ⟨by rfl, ?_⟩) hHeld ?_ ?_
             rotate_left
             ·rintro w' ⟨s0, sB_⟩
              go_simp
              with_reducible rfl
             rotate_left
             ·simp only [Act.put, List.setIfInBounds_toArray, List.set_cons_zero, List.set_cons_succ, i64_w, i32_w]
              rfl
             refine pure_ (i := 13) (N := some 51) (v := ?_) (a' := ?_) #[true, true, true, true, true, true, true, true, true, true, true, true, true, true, false, false, false] rfl rfl (any_of HT_.out (by kernel_rfl)) (fun _ _ _ h => h) (Or.inl ⟨by rfl, ?_⟩) ?_ ?_
             rotate_left
             ·intro w'
              go_simp
              with_reducible rfl
             rotate_left
             ·simp only [Act.put, List.setIfInBounds_toArray, List.set_cons_zero, List.set_cons_succ, i64_w, i32_w]
              rfl
             refine one_ (i := 14) (N := some 52) #[true, true, true, true, true, true, true, true, true, true, true, true, true, true, true, false, false] rfl rfl (one_of HT_.out (by kernel_rfl)) (by decide) (fun K hK => ?_)
             refine goes_ Try.func55 (by kernel_rfl) rfl #[.slice (some ad234) y231.length co23, .int .i64 x8_1, .int .i64 (wrap64 (rd y231 (ji27)))] (by rfl) rfl rfl (by (try simp only [List.map_toArray, List.map_cons, List.map_nil]); first | done | (simp only [hji27]; rfl) | rfl | (simp only [List.length_drop, List.length_take]; rfl)) ?_
             with_reducible refine (impl_hasBytes.calls _ _ y231 x8_1 (wrap64 (rd y231 (ji27))) false _ ?side1 ?side2 A30.out).mono ?_
             (case side1 => repeat (first | exact (Kd.R_reads' HO_5.out).2.2 | (with_reducible refine Kd.C_alloc ?_ _) | (with_reducible refine Kd.C_drewN ?_ _) | (with_reducible refine Kd.C_drew ?_)))
             (case side2 => exact (Kd.R_reads' HO_5.out).2.1)
             rintro e w' ⟨rfl, ⟨nd, rfl⟩⟩
             refine ⟨_, rfl, ?_⟩
             refine hK.out _ _ (hHeld) (fun hHeld => ?_)
             clear hK K
             refine norm_ (a' := ?_) ?_ ?_
             rotate_left
             ·show Act.put _ (some 52) _ = _
              simp only [Act.put, List.setIfInBounds_toArray, List.set_cons_zero, List.set_cons_succ, i64_w, i32_w]
              rfl
             refine pure_ (i := 15) (N := some 53) (v := ?_) (a' := ?_) #[true, true, true, true, true, true, true, true, true, true, true, true, true, true, true, true, false] rfl rfl (any_of HT_.out (by kernel_rfl)) (fun _ _ _ h => h) (Or.inl ⟨by rfl, ?_⟩) ?_ ?_
             rotate_left
             ·intro w'
              go_simp
              with_reducible rfl
             rotate_left
             ·simp only [Act.put, List.setIfInBounds_toArray, List.set_cons_zero, List.set_cons_succ, i64_w, i32_w]
              rfl
             refine pure_ (i := 16) (N := some 54) (v := ?_) (a' := ?_) #[true, true, true, true, true, true, true, true, true, true, true, true, true, true, true, true, true] rfl rfl (any_of HT_.out (by kernel_rfl)) (fun _ _ _ h => h) (Or.inl ⟨by rfl, ?_⟩) ?_ ?_
             rotate_left
             ·intro w'
              go_simp
              with_reducible rfl
             rotate_left
             ·simp only [Act.put, List.setIfInBounds_toArray, List.set_cons_zero, List.set_cons_succ, i64_w, i32_w]
              rfl
             refine done_ (done_of HT_.out (by kernel_rfl)) ?_
             have hnb53 := NB228_224.out
             have hnc53 := NB224_228.out
             have hnb54 := NB228_225.out
             have hnc54 := NB225_228.out
             have hnb55 := NB228_229.out
             have hnc55 := NB229_228.out
             have hcz56_0 := cell_of_block BK228.out
             have hfz56_0 := blk_frozen BK228.out 0
             have hnb57 := NB229_224.out
             have hnc57 := NB224_229.out
             have hnb58 := NB229_225.out
             have hnc58 := NB225_229.out
             have hnb60 := NB224_225.out
             have hnc60 := NB225_224.out
             obtain ⟨hcz61_0, hcz61_1⟩ := blk_cells2 BK224.out
             obtain ⟨hfz61_0, hfz61_1⟩ := blk_frozens2 BK224.out
             try go_wp2
             (try simp only [Exit.inBlock, Exit.then]); refine bodyPostQ_mark rfl (by (with_reducible repeat (first | refine b1 ?_ _ | refine b2 ?_ | refine b3 ?_ _)); refine blk_farO ?_ NB229_224.out _; (with_reducible repeat (first | refine b1 ?_ _ | refine b2 ?_ | refine b3 ?_ _)); refine blk_farO ?_ NB229_224.out _; exact bup BK229.out) (results_ct rfl _ _ gb224 27 #[.int .i64 0, .slice none 0 0] (0, 0) _ rfl (blk_putObj (by (with_reducible repeat (first | refine b1 ?_ _ | refine b2 ?_ | refine b3 ?_ _)); refine blk_put (cs := #[.int .i64 0, .slice none 0 0]) ?_ 1 _ rfl; (with_reducible repeat (first | refine b1 ?_ _ | refine b2 ?_ | refine b3 ?_ _)); refine blk_put (cs := #[.int .i64 x225000_1, .slice none 0 0]) ?_ 0 _ rfl; exact bup BK224.out) NB224_229.out) Try.underlying27 rfl (by kernel_rfl)) ?_
             exact ⟨_, by first | rfl | (simp [errW_none, errW_some] <;> rfl) | (simp only [← hji27]; first | rfl | (simp [errW_none, errW_some] <;> rfl)) | (simp [*, errW_none, errW_some] <;> rfl), by first | exact Kd.S_nil _ _ _ _ _ | exact Kd.N_nil _ _ _ _ _ | exact Kd.V_nil _ _ _ _ _ | exact Kd.Q_nil _ _ _ _ _ | exact Kd.R_nil _ _ _ _ _, below_put (o := .deferred (some [])) (by with_reducible repeat (first | exact HB.out | refine h4 ?_ GE224.out | refine h4 ?_ GE225.out | refine h4 ?_ GE228.out | refine h4 ?_ GE229.out | apply h1 | apply h2 | apply h3)) (by (with_reducible repeat (first | refine b1 ?_ _ | refine b2 ?_ | refine b3 ?_ _)); refine blk_farO ?_ NB229_224.out _; (with_reducible repeat (first | refine b1 ?_ _ | refine b2 ?_ | refine b3 ?_ _)); refine blk_farO ?_ NB229_224.out _; exact bup BK229.out) GW229.out _⟩
           ·rw [if_neg c29] at H
            exact absurd H (by simp)
          ·rw [if_neg c28] at H
           exact absurd H (by simp)
         ·replace c26 := Bool.eq_false_iff.mpr c26
          subst c26
          have H1 : (some (0, ([] : List (List Int)), false)) = some (r1, r2, r3) := by rw [if_neg (show ¬ (false = true) by decide)] at H; exact H
          clear H
          have H := H1
          clear H1
          simp only [Option.some.injEq, Prod.mk.injEq] at H
          obtain ⟨rfl, rfl, rfl⟩ := H
          try go_wp2
          have n0_ := Aside0.mk (Kd.R_drew HO_5.out)
          have n1_ := Aside0.mk (Kd.S_drew HO_226001.out)
          have n2_ := Aside0.mk (blk_drew BK224.out)
          have n3_ := Aside0.mk (blk_drew BK225.out)
          have n4_ := Aside0.mk (blk_drew BK228.out)
          have n5_ := Aside0.mk (blk_drew BK229.out)
          have n6_ := Aside0.mk (below_drew1 HB.out)
          clear HO_5
          clear HO_226001
          clear BK224
          clear BK225
          clear BK228
          clear BK229
          clear HB
          have HO_5 := n0_
          have HO_226001 := n1_
          have BK224 := n2_
          have BK225 := n3_
          have BK228 := n4_
          have BK229 := n5_
          have HB := n6_
          clear n0_ n1_ n2_ n3_ n4_ n5_ n6_
          refine start_ (n := 17) (S := fun w' => (True) ∧ w'.cell? ⟨gb228, 0, none⟩ = some (.slice (some ad234) y231.length co23)) (ds := []) #[false, false, false, false, false, false, false, false, false, false, false, false, false, false, false, false, false] (by kernel_rfl) rfl rfl ⟨trivial, cell_of_block (blk_drew BK228.out)⟩ (fun hHeld => ?_); refine with_tabW impl_PageRead.tab14 impl_PageRead.bits14 (fun HT_ HW_ => ?_)
          generalize wr.drew = w62 at HO_5 HO_226001 BK224 BK225 BK228 BK229 HB hHeld ⊢
          refine take_ (i := 0) (N := some 38) (v := ?_) (a' := ?_) #[true, false, false, false, false, false, false, false, false, false, false, false, false, false, false, false, false] rfl rfl (take_of HT_.out (by kernel_rfl)) (fun _ _ _ h => h) (Or.inl ⟨by rfl, ?_⟩) hHeld ?_ ?_
          rotate_left
          ·rintro w' ⟨_, sB_⟩
           go_simp
           with_reducible rfl
          rotate_left
          ·simp only [Act.put, List.setIfInBounds_toArray, List.set_cons_zero, List.set_cons_succ, i64_w, i32_w]
           rfl
          refine pure_ (i := 1) (N := some 39) (v := ?_) (a' := ?_) #[true, true, false, false, false, false, false, false, false, false, false, false, false, false, false, false, false] rfl rfl (any_of HT_.out (by kernel_rfl)) (fun _ _ _ h => h) (Or.inl ⟨by rfl, ?_⟩) ?_ ?_
          rotate_left
          ·intro w'
           go_simp
           with_reducible rfl
          rotate_left
          ·simp only [Act.put, List.setIfInBounds_toArray, List.set_cons_zero, List.set_cons_succ, i64_w, i32_w]
           rfl
          refine pure_ (i := 2) (N := some 40) (v := ?_) (a' := ?_) #[true, true, true, false, false, false, false, false, false, false, false, false, false, false, false, false, false] rfl rfl (any_of HT_.out (by kernel_rfl)) (fun _ _ _ h => h) (Or.inl ⟨by rfl, ?_⟩) ?_ ?_
          rotate_left
          ·intro w'
           go_simp
           with_reducible rfl
          rotate_left
          ·simp only [Act.put, List.setIfInBounds_toArray, List.set_cons_zero, List.set_cons_succ, i64_w, i32_w]
           rfl
          refine one_ (i := 3) (N := some 41) #[true, true, true, true, false, false, false, false, false, false, false, false, false, false, false, false, false] rfl rfl (one_of HT_.out (by kernel_rfl)) (by decide) (fun K hK => ?_)
          refine goes_ Try.func55 (by kernel_rfl) rfl #[.slice (some ad234) y231.length co23, .int .i64 (wrap64 (1 + x35_1)), .int .i64 1] (by rfl) rfl rfl (by (try simp only [List.map_toArray, List.map_cons, List.map_nil]); first | done | rfl) ?_
          with_reducible refine (impl_hasBytes.calls _ _ y231 (wrap64 (1 + x35_1)) 1 false _ ?side1 ?side2 A25.out).mono ?_
          (case side1 => repeat (first | exact (Kd.R_reads' HO_5.out).2.2 | (with_reducible refine Kd.C_alloc ?_ _) | (with_reducible refine Kd.C_drewN ?_ _) | (with_reducible refine Kd.C_drew ?_)))
          (case side2 => exact (Kd.R_reads' HO_5.out).2.1)
          rintro e w' ⟨rfl, ⟨nd, rfl⟩⟩
          refine ⟨_, rfl, ?_⟩
          refine hK.out _ _ hHeld (fun hHeld => ?_)
          clear hK K
          refine norm_ (a' := ?_) ?_ ?_
          rotate_left
          ·show Act.put _ (some 41) _ = _
           simp only [Act.put, List.setIfInBounds_toArray, List.set_cons_zero, List.set_cons_succ, i64_w, i32_w]
           rfl
          refine pure_ (i := 4) (N := some 42) (v := ?_) (a' := ?_) #[true, true, true, true, true, false, false, false, false, false, false, false, false, false, false, false, false] rfl rfl (any_of HT_.out (by kernel_rfl)) (fun _ _ _ h => h) (Or.inl ⟨by rfl, ?_⟩) ?_ ?_
          rotate_left
          ·intro w'
           go_simp
           with_reducible rfl
          rotate_left
          ·simp only [Act.put, List.setIfInBounds_toArray, List.set_cons_zero, List.set_cons_succ, i64_w, i32_w]
           rfl
          refine pure_ (i := 5) (N := some 43) (v := ?_) (a' := ?_) #[true, true, true, true, true, true, false, false, false, false, false, false, false, false, false, false, false] rfl rfl (any_of HT_.out (by kernel_rfl)) (fun _ _ _ h => h) (Or.inl ⟨by rfl, ?_⟩) ?_ ?_
          rotate_left
          ·intro w'
           go_simp
           with_reducible rfl
          rotate_left
          ·simp only [Act.put, List.setIfInBounds_toArray, List.set_cons_zero, List.set_cons_succ, i64_w, i32_w]
           rfl
          refine pure_ (i := 6) (N := some 44) (v := undef) (a' := ?_) #[true, true, true, true, true, true, true, false, false, false, false, false, false, false, false, false, false] rfl rfl (any_of HT_.out (by kernel_rfl)) (fun _ _ _ h => h) (Or.inr ⟨by rfl, rfl⟩) ?_ ?_
          rotate_left
          ·simp only [Act.put, List.setIfInBounds_toArray, List.set_cons_zero, List.set_cons_succ, i64_w, i32_w]
           rfl
          refine pure_ (i := 7) (N := some 45) (v := undef) (a' := ?_) #[true, true, true, true, true, true, true, true, false, false, false, false, false, false, false, false, false] rfl rfl (any_of HT_.out (by kernel_rfl)) (fun _ _ _ h => h) (Or.inr ⟨by rfl, rfl⟩) ?_ ?_
          rotate_left
          ·simp only [Act.put, List.setIfInBounds_toArray, List.set_cons_zero, List.set_cons_succ, i64_w, i32_w]
           rfl
          refine pure_ (i := 8) (N := some 46) (v := undef) (a' := ?_) #[true, true, true, true, true, true, true, true, true, false, false, false, false, false, false, false, false] rfl rfl (any_of HT_.out (by kernel_rfl)) (fun _ _ _ h => h) (Or.inr ⟨by rfl, rfl⟩) ?_ ?_
          rotate_left
          ·simp only [Act.put, List.setIfInBounds_toArray, List.set_cons_zero, List.set_cons_succ, i64_w, i32_w]
           rfl
          refine pure_ (i := 9) (N := some 47) (v := undef) (a' := ?_) #[true, true, true, true, true, true, true, true, true, true, false, false, false, false, false, false, false] rfl rfl (any_of HT_.out (by kernel_rfl)) (fun _ _ _ h => h) (Or.inr ⟨by rfl, rfl⟩) ?_ ?_
          rotate_left
          ·simp only [Act.put, List.setIfInBounds_toArray, List.set_cons_zero, List.set_cons_succ, i64_w, i32_w]
           rfl
          refine pure_ (i := 10) (N := some 48) (v := undef) (a' := ?_) #[true, true, true, true, true, true, true, true, true, true, true, false, false, false, false, false, false] rfl rfl (any_of HT_.out (by kernel_rfl)) (fun _ _ _ h => h) (Or.inr ⟨by rfl, rfl⟩) ?_ ?_
          rotate_left
          ·simp only [Act.put, List.setIfInBounds_toArray, List.set_cons_zero, List.set_cons_succ, i64_w, i32_w]
           rfl
          refine pure_ (i := 11) (N := some 49) (v := undef) (a' := ?_) #[true, true, true, true, true, true, true, true, true, true, true, true, false, false, false, false, false] rfl rfl (any_of HT_.out (by kernel_rfl)) (fun _ _ _ h => h) (Or.inr ⟨by rfl, rfl⟩) ?_ ?_
          rotate_left
          ·simp only [Act.put, List.setIfInBounds_toArray, List.set_cons_zero, List.set_cons_succ, i64_w, i32_w]
           rfl
          refine pure_ (i := 12) (N := some 50) (v := undef) (a' := ?_) #[true, true, true, true, true, true, true, true, true, true, true, true, true, false, false, false, false] rfl rfl (any_of HT_.out (by kernel_rfl)) (fun _ _ _ h => h) (Or.inr ⟨by rfl, rfl⟩) ?_ ?_
          rotate_left
          ·simp only [Act.put, List.setIfInBounds_toArray, List.set_cons_zero, List.set_cons_succ, i64_w, i32_w]
           rfl
          refine pure_ (i := 13) (N := some 51) (v := undef) (a' := ?_) #[true, true, true, true, true, true, true, true, true, true, true, true, true, true, false, false, false] rfl rfl (any_of HT_.out (by kernel_rfl)) (fun _ _ _ h => h) (Or.inr ⟨by rfl, rfl⟩) ?_ ?_
          rotate_left
          ·simp only [Act.put, List.setIfInBounds_toArray, List.set_cons_zero, List.set_cons_succ, i64_w, i32_w]
           rfl
          refine pure_ (i := 14) (N := some 52) (v := undef) (a' := ?_) #[true, true, true, true, true, true, true, true, true, true, true, true, true, true, true, false, false] rfl rfl (any_of HT_.out (by kernel_rfl)) (fun _ _ _ h => h) (Or.inr ⟨by rfl, rfl⟩) ?_ ?_
          rotate_left
          ·simp only [Act.put, List.setIfInBounds_toArray, List.set_cons_zero, List.set_cons_succ, i64_w, i32_w]
           rfl
          refine pure_ (i := 15) (N := some 53) (v := undef) (a' := ?_) #[true, true, true, true, true, true, true, true, true, true, true, true, true, true, true, true, false] rfl rfl (any_of HT_.out (by kernel_rfl)) (fun _ _ _ h => h) (Or.inr ⟨by rfl, rfl⟩) ?_ ?_
          rotate_left
          ·simp only [Act.put, List.setIfInBounds_toArray, List.set_cons_zero, List.set_cons_succ, i64_w, i32_w]
           rfl
          refine pure_ (i := 16) (N := some 54) (v := ?_) (a' := ?_) #[true, true, true, true, true, true, true, true, true, true, true, true, true, true, true, true, true] rfl rfl (any_of HT_.out (by kernel_rfl)) (fun _ _ _ h => h) (Or.inl ⟨by rfl, ?_⟩) ?_ ?_
          rotate_left
          ·intro w'
           go_simp
           with_reducible rfl
          rotate_left
          ·simp only [Act.put, List.setIfInBounds_toArray, List.set_cons_zero, List.set_cons_succ, i64_w, i32_w]
           rfl
          refine done_ (done_of HT_.out (by kernel_rfl)) ?_
          have hnb63 := NB228_224.out
          have hnc63 := NB224_228.out
          have hnb64 := NB228_225.out
          have hnc64 := NB225_228.out
          have hnb65 := NB228_229.out
          have hnc65 := NB229_228.out
          have hcz66_0 := cell_of_block BK228.out
          have hfz66_0 := blk_frozen BK228.out 0
          have hnb67 := NB229_224.out
          have hnc67 := NB224_229.out
          have hnb68 := NB229_225.out
          have hnc68 := NB225_229.out
          have hnb70 := NB224_225.out
          have hnc70 := NB225_224.out
          obtain ⟨hcz71_0, hcz71_1⟩ := blk_cells2 BK224.out
          obtain ⟨hfz71_0, hfz71_1⟩ := blk_frozens2 BK224.out
          try go_wp2
          (try simp only [Exit.inBlock, Exit.then]); refine bodyPostQ_mark rfl (by (with_reducible repeat (first | refine b1 ?_ _ | refine b2 ?_ | refine b3 ?_ _)); refine blk_farO ?_ NB229_224.out _; (with_reducible repeat (first | refine b1 ?_ _ | refine b2 ?_ | refine b3 ?_ _)); refine blk_farO ?_ NB229_224.out _; exact bup BK229.out) (results_ct rfl _ _ gb224 27 #[.int .i64 0, .slice none 0 0] (0, 0) _ rfl (blk_putObj (by (with_reducible repeat (first | refine b1 ?_ _ | refine b2 ?_ | refine b3 ?_ _)); refine blk_put (cs := #[.int .i64 0, .slice none 0 0]) ?_ 1 _ rfl; (with_reducible repeat (first | refine b1 ?_ _ | refine b2 ?_ | refine b3 ?_ _)); refine blk_put (cs := #[.int .i64 x225000_1, .slice none 0 0]) ?_ 0 _ rfl; exact bup BK224.out) NB224_229.out) Try.underlying27 rfl (by kernel_rfl)) ?_
          exact ⟨_, by first | rfl | (simp [errW_none, errW_some] <;> rfl) | (simp [*, errW_none, errW_some] <;> rfl), by first | exact Kd.S_nil _ _ _ _ _ | exact Kd.N_nil _ _ _ _ _ | exact Kd.V_nil _ _ _ _ _ | exact Kd.Q_nil _ _ _ _ _ | exact Kd.R_nil _ _ _ _ _, below_put (o := .deferred (some [])) (by with_reducible repeat (first | exact HB.out | refine h4 ?_ GE224.out | refine h4 ?_ GE225.out | refine h4 ?_ GE228.out | refine h4 ?_ GE229.out | apply h1 | apply h2 | apply h3)) (by (with_reducible repeat (first | refine b1 ?_ _ | refine b2 ?_ | refine b3 ?_ _)); refine blk_farO ?_ NB229_224.out _; (with_reducible repeat (first | refine b1 ?_ _ | refine b2 ?_ | refine b3 ?_ _)); refine blk_farO ?_ NB229_224.out _; exact bup BK229.out) GW229.out _⟩
        ·rw [if_neg c24] at H
         have c24b0 : decide (x35_1 < (wrap64 (rd y231 0))) = false := decide_eq_false c24
         clear c24
         replace H := Option.bind_eq_some_iff.mp H
         obtain ⟨t249, A720, H⟩ := H
         replace H : ((bytes_Equal.f t249 l0).bind fun t252 => (if t252 = true then (some (t226, x226001_1, true)) else (some (0, ([] : List (List Int)), false)))) = some (r1, r2, r3) := H
         have A72 := Aside0.mk A720
         clear A720
         replace H := Option.bind_eq_some_iff.mp H
         obtain ⟨t252, A730, H⟩ := H
         replace H : (if t252 = true then (some (t226, x226001_1, true)) else (some (0, ([] : List (List Int)), false))) = some (r1, r2, r3) := H
         have A73 := Aside0.mk A730
         clear A730
         by_cases c74 : t252 = true
         ·subst c74
          have H1 : (some (t226, x226001_1, true)) = some (r1, r2, r3) := by rw [if_pos rfl] at H; exact H
          clear H
          have H := H1
          clear H1
          simp only [Option.some.injEq, Prod.mk.injEq] at H
          obtain ⟨rfl, rfl, rfl⟩ := H
          have hnb75 := NB228_224.out
          have hnc75 := NB224_228.out
          have hnb76 := NB228_225.out
          have hnc76 := NB225_228.out
          have hnb77 := NB228_229.out
          have hnc77 := NB229_228.out
          have hcz78_0 := cell_of_block BK228.out
          have hfz78_0 := blk_frozen BK228.out 0
          have hnb79 := NB229_224.out
          have hnc79 := NB224_229.out
          have hnb80 := NB229_225.out
          have hnc80 := NB225_229.out
          have hnb82 := NB225_224.out
          have hnc82 := NB224_225.out
          obtain ⟨hcz83_0, hcz83_1⟩ := blk_cells2 BK225.out
          obtain ⟨hfz83_0, hfz83_1⟩ := blk_frozens2 BK225.out
          obtain ⟨Ao84, co84, eo84⟩ := Kd.S_slice HO_226001.out
          subst eo84
          go_wp2_with (first | ((with_reducible refine gate_callee (f := 28) rfl ?_); refine goesL_ (some 77) rfl rfl Try.func28 (by kernel_rfl) rfl #[.agg #[.int .i64 t226, .slice Ao84 x226001_1.length co84]] rfl (by (try simp only [List.map_toArray, List.map_cons, List.map_nil]); first | done | rfl) ?_; (with_reducible refine (impl_PageBytes.calls k1 t226 _ _ x226001_1 t249 _ ?side1 ?side2 A72.out).mono ?_); (case side1 => repeat (first | exact (Kd.S_reads' HO_226001.out).2.2 | (with_reducible refine Kd.C_alloc ?_ _) | (with_reducible refine Kd.C_drewN ?_ _) | (with_reducible refine Kd.C_drew ?_))); (case side2 => exact (Kd.S_reads' HO_226001.out).2.1); rintro e w85 ⟨v250, rfl, ho0, hb⟩; refine ⟨_, rfl, ?_⟩; have n0_ := Aside0.mk (Kd.R_elder' (Kd.rup HO_5.out) (Kd.R_base ho0) hb); have n1_ := Aside0.mk (Kd.S_elder' (by (with_reducible repeat (first | apply Kd.S_alloc | apply Kd.S_drewN | apply Kd.S_drew)); exact HO_226001.out) (Kd.R_base ho0) hb); have n2_ := Aside0.mk (Kd.R_lower (Kd.R_new' ho0 (Kd.R_lt (Kd.rup HO_5.out))) (below_size (by with_reducible repeat (first | exact HB.out | refine h4 ?_ GE224.out | refine h4 ?_ GE225.out | refine h4 ?_ GE228.out | refine h4 ?_ GE229.out | apply h1 | apply h2 | apply h3)))); have n3_ := Aside0.mk (blk_below (g := gb224) (o := .cells #[.int .i64 x225000_1, .slice none 0 0] 27 (0, 0)) (bup BK224.out) hb); have n4_ := Aside0.mk (blk_below (g := gb225) (o := .cells #[.int .i64 t226, .slice Ao84 x226001_1.length co84] 27 (0, 0)) (bup BK225.out) hb); have n5_ := Aside0.mk (blk_below (g := gb228) (o := .cells #[.slice (some ad234) y231.length co23] 36 (0, 0)) (bup BK228.out) hb); have n6_ := Aside0.mk (blk_below (g := gb229) (o := .deferred (some [])) (bup BK229.out) hb); have n7_ := Aside0.mk (below_step (by with_reducible repeat (first | exact HB.out | refine h4 ?_ GE224.out | refine h4 ?_ GE225.out | refine h4 ?_ GE228.out | refine h4 ?_ GE229.out | apply h1 | apply h2 | apply h3)) hb); clear HO_5; clear HO_226001; clear BK224; clear BK225; clear BK228; clear BK229; clear HB; have HO_5 := n0_; have HO_226001 := n1_; have HO251 := n2_; have BK224 := n3_; have BK225 := n4_; have BK228 := n5_; have BK229 := n6_; have HB := n7_; clear n0_ n1_ n2_ n3_ n4_ n5_ n6_ n7_; (try clear hb); (try clear hb2); (try clear hk); (try clear hi); (try clear ho0); obtain ⟨Ao86, co86, eo86⟩ := Kd.R_slice HO251.out; subst eo86) | ((with_reducible refine gate_callee (f := 56) rfl ?_); refine goesL_ (some 79) rfl rfl Try.func56 (by kernel_rfl) rfl #[.slice Ao86 t249.length co86, .slice A0 l0.length c0] rfl (by (try simp only [List.map_toArray, List.map_cons, List.map_nil]); first | done | rfl) ?_; (with_reducible refine (bytes_Equal.calls _ _ t249 _ _ l0 true _ ?side1 ?side2 ?side3 ?side4 A73.out).mono ?_); (case side1 => repeat (first | exact (Kd.R_reads' HO251.out).2.2 | (with_reducible refine Kd.C_alloc ?_ _) | (with_reducible refine Kd.C_drewN ?_ _) | (with_reducible refine Kd.C_drew ?_))); (case side2 => exact (Kd.R_reads' HO251.out).2.1); (case side3 => repeat (first | exact (Kd.C_below HR0.out HB.out) | (with_reducible refine Kd.C_alloc ?_ _) | (with_reducible refine Kd.C_drewN ?_ _) | (with_reducible refine Kd.C_drew ?_))); (case side4 => exact HC0.out); rintro e w' ⟨rfl, ⟨nd, rfl⟩⟩; refine ⟨_, rfl, ?_⟩; (try (rw [drewN_self w85]; generalize hq_ : World.drewN w85 _ = w85; have n0_ : Aside0 (Kd.R (Kd.int .u8) 5 w85 w.heap.size (fun k_ => (True ∧ some k_ ≠ (.slice (some ad234) y231.length co23 : Value).ownBlock)) (.slice Ao86 t249.length co86) t249) := ⟨by rw [← hq_]; exact (Kd.rup HO251.out)⟩; have n1_ : Aside0 (Kd.S (Kd.slice 5 (Kd.int .u8)) 36 w85 w.heap.size (fun k_ => ((some k_ ≠ (.slice (some ad234) y231.length co23 : Value).ownBlock ∧ k_ ≠ gb228) ∧ some k_ ≠ (.slice Ao86 t249.length co86 : Value).ownBlock)) (.slice Ao84 x226001_1.length co84) x226001_1) := ⟨by rw [← hq_]; exact (by (with_reducible repeat (first | apply Kd.S_alloc | apply Kd.S_drewN | apply Kd.S_drew)); exact HO_226001.out)⟩; have n2_ : Aside0 (Kd.R (Kd.int .u8) 5 w85 w.heap.size (fun k_ => (True ∧ some k_ ≠ (.slice Ao86 t249.length co86 : Value).ownBlock)) (.slice (some ad234) y231.length co23) y231) := ⟨by rw [← hq_]; exact (Kd.rup HO_5.out)⟩; have n3_ : Aside0 (w85.heap[gb224]? = some (.cells #[.int .i64 x225000_1, .slice none 0 0] 27 (0, 0))) := ⟨by rw [← hq_]; exact (bup BK224.out)⟩; have n4_ : Aside0 (w85.heap[gb225]? = some (.cells #[.int .i64 t226, .slice Ao84 x226001_1.length co84] 27 (0, 0))) := ⟨by rw [← hq_]; exact (bup BK225.out)⟩; have n5_ : Aside0 (w85.heap[gb228]? = some (.cells #[.slice (some ad234) y231.length co23] 36 (0, 0))) := ⟨by rw [← hq_]; exact (bup BK228.out)⟩; have n6_ : Aside0 (w85.heap[gb229]? = some (.deferred (some []))) := ⟨by rw [← hq_]; exact (bup BK229.out)⟩; have n7_ : Aside0 (Below w.heap.size w w85) := ⟨by rw [← hq_]; exact (by with_reducible repeat (first | exact HB.out | refine h4 ?_ GE224.out | refine h4 ?_ GE225.out | refine h4 ?_ GE228.out | refine h4 ?_ GE229.out | apply h1 | apply h2 | apply h3))⟩; clear HO251 HO_226001 HO_5 BK224 BK225 BK228 BK229 HB hq_; have HO251 := n0_; have HO_226001 := n1_; have HO_5 := n2_; have BK224 := n3_; have BK225 := n4_; have BK228 := n5_; have BK229 := n6_; have HB := n7_; clear n0_ n1_ n2_ n3_ n4_ n5_ n6_ n7_)); have hcz87_0 := cell_of_block BK228.out; have hfz87_0 := blk_frozen BK228.out 0; obtain ⟨hcz89_0, hcz89_1⟩ := blk_cells2 BK225.out; obtain ⟨hfz89_0, hfz89_1⟩ := blk_frozens2 BK225.out; obtain ⟨hcz90_0, hcz90_1⟩ := blk_cells2 BK224.out; obtain ⟨hfz90_0, hfz90_1⟩ := blk_frozens2 BK224.out))
          (try simp only [Exit.inBlock, Exit.then]); refine bodyPostQ_mark rfl (by (with_reducible repeat (first | refine b1 ?_ _ | refine b2 ?_ | refine b3 ?_ _)); refine blk_farO ?_ NB229_224.out _; (with_reducible repeat (first | refine b1 ?_ _ | refine b2 ?_ | refine b3 ?_ _)); refine blk_farO ?_ NB229_224.out _; exact bup BK229.out) (results_ct rfl _ _ gb224 27 #[.int .i64 t226, .slice Ao84 x226001_1.length co84] (0, 0) _ rfl (blk_putObj (by (with_reducible repeat (first | refine b1 ?_ _ | refine b2 ?_ | refine b3 ?_ _)); refine blk_put (cs := #[.int .i64 t226, .slice none 0 0]) ?_ 1 _ rfl; (with_reducible repeat (first | refine b1 ?_ _ | refine b2 ?_ | refine b3 ?_ _)); refine blk_put (cs := #[.int .i64 x225000_1, .slice none 0 0]) ?_ 0 _ rfl; exact bup BK224.out) NB224_229.out) Try.underlying27 rfl (by kernel_rfl)) ?_
          exact ⟨_, by first | rfl | (simp [errW_none, errW_some] <;> rfl) | (simp [*, errW_none, errW_some] <;> rfl), S_put (o := .deferred (some [])) (by (with_reducible repeat (first | apply Kd.S_alloc | apply Kd.S_drewN | apply Kd.S_drew)); exact Kd.S_mono (Kd.S_far (p := ⟨gb224, 1, none⟩) (Kd.S_far (p := ⟨gb224, 0, none⟩) (Kd.S_types HO_226001.out BK224.out (by decide)) (fun _ hk => hk.2) (.int .i64 t226)) (fun _ hk => hk.2) (.slice Ao84 x226001_1.length co84)) (fun _ hk => trivial)) (by (with_reducible repeat (first | refine b1 ?_ _ | refine b2 ?_ | refine b3 ?_ _)); refine blk_farO ?_ NB229_224.out _; (with_reducible repeat (first | refine b1 ?_ _ | refine b2 ?_ | refine b3 ?_ _)); refine blk_farO ?_ NB229_224.out _; exact bup BK229.out) rfl _, below_put (o := .deferred (some [])) (by with_reducible repeat (first | exact HB.out | refine h4 ?_ GE224.out | refine h4 ?_ GE225.out | refine h4 ?_ GE228.out | refine h4 ?_ GE229.out | apply h1 | apply h2 | apply h3)) (by (with_reducible repeat (first | refine b1 ?_ _ | refine b2 ?_ | refine b3 ?_ _)); refine blk_farO ?_ NB229_224.out _; (with_reducible repeat (first | refine b1 ?_ _ | refine b2 ?_ | refine b3 ?_ _)); refine blk_farO ?_ NB229_224.out _; exact bup BK229.out) GW229.out _⟩
         ·replace c74 := Bool.eq_false_iff.mpr c74
          subst c74
          have H1 : (some (0, ([] : List (List Int)), false)) = some (r1, r2, r3) := by rw [if_neg (show ¬ (false = true) by decide)] at H; exact H
          clear H
          have H := H1
          clear H1
          simp only [Option.some.injEq, Prod.mk.injEq] at H
          obtain ⟨rfl, rfl, rfl⟩ := H
          have hnb91 := NB228_224.out
          have hnc91 := NB224_228.out
          have hnb92 := NB228_225.out
          have hnc92 := NB225_228.out
          have hnb93 := NB228_229.out
          have hnc93 := NB229_228.out
          have hcz94_0 := cell_of_block BK228.out
          have hfz94_0 := blk_frozen BK228.out 0
          have hnb95 := NB229_224.out
          have hnc95 := NB224_229.out
          have hnb96 := NB229_225.out
          have hnc96 := NB225_229.out
          have hnb98 := NB225_224.out
          have hnc98 := NB224_225.out
          obtain ⟨hcz99_0, hcz99_1⟩ := blk_cells2 BK225.out
          obtain ⟨hfz99_0, hfz99_1⟩ := blk_frozens2 BK225.out
          obtain ⟨Ao100, co100, eo100⟩ := Kd.S_slice HO_226001.out
          subst eo100
          go_wp2_with (first | ((with_reducible refine gate_callee (f := 28) rfl ?_); refine goesL_ (some 77) rfl rfl Try.func28 (by kernel_rfl) rfl #[.agg #[.int .i64 t226, .slice Ao100 x226001_1.length co100]] rfl (by (try simp only [List.map_toArray, List.map_cons, List.map_nil]); first | done | rfl) ?_; (with_reducible refine (impl_PageBytes.calls k1 t226 _ _ x226001_1 t249 _ ?side1 ?side2 A72.out).mono ?_); (case side1 => repeat (first | exact (Kd.S_reads' HO_226001.out).2.2 | (with_reducible refine Kd.C_alloc ?_ _) | (with_reducible refine Kd.C_drewN ?_ _) | (with_reducible refine Kd.C_drew ?_))); (case side2 => exact (Kd.S_reads' HO_226001.out).2.1); rintro e w101 ⟨v250, rfl, ho0, hb⟩; refine ⟨_, rfl, ?_⟩; have n0_ := Aside0.mk (Kd.R_elder' (Kd.rup HO_5.out) (Kd.R_base ho0) hb); have n1_ := Aside0.mk (Kd.S_elder' (by (with_reducible repeat (first | apply Kd.S_alloc | apply Kd.S_drewN | apply Kd.S_drew)); exact HO_226001.out) (Kd.R_base ho0) hb); have n2_ := Aside0.mk (Kd.R_lower (Kd.R_new' ho0 (Kd.R_lt (Kd.rup HO_5.out))) (below_size (by with_reducible repeat (first | exact HB.out | refine h4 ?_ GE224.out | refine h4 ?_ GE225.out | refine h4 ?_ GE228.out | refine h4 ?_ GE229.out | apply h1 | apply h2 | apply h3)))); have n3_ := Aside0.mk (blk_below (g := gb224) (o := .cells #[.int .i64 x225000_1, .slice none 0 0] 27 (0, 0)) (bup BK224.out) hb); have n4_ := Aside0.mk (blk_below (g := gb225) (o := .cells #[.int .i64 t226, .slice Ao100 x226001_1.length co100] 27 (0, 0)) (bup BK225.out) hb); have n5_ := Aside0.mk (blk_below (g := gb228) (o := .cells #[.slice (some ad234) y231.length co23] 36 (0, 0)) (bup BK228.out) hb); have n6_ := Aside0.mk (blk_below (g := gb229) (o := .deferred (some [])) (bup BK229.out) hb); have n7_ := Aside0.mk (below_step (by with_reducible repeat (first | exact HB.out | refine h4 ?_ GE224.out | refine h4 ?_ GE225.out | refine h4 ?_ GE228.out | refine h4 ?_ GE229.out | apply h1 | apply h2 | apply h3)) hb); clear HO_5; clear HO_226001; clear BK224; clear BK225; clear BK228; clear BK229; clear HB; have HO_5 := n0_; have HO_226001 := n1_; have HO251 := n2_; have BK224 := n3_; have BK225 := n4_; have BK228 := n5_; have BK229 := n6_; have HB := n7_; clear n0_ n1_ n2_ n3_ n4_ n5_ n6_ n7_; (try clear hb); (try clear hb2); (try clear hk); (try clear hi); (try clear ho0); obtain ⟨Ao102, co102, eo102⟩ := Kd.R_slice HO251.out; subst eo102) | ((with_reducible refine gate_callee (f := 56) rfl ?_); refine goesL_ (some 79) rfl rfl Try.func56 (by kernel_rfl) rfl #[.slice Ao102 t249.length co102, .slice A0 l0.length c0] rfl (by (try simp only [List.map_toArray, List.map_cons, List.map_nil]); first | done | rfl) ?_; (with_reducible refine (bytes_Equal.calls _ _ t249 _ _ l0 false _ ?side1 ?side2 ?side3 ?side4 A73.out).mono ?_); (case side1 => repeat (first | exact (Kd.R_reads' HO251.out).2.2 | (with_reducible refine Kd.C_alloc ?_ _) | (with_reducible refine Kd.C_drewN ?_ _) | (with_reducible refine Kd.C_drew ?_))); (case side2 => exact (Kd.R_reads' HO251.out).2.1); (case side3 => repeat (first | exact (Kd.C_below HR0.out HB.out) | (with_reducible refine Kd.C_alloc ?_ _) | (with_reducible refine Kd.C_drewN ?_ _) | (with_reducible refine Kd.C_drew ?_))); (case side4 => exact HC0.out); rintro e w' ⟨rfl, ⟨nd, rfl⟩⟩; refine ⟨_, rfl, ?_⟩; (try (rw [drewN_self w101]; generalize hq_ : World.drewN w101 _ = w101; have n0_ : Aside0 (Kd.R (Kd.int .u8) 5 w101 w.heap.size (fun k_ => (True ∧ some k_ ≠ (.slice (some ad234) y231.length co23 : Value).ownBlock)) (.slice Ao102 t249.length co102) t249) := ⟨by rw [← hq_]; exact (Kd.rup HO251.out)⟩; have n1_ : Aside0 (Kd.S (Kd.slice 5 (Kd.int .u8)) 36 w101 w.heap.size (fun k_ => ((some k_ ≠ (.slice (some ad234) y231.length co23 : Value).ownBlock ∧ k_ ≠ gb228) ∧ some k_ ≠ (.slice Ao102 t249.length co102 : Value).ownBlock)) (.slice Ao100 x226001_1.length co100) x226001_1) := ⟨by rw [← hq_]; exact (by (with_reducible repeat (first | apply Kd.S_alloc | apply Kd.S_drewN | apply Kd.S_drew)); exact HO_226001.out)⟩; have n2_ : Aside0 (Kd.R (Kd.int .u8) 5 w101 w.heap.size (fun k_ => (True ∧ some k_ ≠ (.slice Ao102 t249.length co102 : Value).ownBlock)) (.slice (some ad234) y231.length co23) y231) := ⟨by rw [← hq_]; exact (Kd.rup HO_5.out)⟩; have n3_ : Aside0 (w101.heap[gb224]? = some (.cells #[.int .i64 x225000_1, .slice none 0 0] 27 (0, 0))) := ⟨by rw [← hq_]; exact (bup BK224.out)⟩; have n4_ : Aside0 (w101.heap[gb225]? = some (.cells #[.int .i64 t226, .slice Ao100 x226001_1.length co100] 27 (0, 0))) := ⟨by rw [← hq_]; exact (bup BK225.out)⟩; have n5_ : Aside0 (w101.heap[gb228]? = some (.cells #[.slice (some ad234) y231.length co23] 36 (0, 0))) := ⟨by rw [← hq_]; exact (bup BK228.out)⟩; have n6_ : Aside0 (w101.heap[gb229]? = some (.deferred (some []))) := ⟨by rw [← hq_]; exact (bup BK229.out)⟩; have n7_ : Aside0 (Below w.heap.size w w101) := ⟨by rw [← hq_]; exact (by with_reducible repeat (first | exact HB.out | refine h4 ?_ GE224.out | refine h4 ?_ GE225.out | refine h4 ?_ GE228.out | refine h4 ?_ GE229.out | apply h1 | apply h2 | apply h3))⟩; clear HO251 HO_226001 HO_5 BK224 BK225 BK228 BK229 HB hq_; have HO251 := n0_; have HO_226001 := n1_; have HO_5 := n2_; have BK224 := n3_; have BK225 := n4_; have BK228 := n5_; have BK229 := n6_; have HB := n7_; clear n0_ n1_ n2_ n3_ n4_ n5_ n6_ n7_)); have hcz103_0 := cell_of_block BK228.out; have hfz103_0 := blk_frozen BK228.out 0; obtain ⟨hcz105_0, hcz105_1⟩ := blk_cells2 BK224.out; obtain ⟨hfz105_0, hfz105_1⟩ := blk_frozens2 BK224.out))
          (try simp only [Exit.inBlock, Exit.then]); refine bodyPostQ_mark rfl (by (with_reducible repeat (first | refine b1 ?_ _ | refine b2 ?_ | refine b3 ?_ _)); refine blk_farO ?_ NB229_224.out _; (with_reducible repeat (first | refine b1 ?_ _ | refine b2 ?_ | refine b3 ?_ _)); refine blk_farO ?_ NB229_224.out _; exact bup BK229.out) (results_ct rfl _ _ gb224 27 #[.int .i64 0, .slice none 0 0] (0, 0) _ rfl (blk_putObj (by (with_reducible repeat (first | refine b1 ?_ _ | refine b2 ?_ | refine b3 ?_ _)); refine blk_put (cs := #[.int .i64 0, .slice none 0 0]) ?_ 1 _ rfl; (with_reducible repeat (first | refine b1 ?_ _ | refine b2 ?_ | refine b3 ?_ _)); refine blk_put (cs := #[.int .i64 x225000_1, .slice none 0 0]) ?_ 0 _ rfl; exact bup BK224.out) NB224_229.out) Try.underlying27 rfl (by kernel_rfl)) ?_
          exact ⟨_, by first | rfl | (simp [errW_none, errW_some] <;> rfl) | (simp [*, errW_none, errW_some] <;> rfl), by first | exact Kd.S_nil _ _ _ _ _ | exact Kd.N_nil _ _ _ _ _ | exact Kd.V_nil _ _ _ _ _ | exact Kd.Q_nil _ _ _ _ _ | exact Kd.R_nil _ _ _ _ _, below_put (o := .deferred (some [])) (by with_reducible repeat (first | exact HB.out | refine h4 ?_ GE224.out | refine h4 ?_ GE225.out | refine h4 ?_ GE228.out | refine h4 ?_ GE229.out | apply h1 | apply h2 | apply h3)) (by (with_reducible repeat (first | refine b1 ?_ _ | refine b2 ?_ | refine b3 ?_ _)); refine blk_farO ?_ NB229_224.out _; (with_reducible repeat (first | refine b1 ?_ _ | refine b2 ?_ | refine b3 ?_ _)); refine blk_farO ?_ NB229_224.out _; exact bup BK229.out) GW229.out _⟩
     ·rw [if_neg c7] at H
      exact absurd H (by simp)
    ·rw [if_neg c6] at H
     exact absurd H (by simp)
   ·rw [if_neg c5] at H
    exact absurd H (by simp)
  ·rw [if_neg c4] at H
   exact absurd H (by simp)
 ·rw [if_neg c2] at H
  have c2b0 : ((l0.length : Int) == 256) = false := beq_eq_false_iff_ne.mpr c2
  have c2b1 : ((l0.length : Int) != 256) = true := bne_iff_ne.mpr c2
  simp only [Option.some.injEq, Prod.mk.injEq] at H
  obtain ⟨rfl, rfl, rfl⟩ := H
  refine calls_of_wp_marksQ Try.func31 rfl ?_; simp only [Try.ntmps31, List.size_toArray, List.length_cons, List.length_nil, Nat.reduceAdd, Nat.reduceSub, Array.replicate_succ, Array.replicate_zero, List.push_toArray, List.append_toArray, List.nil_append, List.cons_append]
  go_wp2_with (first | ((with_reducible refine gate_dst (N := 2) rfl ?_); refine box_event ?hg (N := 2) ?hd (cs := #[.int .i64 0, .slice none 0 0]) (t := 27) ?hr ?_; (case hd => rfl); (case hg => rfl); (case hr => first | (go_simp; done) | (go_simp; rfl)); intro gb224 hg w106 hbox hb; have n0_ := Aside0.mk (below_step (hup HB.out) hb); have n1_ := Aside0.mk (hbox); have n2_ := Aside0.mk ((by rw [hg]; exact (below_size (hup HB.out)) : w.heap.size ≤ gb224)); have n3_ := Aside0.mk ((by rw [hg]; exact (below_size (hup HB.out)) : w.heap.size ≤ gb224)); clear HB; have HB := n0_; have BK224 := n1_; have GW224 := n2_; have GE224 := n3_; clear n0_ n1_ n2_ n3_; clear hb hbox hg; obtain ⟨hcz107_0, hcz107_1⟩ := blk_cells2 BK224.out; obtain ⟨hfz107_0, hfz107_1⟩ := blk_frozens2 BK224.out))
  (try simp only [Exit.inBlock, Exit.then]); refine bodyPostQ_ret (results_ct rfl _ _ gb224 27 #[.int .i64 0, .slice none 0 0] (0, 0) _ rfl (by (with_reducible repeat (first | refine b1 ?_ _ | refine b2 ?_ | refine b3 ?_ _)); refine blk_put (cs := #[.int .i64 0, .slice none 0 0]) ?_ 1 _ rfl; (with_reducible repeat (first | refine b1 ?_ _ | refine b2 ?_ | refine b3 ?_ _)); refine blk_put (cs := #[.int .i64 0, .slice none 0 0]) ?_ 0 _ rfl; exact bup BK224.out) Try.underlying27 rfl (by kernel_rfl)) rfl ?_
  exact ⟨_, by first | rfl | (simp [errW_none, errW_some] <;> rfl) | (simp [*, errW_none, errW_some] <;> rfl), by first | exact Kd.S_nil _ _ _ _ _ | exact Kd.N_nil _ _ _ _ _ | exact Kd.V_nil _ _ _ _ _ | exact Kd.Q_nil _ _ _ _ _ | exact Kd.R_nil _ _ _ _ _, by with_reducible repeat (first | exact HB.out | refine h4 ?_ GE224.out | apply h1 | apply h2 | apply h3)⟩
end

end Go.Proofs.Ytokpniagnbaflaa.PFnExactPageRead
