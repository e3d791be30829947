import Derived.Test.YtjjkhlphdbmdfaaZFnKeys29
import Derived.Test.YtjjkhlphdbmdfaaZFnKeys32
import Derived.Test.YtjjkhlphdbmdfaaZFnKeys33
import Derived.Test.YtjjkhlphdbmdfaaZFnKeys34
import Derived.Test.YtjjkhlphdbmdfaaZFnKeys36
namespace Go.Proofs.Ytjjkhlphdbmdfaa.PFnKeys
open Go.RowKit Go.Proofs.YtjjkhlphdbmdfaaW.PrintWords Go.Proofs.YtjjkhlphdbmdfaaW.PrintLast Go.Proofs.YtjjkhlphdbmdfaaW.PrintMore
attribute [local go_sem] max2_int min2_int max_two min_two max_three min_three max_four min_four   -- for this text's walks alone
attribute [local go_sem high] fl_eql fl_neq fl_lss fl_leq fl_gtr fl_geq fl_add fl_sub fl_mul fl_quo fl_neg fl_ofInt fl_toInt fl_store sub_sign ext_bits ext_from fl_nan_quo fl_nan_add fl_nan_mul fl_nan_sub
open Go.Proofs.YtjjkhlphdbmdfaaW.PrintWords renaming below_alloc → h1, pw_below_drewN → h2, below_drew1 → h3, below_set → h4, blk_drewN → b1, blk_drew → b2, blk_alloc → b3
set_option linter.unusedVariables false
set_option linter.unusedSimpArgs false
def spec_DrawItemCompare.f (k : Nat) (l0 : List Int) : Option (Int × Int × Nat × List Int × Int × Int × Nat × List Int) := (spec_l1New.f k l0).bind fun bt429 => ((spec_l3any.f k bt429.1 bt429.2.1 bt429.2.2).bind fun bt433 => ((spec_l3any.f k bt429.1 bt433.2.2.2.2.1 bt433.2.2.2.2.2).bind fun bt442 => ((spec_l1Below.f bt429.1 bt442.2.2.2.2.1 bt442.2.2.2.2.2 4).bind fun bt451 => (if bt451.1 = 0 then ((spec_l3copy.f bt433.1 bt433.2.1 bt433.2.2.1 bt433.2.2.2.1).bind fun bt454 => (some (bt433.1, bt433.2.1, bt433.2.2.1, bt433.2.2.2.1, bt454.1, bt454.2.1, bt454.2.2.1, bt454.2.2.2))) else (if bt451.1 = 1 then ((spec_l3copy.f bt433.1 bt433.2.1 bt433.2.2.1 bt433.2.2.2.1).bind fun bt460 => ((spec_l1some.f k bt429.1 bt451.2.1 bt451.2.2 2).bind fun bt466 => (if bt460.2.2.2.length + bt466.1.length < 140737488355328 then (some (bt433.1, bt433.2.1, bt433.2.2.1, bt433.2.2.2.1, bt460.1, bt460.2.1, bt460.2.2.1, (bt460.2.2.2 ++ bt466.1))) else (none)))) else (if bt451.1 = 2 then ((spec_l3key.f k bt429.1 bt451.2.1 bt451.2.2).bind fun bt474 => ((spec_l3key.f k bt429.1 bt474.2.2.2.2.1 bt474.2.2.2.2.2).bind fun bt482 => (some (bt474.1, bt474.2.1, bt474.2.2.1, bt474.2.2.2.1, bt482.1, bt482.2.1, bt482.2.2.1, bt482.2.2.2.1)))) else (some (bt433.1, bt433.2.1, bt433.2.2.1, bt433.2.2.2.1, bt442.1, bt442.2.1, bt442.2.2.1, bt442.2.2.2.1))))))))
theorem spec_DrawItemCompare.mono : ∀ a0 k, LeO (spec_DrawItemCompare.f k a0) (spec_DrawItemCompare.f (k + 1) a0) := by
 intro a0 k
 unfold spec_DrawItemCompare.f
 repeat' with_reducible first | exact spec_l1New.mono _ _ | exact spec_l1some.mono _ _ _ _ _ | exact spec_l3any.mono _ _ _ _ | exact spec_l3key.mono _ _ _ _ | exact LeO.refl _ | exact LeO.none _ | refine LeO.ite ?_ ?_ | refine LeO.bind ?_ (fun _ => ?_)
set_option maxHeartbeats 8000000 in
set_option maxRecDepth 100000 in
theorem spec_DrawItemCompare.callsC (k : Nat) (A0 : Option Addr) (c0 : Nat) (l0 : List Int) (r1 : Int) (r2 : Int) (r3 : Nat) (r4 : List Int) (r5 : Int) (r6 : Int) (r7 : Nat) (r8 : List Int) (w : World) (hr0 : Kd.C (Kd.int .u8) w A0 l0.length l0) (hc0 : l0.length ≤ c0) (h : spec_DrawItemCompare.f k l0 = some (r1, r2, r3, r4, r5, r6, r7, r8)) :
  Calls Try.prog 20 #[.slice A0 l0.length c0] w fun e w' => ∃ b1_ : Nat, ∃ b2_ : Nat, ∃ v3_ v7_ : Value, e = .returned (.tuple #[.agg #[.int .i64 r1, .int .i64 r2, .float .f64 b1_, v3_], .agg #[.int .i64 r5, .int .i64 r6, .float .f64 b2_, v7_]]) ∧ Kd.R (Kd.int .u8) 5 w' w.heap.size (fun k_ => some k_ ≠ (v7_ : Value).ownBlock) v3_ r4 ∧ Kd.R (Kd.int .u8) 5 w' w.heap.size (fun k_ => some k_ ≠ (v3_ : Value).ownBlock) v7_ r8 ∧ Below w.heap.size w w' ∧ Aside0 (cn b1_ = r3 ∧ b1_ < 2 ^ 64) ∧ Aside0 (cn b2_ = r7 ∧ b2_ < 2 ^ 64) := by
 have hu25 := Try.underlying25
 have HR0 := Aside0.mk hr0
 have HC0 := Aside0.mk hc0
 clear hr0 hc0
 have HB := Aside0.mk (Below.refl w.heap.size w)
 have H := h
 clear h
 unfold spec_DrawItemCompare.f at H
 replace H := Option.bind_eq_some_iff.mp H
 obtain ⟨⟨t429, t430, t431⟩, A20, H⟩ := H
 (try dsimp only at H)
 have A2 := Aside0.mk A20
 clear A20
 replace H := Option.bind_eq_some_iff.mp H
 obtain ⟨⟨t433, t434, t435, t436, t439, t440⟩, A30, H⟩ := H
 (try dsimp only at H)
 have A3 := Aside0.mk A30
 clear A30
 replace H := Option.bind_eq_some_iff.mp H
 obtain ⟨⟨t442, t443, t444, t445, t448, t449⟩, A40, H⟩ := H
 (try dsimp only at H)
 have A4 := Aside0.mk A40
 clear A40
 replace H := Option.bind_eq_some_iff.mp H
 obtain ⟨⟨t451, t452, t453⟩, A50, H⟩ := H
 (try dsimp only at H)
 have A5 := Aside0.mk A50
 clear A50
 by_cases c6 : t451 = 0
 ·rw [if_pos c6] at H
  have c6b0 : (t451 == 0) = true := beq_iff_eq.mpr c6
  have c6b1 : (t451 != 0) = false := bne_eq_false_iff_eq.mpr c6
  clear c6
  replace H := Option.bind_eq_some_iff.mp H
  obtain ⟨⟨t454, t455, t456, t457⟩, A70, H⟩ := H
  (try dsimp only at H)
  have A7 := Aside0.mk A70
  clear A70
  simp only [Option.some.injEq, Prod.mk.injEq] at H
  obtain ⟨rfl, rfl, rfl, rfl, rfl, rfl, rfl, rfl⟩ := H
  go_enter Try.func20, Try.ntmps20
  try go_wp2_with (first | ((with_reducible refine gate_dst (N := 2) rfl ?_); refine box_event ?hg (N := 2) ?hd (cs := #[.int .i64 0, .int .i64 0, .float .f64 0, .slice none 0 0]) (t := 25) ?hr ?_; (case hd => rfl); (case hg => rfl); (case hr => first | (go_simp; done) | (go_simp; rfl)); intro gb427 hg w8 hbox hb; have n0_ := Aside0.mk (below_step (hup HB.out) hb); have n1_ := Aside0.mk (hbox); have n2_ := Geq.mk ((by rw [hg]; exact (below_size (hup HB.out)) : w.heap.size ≤ gb427)); have n3_ := Geq.mk ((by rw [hg]; exact (below_size (hup HB.out)) : w.heap.size ≤ gb427)); clear HB; have HB := n0_; have BK427 := n1_; have GW427 := n2_; have GE427 := n3_; clear n0_ n1_ n2_ n3_; clear hb hbox hg) | ((with_reducible refine gate_dst (N := 3) rfl ?_); refine box_event ?hg (N := 3) ?hd (cs := #[.int .i64 0, .int .i64 0, .float .f64 0, .slice none 0 0]) (t := 25) ?hr ?_; (case hd => rfl); (case hg => rfl); (case hr => first | (go_simp; done) | (go_simp; rfl)); intro gb428 hg w9 hbox hb; have n0_ := Aside0.mk (blk_below (bup BK427.out) hb); have n1_ := Aside0.mk (below_step (hset HB.out) hb); have n2_ := Aside0.mk (hbox); have n3_ := Geq.mk ((by rw [hg]; exact (below_size (hset HB.out)) : w.heap.size ≤ gb428)); have n4_ := Geq.mk ((by rw [hg]; exact (below_size (hset HB.out)) : w.heap.size ≤ gb428)); have n5_ := Neq.mk ((by rw [hg]; exact Nat.ne_of_lt (blk_lt (g := gb427) (o := .cells #[.int .i64 0, .int .i64 0, .float .f64 0, .slice none 0 0] 25 (0, 0)) (bup BK427.out)) : gb427 ≠ gb428)); have n6_ := Neq.mk ((by rw [hg]; exact Nat.ne_of_gt (blk_lt (g := gb427) (o := .cells #[.int .i64 0, .int .i64 0, .float .f64 0, .slice none 0 0] 25 (0, 0)) (bup BK427.out)) : gb428 ≠ gb427)); clear BK427; clear HB; have BK427 := n0_; have HB := n1_; have BK428 := n2_; have GW428 := n3_; have GE428 := n4_; have NB427_428 := n5_; have NB428_427 := n6_; clear n0_ n1_ n2_ n3_ n4_ n5_ n6_; clear hb hbox hg) | ((with_reducible refine gate_callee (f := 57) rfl ?_); refine goesL_ (some 8) rfl rfl Try.func57 (by kernel_rfl) rfl #[.slice A0 l0.length c0] rfl (by (try simp only [List.map_toArray, List.map_cons, List.map_nil]); first | done | rfl) ?_; (with_reducible refine (spec_l1New.calls k _ _ l0 t429 t430 t431 w _ ?side1 ?side2 ?side3 A2.out).mono ?_); (case side1 => with_reducible repeat (first | exact HB.out | refine h4 ?_ GE427.out | refine h4 ?_ GE428.out | apply h1 | apply h2 | apply h3)); (case side2 => exact HR0.out); (case side3 => exact HC0.out); rintro e w10 ⟨g432, rfl, hi, hb, hb2⟩; refine ⟨_, rfl, ?_⟩; have n0_ := Aside0.mk (blk_below (bup BK427.out) hb2); have n1_ := Aside0.mk (blk_below (bup BK428.out) hb2); have n2_ := Aside0.mk (hb); have n3_ := Aside0.mk (hi); have n4_ := Aside0.mk (IsS83.ne_blk hi (blk_below (bup BK427.out) hb2) (by decide)); have n5_ := Aside0.mk (Ne.symm (IsS83.ne_blk hi (blk_below (bup BK427.out) hb2) (by decide))); have n6_ := Aside0.mk (IsS83.ne_blk hi (blk_below (bup BK428.out) hb2) (by decide)); have n7_ := Aside0.mk (Ne.symm (IsS83.ne_blk hi (blk_below (bup BK428.out) hb2) (by decide))); clear BK427; clear BK428; clear HB; have BK427 := n0_; have BK428 := n1_; have HB := n2_; have HI432 := n3_; have NB432_427 := n4_; have NB427_432 := n5_; have NB432_428 := n6_; have NB428_432 := n7_; clear n0_ n1_ n2_ n3_ n4_ n5_ n6_ n7_; (try clear hb); (try clear hb2); (try clear hk); (try clear hi)) | ((with_reducible refine gate_callee (f := 58) rfl ?_); refine goesL_ (some 10) rfl rfl Try.func58 (by kernel_rfl) rfl #[.pointer (some ⟨g432, 0, none⟩)] rfl (by (try simp only [List.map_toArray, List.map_cons, List.map_nil]); first | done | rfl) ?_; (with_reducible refine (spec_l3any.callsC k g432 t429 t430 t431 t433 t434 t435 t436 t439 t440 w _ ?side1 ?side2 A3.out).mono ?_); (case side1 => repeat (first | (with_reducible first | exact HI432.out | apply IsS83.alloc | apply IsS83.drewN | apply IsS83.drew | apply IsS83.set_1 | apply IsS83.set_2 | refine IsS83.far ?_ NB432_427.out _ | refine IsS83.far ?_ NB432_428.out _) | exact HI432.out)); (case side2 => repeat (first | (with_reducible first | exact HB.out | apply h1 | apply h2 | apply h3 | refine h4 ?_ (IsS83.ge HI432.out) | refine h4 ?_ GE427.out | refine h4 ?_ GE428.out) | exact HB.out)); rintro e w11 ⟨b435, v437, rfl, ho0, hi, hb, hk, ⟨⟨hcnb435, hltb435⟩⟩⟩; refine ⟨_, rfl, ?_⟩; have LTb435 := Aside0.mk hltb435; clear hltb435; subst hcnb435; have n0_ := Aside0.mk (KeepBut.blk hk (g' := gb427) (o := .cells #[.int .i64 0, .int .i64 0, .float .f64 0, .slice none 0 0] 25 (0, 0)) (bup BK427.out) NB427_432.out (by simp)); have n1_ := Aside0.mk (KeepBut.blk hk (g' := gb428) (o := .cells #[.int .i64 0, .int .i64 0, .float .f64 0, .slice none 0 0] 25 (0, 0)) (bup BK428.out) NB428_432.out (by simp)); have n2_ := Aside0.mk (Kd.R_lower ho0 (below_size (by repeat (first | (with_reducible first | exact HB.out | apply h1 | apply h2 | apply h3 | refine h4 ?_ (IsS83.ge HI432.out) | refine h4 ?_ GE427.out | refine h4 ?_ GE428.out) | exact HB.out)))); have n3_ := Aside0.mk (hb); have n4_ := Aside0.mk (hi); clear BK427; clear BK428; clear HB; clear HI432; have BK427 := n0_; have BK428 := n1_; have HO438 := n2_; have HB := n3_; have HI432 := n4_; clear n0_ n1_ n2_ n3_ n4_; (try clear hb); (try clear hb2); (try clear hk); (try clear hi); (try clear ho0)) | ((with_reducible refine gate_dst (N := 5) rfl ?_); refine box_event ?hg (N := 5) ?hd (cs := #[.int .i64 0, .int .i64 0, .float .f64 0, .slice none 0 0]) (t := 25) ?hr ?_; (case hd => rfl); (case hg => rfl); (case hr => first | (go_simp; done) | (go_simp; rfl)); intro gb441 hg w12 hbox hb; have n0_ := Aside0.mk (Kd.R_below (Kd.rup HO438.out) hb); have n1_ := Aside0.mk (blk_below (bup BK427.out) hb); have n2_ := Aside0.mk (blk_below (bup BK428.out) hb); have n3_ := Aside0.mk (IsS83.below (by repeat (first | (with_reducible first | exact HI432.out | apply IsS83.alloc | apply IsS83.drewN | apply IsS83.drew | apply IsS83.set_1 | apply IsS83.set_2 | refine IsS83.far ?_ NB432_427.out _ | refine IsS83.far ?_ NB432_428.out _) | exact HI432.out)) hb); have n4_ := Aside0.mk (below_step (by repeat (first | (with_reducible first | exact HB.out | apply h1 | apply h2 | apply h3 | refine h4 ?_ (IsS83.ge HI432.out) | refine h4 ?_ GE427.out | refine h4 ?_ GE428.out) | exact HB.out)) hb); have n5_ := Aside0.mk (hbox); have n6_ := Geq.mk ((by rw [hg]; exact (below_size (by repeat (first | (with_reducible first | exact HB.out | apply h1 | apply h2 | apply h3 | refine h4 ?_ (IsS83.ge HI432.out) | refine h4 ?_ GE427.out | refine h4 ?_ GE428.out) | exact HB.out))) : w.heap.size ≤ gb441)); have n7_ := Geq.mk ((by rw [hg]; exact (below_size (by repeat (first | (with_reducible first | exact HB.out | apply h1 | apply h2 | apply h3 | refine h4 ?_ (IsS83.ge HI432.out) | refine h4 ?_ GE427.out | refine h4 ?_ GE428.out) | exact HB.out))) : w.heap.size ≤ gb441)); have n8_ := Neq.mk ((by rw [hg]; exact Nat.ne_of_lt (blk_lt (g := gb427) (o := .cells #[.int .i64 0, .int .i64 0, .float .f64 0, .slice none 0 0] 25 (0, 0)) (bup BK427.out)) : gb427 ≠ gb441)); have n9_ := Neq.mk ((by rw [hg]; exact Nat.ne_of_gt (blk_lt (g := gb427) (o := .cells #[.int .i64 0, .int .i64 0, .float .f64 0, .slice none 0 0] 25 (0, 0)) (bup BK427.out)) : gb441 ≠ gb427)); have n10_ := Neq.mk ((by rw [hg]; exact Nat.ne_of_lt (blk_lt (g := gb428) (o := .cells #[.int .i64 0, .int .i64 0, .float .f64 0, .slice none 0 0] 25 (0, 0)) (bup BK428.out)) : gb428 ≠ gb441)); have n11_ := Neq.mk ((by rw [hg]; exact Nat.ne_of_gt (blk_lt (g := gb428) (o := .cells #[.int .i64 0, .int .i64 0, .float .f64 0, .slice none 0 0] 25 (0, 0)) (bup BK428.out)) : gb441 ≠ gb428)); have n12_ := Aside0.mk ((by rw [hg]; exact Nat.ne_of_lt (IsS83.lt (show IsS83 w _ g432 t429 t439 t440 from by repeat (first | (with_reducible first | exact HI432.out | apply IsS83.alloc | apply IsS83.drewN | apply IsS83.drew | apply IsS83.set_1 | apply IsS83.set_2 | refine IsS83.far ?_ NB432_427.out _ | refine IsS83.far ?_ NB432_428.out _) | exact HI432.out))) : g432 ≠ gb441)); have n13_ := Aside0.mk ((by rw [hg]; exact Nat.ne_of_gt (IsS83.lt (show IsS83 w _ g432 t429 t439 t440 from by repeat (first | (with_reducible first | exact HI432.out | apply IsS83.alloc | apply IsS83.drewN | apply IsS83.drew | apply IsS83.set_1 | apply IsS83.set_2 | refine IsS83.far ?_ NB432_427.out _ | refine IsS83.far ?_ NB432_428.out _) | exact HI432.out))) : gb441 ≠ g432)); clear HO438; clear BK427; clear BK428; clear HI432; clear HB; have HO438 := n0_; have BK427 := n1_; have BK428 := n2_; have HI432 := n3_; have HB := n4_; have BK441 := n5_; have GW441 := n6_; have GE441 := n7_; have NB427_441 := n8_; have NB441_427 := n9_; have NB428_441 := n10_; have NB441_428 := n11_; have NB432_441 := n12_; have NB441_432 := n13_; clear n0_ n1_ n2_ n3_ n4_ n5_ n6_ n7_ n8_ n9_ n10_ n11_ n12_ n13_; clear hb hbox hg; have hnb13 := NB441_427.out; have hnc13 := NB427_441.out; have hnb14 := NB441_428.out; have hnc14 := NB428_441.out; have hnb15 := NB441_432.out; have hnc15 := NB432_441.out; obtain ⟨hcz16_0, hcz16_1, hcz16_2, hcz16_3⟩ := blk_cells4 BK441.out; obtain ⟨hfz16_0, hfz16_1, hfz16_2, hfz16_3⟩ := blk_frozens4 BK441.out; obtain ⟨Ao17, co17, eo17⟩ := Kd.R_slice HO438.out; subst eo17) | ((with_reducible refine gate_callee (f := 58) rfl ?_); refine goesL_ (some 12) rfl rfl Try.func58 (by kernel_rfl) rfl #[.pointer (some ⟨g432, 0, none⟩)] rfl (by (try simp only [List.map_toArray, List.map_cons, List.map_nil]); first | done | rfl) ?_; (with_reducible refine (spec_l3any.callsC k g432 t429 t439 t440 t442 t443 t444 t445 t448 t449 w _ ?side1 ?side2 A4.out).mono ?_); (case side1 => repeat (first | (with_reducible first | exact HI432.out | apply IsS83.alloc | apply IsS83.drewN | apply IsS83.drew | apply IsS83.set_1 | apply IsS83.set_2 | refine IsS83.far ?_ NB432_427.out _ | refine IsS83.far ?_ NB432_428.out _ | refine IsS83.far ?_ NB432_441.out _) | exact HI432.out)); (case side2 => repeat (first | (with_reducible first | exact HB.out | apply h1 | apply h2 | apply h3 | refine h4 ?_ (IsS83.ge HI432.out) | refine h4 ?_ GE427.out | refine h4 ?_ GE428.out | refine h4 ?_ GE441.out) | exact HB.out)); rintro e w18 ⟨b444, v446, rfl, ho0, hi, hb, hk, ⟨⟨hcnb444, hltb444⟩⟩⟩; refine ⟨_, rfl, ?_⟩; have LTb444 := Aside0.mk hltb444; clear hltb444; subst hcnb444; have n0_ := Aside0.mk (KeepBut.blk hk (g' := gb427) (o := .cells #[.int .i64 0, .int .i64 0, .float .f64 0, .slice none 0 0] 25 (0, 0)) (bput BK427.out) NB427_432.out (by simp)); have n1_ := Aside0.mk (KeepBut.blk hk (g' := gb428) (o := .cells #[.int .i64 0, .int .i64 0, .float .f64 0, .slice none 0 0] 25 (0, 0)) (bput BK428.out) NB428_432.out (by simp)); have n2_ := Aside0.mk (Kd.R_mono (Kd.R_told (Kd.R_oldK (IsS83.apart (show IsS83 w _ g432 t429 t439 t440 from by repeat (first | (with_reducible first | exact HI432.out | apply IsS83.alloc | apply IsS83.drewN | apply IsS83.drew | apply IsS83.set_1 | apply IsS83.set_2 | refine IsS83.far ?_ NB432_427.out _ | refine IsS83.far ?_ NB432_428.out _ | refine IsS83.far ?_ NB432_441.out _) | exact HI432.out)) ((Kd.roff1 HO438.out BK441.out (by decide))) (by decide)) hk) (Kd.R_base ho0)) (fun _ h_ => h_.1)); have n3_ := Aside0.mk (KeepBut.blk hk (g' := gb441) (o := .cells #[.int .i64 t433, .int .i64 t434, .float .f64 b435, .slice Ao17 t436.length co17] 25 (0, 0)) (bput BK441.out) NB441_432.out (by simp)); have n4_ := Aside0.mk (Kd.R_lower (Kd.R_new' ho0 (Kd.R_lt ((Kd.roff1 HO438.out BK441.out (by decide))))) (below_size (by repeat (first | (with_reducible first | exact HB.out | apply h1 | apply h2 | apply h3 | refine h4 ?_ (IsS83.ge HI432.out) | refine h4 ?_ GE427.out | refine h4 ?_ GE428.out | refine h4 ?_ GE441.out) | exact HB.out)))); have n5_ := Aside0.mk (hb); have n6_ := Aside0.mk (hi); clear BK427; clear BK428; clear HO438; clear BK441; clear HB; clear HI432; have BK427 := n0_; have BK428 := n1_; have HO438 := n2_; have BK441 := n3_; have HO447 := n4_; have HB := n5_; have HI432 := n6_; clear n0_ n1_ n2_ n3_ n4_ n5_ n6_; (try clear hb); (try clear hb2); (try clear hk); (try clear hi); (try clear ho0)) | ((with_reducible refine gate_dst (N := 6) rfl ?_); refine box_event ?hg (N := 6) ?hd (cs := #[.int .i64 0, .int .i64 0, .float .f64 0, .slice none 0 0]) (t := 25) ?hr ?_; (case hd => rfl); (case hg => rfl); (case hr => first | (go_simp; done) | (go_simp; rfl)); intro gb450 hg w19 hbox hb; have n0_ := Aside0.mk (Kd.R_below (Kd.rup HO438.out) hb); have n1_ := Aside0.mk (Kd.R_below (Kd.rup HO447.out) hb); have n2_ := Aside0.mk (blk_below (bup BK427.out) hb); have n3_ := Aside0.mk (blk_below (bup BK428.out) hb); have n4_ := Aside0.mk (IsS83.below (by repeat (first | (with_reducible first | exact HI432.out | apply IsS83.alloc | apply IsS83.drewN | apply IsS83.drew | apply IsS83.set_1 | apply IsS83.set_2 | refine IsS83.far ?_ NB432_427.out _ | refine IsS83.far ?_ NB432_428.out _ | refine IsS83.far ?_ NB432_441.out _) | exact HI432.out)) hb); have n5_ := Aside0.mk (blk_below (bup BK441.out) hb); have n6_ := Aside0.mk (below_step (by repeat (first | (with_reducible first | exact HB.out | apply h1 | apply h2 | apply h3 | refine h4 ?_ (IsS83.ge HI432.out) | refine h4 ?_ GE427.out | refine h4 ?_ GE428.out | refine h4 ?_ GE441.out) | exact HB.out)) hb); have n7_ := Aside0.mk (hbox); have n8_ := Geq.mk ((by rw [hg]; exact (below_size (by repeat (first | (with_reducible first | exact HB.out | apply h1 | apply h2 | apply h3 | refine h4 ?_ (IsS83.ge HI432.out) | refine h4 ?_ GE427.out | refine h4 ?_ GE428.out | refine h4 ?_ GE441.out) | exact HB.out))) : w.heap.size ≤ gb450)); have n9_ := Geq.mk ((by rw [hg]; exact (below_size (by repeat (first | (with_reducible first | exact HB.out | apply h1 | apply h2 | apply h3 | refine h4 ?_ (IsS83.ge HI432.out) | refine h4 ?_ GE427.out | refine h4 ?_ GE428.out | refine h4 ?_ GE441.out) | exact HB.out))) : w.heap.size ≤ gb450)); have n10_ := Neq.mk ((by rw [hg]; exact Nat.ne_of_lt (blk_lt (g := gb427) (o := .cells #[.int .i64 0, .int .i64 0, .float .f64 0, .slice none 0 0] 25 (0, 0)) (bup BK427.out)) : gb427 ≠ gb450)); have n11_ := Neq.mk ((by rw [hg]; exact Nat.ne_of_gt (blk_lt (g := gb427) (o := .cells #[.int .i64 0, .int .i64 0, .float .f64 0, .slice none 0 0] 25 (0, 0)) (bup BK427.out)) : gb450 ≠ gb427)); have n12_ := Neq.mk ((by rw [hg]; exact Nat.ne_of_lt (blk_lt (g := gb428) (o := .cells #[.int .i64 0, .int .i64 0, .float .f64 0, .slice none 0 0] 25 (0, 0)) (bup BK428.out)) : gb428 ≠ gb450)); have n13_ := Neq.mk ((by rw [hg]; exact Nat.ne_of_gt (blk_lt (g := gb428) (o := .cells #[.int .i64 0, .int .i64 0, .float .f64 0, .slice none 0 0] 25 (0, 0)) (bup BK428.out)) : gb450 ≠ gb428)); have n14_ := Neq.mk ((by rw [hg]; exact Nat.ne_of_lt (blk_lt (g := gb441) (o := .cells #[.int .i64 t433, .int .i64 t434, .float .f64 b435, .slice Ao17 t436.length co17] 25 (0, 0)) (bup BK441.out)) : gb441 ≠ gb450)); have n15_ := Neq.mk ((by rw [hg]; exact Nat.ne_of_gt (blk_lt (g := gb441) (o := .cells #[.int .i64 t433, .int .i64 t434, .float .f64 b435, .slice Ao17 t436.length co17] 25 (0, 0)) (bup BK441.out)) : gb450 ≠ gb441)); have n16_ := Aside0.mk ((by rw [hg]; exact Nat.ne_of_lt (IsS83.lt (show IsS83 w _ g432 t429 t448 t449 from by repeat (first | (with_reducible first | exact HI432.out | apply IsS83.alloc | apply IsS83.drewN | apply IsS83.drew | apply IsS83.set_1 | apply IsS83.set_2 | refine IsS83.far ?_ NB432_427.out _ | refine IsS83.far ?_ NB432_428.out _ | refine IsS83.far ?_ NB432_441.out _) | exact HI432.out))) : g432 ≠ gb450)); have n17_ := Aside0.mk ((by rw [hg]; exact Nat.ne_of_gt (IsS83.lt (show IsS83 w _ g432 t429 t448 t449 from by repeat (first | (with_reducible first | exact HI432.out | apply IsS83.alloc | apply IsS83.drewN | apply IsS83.drew | apply IsS83.set_1 | apply IsS83.set_2 | refine IsS83.far ?_ NB432_427.out _ | refine IsS83.far ?_ NB432_428.out _ | refine IsS83.far ?_ NB432_441.out _) | exact HI432.out))) : gb450 ≠ g432)); clear HO438; clear HO447; clear BK427; clear BK428; clear HI432; clear BK441; clear HB; have HO438 := n0_; have HO447 := n1_; have BK427 := n2_; have BK428 := n3_; have HI432 := n4_; have BK441 := n5_; have HB := n6_; have BK450 := n7_; have GW450 := n8_; have GE450 := n9_; have NB427_450 := n10_; have NB450_427 := n11_; have NB428_450 := n12_; have NB450_428 := n13_; have NB441_450 := n14_; have NB450_441 := n15_; have NB432_450 := n16_; have NB450_432 := n17_; clear n0_ n1_ n2_ n3_ n4_ n5_ n6_ n7_ n8_ n9_ n10_ n11_ n12_ n13_ n14_ n15_ n16_ n17_; clear hb hbox hg; have hnb20 := NB450_427.out; have hnc20 := NB427_450.out; have hnb21 := NB450_428.out; have hnc21 := NB428_450.out; have hnb22 := NB450_441.out; have hnc22 := NB441_450.out; have hnb23 := NB450_432.out; have hnc23 := NB432_450.out; obtain ⟨hcz24_0, hcz24_1, hcz24_2, hcz24_3⟩ := blk_cells4 BK450.out; obtain ⟨hfz24_0, hfz24_1, hfz24_2, hfz24_3⟩ := blk_frozens4 BK450.out; obtain ⟨Ao25, co25, eo25⟩ := Kd.R_slice HO447.out; subst eo25) | ((with_reducible refine gate_callee (f := 59) rfl ?_); refine goesL_ (some 14) rfl rfl Try.func59 (by kernel_rfl) rfl #[.pointer (some ⟨g432, 0, none⟩), .int .i64 4] rfl (by (try simp only [List.map_toArray, List.map_cons, List.map_nil]); first | done | rfl) ?_; (with_reducible refine (spec_l1Below.calls g432 t429 t448 t449 4 t451 t452 t453 w _ ?side1 ?side2 A5.out).mono ?_); (case side1 => repeat (first | (with_reducible first | exact HI432.out | apply IsS83.alloc | apply IsS83.drewN | apply IsS83.drew | apply IsS83.set_1 | apply IsS83.set_2 | refine IsS83.far ?_ NB432_427.out _ | refine IsS83.far ?_ NB432_428.out _ | refine IsS83.far ?_ NB432_441.out _ | refine IsS83.far ?_ NB432_450.out _) | exact HI432.out)); (case side2 => repeat (first | (with_reducible first | exact HB.out | apply h1 | apply h2 | apply h3 | refine h4 ?_ (IsS83.ge HI432.out) | refine h4 ?_ GE427.out | refine h4 ?_ GE428.out | refine h4 ?_ GE441.out | refine h4 ?_ GE450.out) | exact HB.out)); rintro e w26 ⟨rfl, hi, hb, hk⟩; refine ⟨_, rfl, ?_⟩; have n0_ := Aside0.mk (KeepBut.blk hk (g' := gb427) (o := .cells #[.int .i64 0, .int .i64 0, .float .f64 0, .slice none 0 0] 25 (0, 0)) (bput BK427.out) NB427_432.out (by simp)); have n1_ := Aside0.mk (KeepBut.blk hk (g' := gb428) (o := .cells #[.int .i64 0, .int .i64 0, .float .f64 0, .slice none 0 0] 25 (0, 0)) (bput BK428.out) NB428_432.out (by simp)); have n2_ := Aside0.mk (Kd.R_mono (Kd.R_keep (IsS83.apart (show IsS83 w _ g432 t429 t448 t449 from by repeat (first | (with_reducible first | exact HI432.out | apply IsS83.alloc | apply IsS83.drewN | apply IsS83.drew | apply IsS83.set_1 | apply IsS83.set_2 | refine IsS83.far ?_ NB432_427.out _ | refine IsS83.far ?_ NB432_428.out _ | refine IsS83.far ?_ NB432_441.out _ | refine IsS83.far ?_ NB432_450.out _) | exact HI432.out)) ((Kd.roff1 HO438.out BK450.out (by decide))) (by decide)) hk (fun _ h => h.2)) (fun _ h => h.1)); have n3_ := Aside0.mk (KeepBut.blk hk (g' := gb441) (o := .cells #[.int .i64 t433, .int .i64 t434, .float .f64 b435, .slice Ao17 t436.length co17] 25 (0, 0)) (bput BK441.out) NB441_432.out (by simp)); have n4_ := Aside0.mk (Kd.R_mono (Kd.R_keep (IsS83.apart (show IsS83 w _ g432 t429 t448 t449 from by repeat (first | (with_reducible first | exact HI432.out | apply IsS83.alloc | apply IsS83.drewN | apply IsS83.drew | apply IsS83.set_1 | apply IsS83.set_2 | refine IsS83.far ?_ NB432_427.out _ | refine IsS83.far ?_ NB432_428.out _ | refine IsS83.far ?_ NB432_441.out _ | refine IsS83.far ?_ NB432_450.out _) | exact HI432.out)) ((Kd.roff1 HO447.out BK450.out (by decide))) (by decide)) hk (fun _ h => h.2)) (fun _ h => h.1)); have n5_ := Aside0.mk (KeepBut.blk hk (g' := gb450) (o := .cells #[.int .i64 t442, .int .i64 t443, .float .f64 b444, .slice Ao25 t445.length co25] 25 (0, 0)) (bput BK450.out) NB450_432.out (by simp)); have n6_ := Aside0.mk (hb); have n7_ := Aside0.mk (hi); clear BK427; clear BK428; clear HO438; clear BK441; clear HO447; clear BK450; clear HB; clear HI432; have BK427 := n0_; have BK428 := n1_; have HO438 := n2_; have BK441 := n3_; have HO447 := n4_; have BK450 := n5_; have HB := n6_; have HI432 := n7_; clear n0_ n1_ n2_ n3_ n4_ n5_ n6_ n7_; (try clear hb); (try clear hb2); (try clear hk); (try clear hi); obtain ⟨hcz27_0, hcz27_1, hcz27_2, hcz27_3⟩ := blk_cells4 BK441.out; obtain ⟨hfz27_0, hfz27_1, hfz27_2, hfz27_3⟩ := blk_frozens4 BK441.out) | ((with_reducible refine gate_callee (f := 60) rfl ?_); refine goesL_ (some 18) rfl rfl Try.func60 (by kernel_rfl) rfl #[.agg #[.int .i64 t433, .int .i64 t434, .float .f64 b435, .slice Ao17 t436.length co17]] rfl (by (try simp only [List.map_toArray, List.map_cons, List.map_nil]); first | done | rfl) ?_; (with_reducible refine (spec_l3copy.callsC t433 t434 b435 _ _ t436 t454 t455 t456 t457 _ ?side1 ?side2 LTb435.out A7.out).mono ?_); (case side1 => repeat (first | exact (Kd.R_reads' HO438.out).2.2 | (with_reducible refine Kd.C_alloc ?_ _) | (with_reducible refine Kd.C_drewN ?_ _) | (with_reducible refine Kd.C_drew ?_))); (case side2 => exact (Kd.R_reads' HO438.out).2.1); rintro e w28 ⟨b456, v458, rfl, ho0, hb, ⟨⟨hcnb456, hltb456⟩⟩⟩; refine ⟨_, rfl, ?_⟩; have LTb456 := Aside0.mk hltb456; clear hltb456; subst hcnb456; have n0_ := Aside0.mk (Kd.R_elder' (Kd.rup HO438.out) (Kd.R_base ho0) hb); have n1_ := Aside0.mk (Kd.R_elder' (Kd.rup HO447.out) (Kd.R_base ho0) hb); have n2_ := Aside0.mk (Kd.R_lower (Kd.R_new' (Kd.R_new' ho0 (Kd.R_lt (Kd.rup HO438.out))) (Kd.R_lt (Kd.rup HO447.out))) (below_size (by repeat (first | (with_reducible first | exact HB.out | apply h1 | apply h2 | apply h3 | refine h4 ?_ (IsS83.ge HI432.out) | refine h4 ?_ GE427.out | refine h4 ?_ GE428.out | refine h4 ?_ GE441.out | refine h4 ?_ GE450.out) | exact HB.out)))); have n3_ := Aside0.mk (blk_below (bup BK427.out) hb); have n4_ := Aside0.mk (blk_below (bup BK428.out) hb); have n5_ := Aside0.mk (IsS83.below (by repeat (first | (with_reducible first | exact HI432.out | apply IsS83.alloc | apply IsS83.drewN | apply IsS83.drew | apply IsS83.set_1 | apply IsS83.set_2 | refine IsS83.far ?_ NB432_427.out _ | refine IsS83.far ?_ NB432_428.out _ | refine IsS83.far ?_ NB432_441.out _ | refine IsS83.far ?_ NB432_450.out _) | exact HI432.out)) hb); have n6_ := Aside0.mk (blk_below (bup BK441.out) hb); have n7_ := Aside0.mk (blk_below (bup BK450.out) hb); have n8_ := Aside0.mk (below_step (by repeat (first | (with_reducible first | exact HB.out | apply h1 | apply h2 | apply h3 | refine h4 ?_ (IsS83.ge HI432.out) | refine h4 ?_ GE427.out | refine h4 ?_ GE428.out | refine h4 ?_ GE441.out | refine h4 ?_ GE450.out) | exact HB.out)) hb); clear HO438; clear HO447; clear BK427; clear BK428; clear HI432; clear BK441; clear BK450; clear HB; have HO438 := n0_; have HO447 := n1_; have HO459 := n2_; have BK427 := n3_; have BK428 := n4_; have HI432 := n5_; have BK441 := n6_; have BK450 := n7_; have HB := n8_; clear n0_ n1_ n2_ n3_ n4_ n5_ n6_ n7_ n8_; (try clear hb); (try clear hb2); (try clear hk); (try clear hi); (try clear ho0); obtain ⟨hcz29_0, hcz29_1, hcz29_2, hcz29_3⟩ := blk_cells4 BK450.out; obtain ⟨hfz29_0, hfz29_1, hfz29_2, hfz29_3⟩ := blk_frozens4 BK450.out; obtain ⟨Ao30, co30, eo30⟩ := Kd.R_slice HO459.out; subst eo30))
  have n0_ : Aside0 (Kd.R (Kd.int .u8) 5 ((((w28.setCell ⟨gb450, 0, none⟩ (.int .i64 t454)).setCell ⟨gb450, 1, none⟩ (.int .i64 t455)).setCell ⟨gb450, 2, none⟩ (.float .f64 b456)).setCell ⟨gb450, 3, none⟩ (.slice Ao30 t457.length co30)) w.heap.size (fun k_ => some k_ ≠ (.slice Ao25 t445.length co25 : Value).ownBlock ∧ some k_ ≠ (.slice Ao30 t457.length co30 : Value).ownBlock) (.slice Ao17 t436.length co17) t436) := ⟨by exact Kd.rup (Kd.R_mono (Kd.R_far (p := ⟨gb450, 3, none⟩) (Kd.R_far (p := ⟨gb450, 2, none⟩) (Kd.R_far (p := ⟨gb450, 1, none⟩) (Kd.R_far (p := ⟨gb450, 0, none⟩) (Kd.R_types HO438.out BK450.out (by decide)) (fun _ hk => hk.2) (.int .i64 t454)) (fun _ hk => hk.2) (.int .i64 t455)) (fun _ hk => hk.2) (.float .f64 b456)) (fun _ hk => hk.2) (.slice Ao30 t457.length co30)) (fun _ hk => ⟨hk.1.1.2, hk.1.2⟩))⟩
  have n1_ : Aside0 (Kd.R (Kd.int .u8) 5 ((((w28.setCell ⟨gb450, 0, none⟩ (.int .i64 t454)).setCell ⟨gb450, 1, none⟩ (.int .i64 t455)).setCell ⟨gb450, 2, none⟩ (.float .f64 b456)).setCell ⟨gb450, 3, none⟩ (.slice Ao30 t457.length co30)) w.heap.size (fun k_ => some k_ ≠ (.slice Ao17 t436.length co17 : Value).ownBlock ∧ some k_ ≠ (.slice Ao30 t457.length co30 : Value).ownBlock) (.slice Ao25 t445.length co25) t445) := ⟨by exact Kd.rup (Kd.R_mono (Kd.R_far (p := ⟨gb450, 3, none⟩) (Kd.R_far (p := ⟨gb450, 2, none⟩) (Kd.R_far (p := ⟨gb450, 1, none⟩) (Kd.R_far (p := ⟨gb450, 0, none⟩) (Kd.R_types HO447.out BK450.out (by decide)) (fun _ hk => hk.2) (.int .i64 t454)) (fun _ hk => hk.2) (.int .i64 t455)) (fun _ hk => hk.2) (.float .f64 b456)) (fun _ hk => hk.2) (.slice Ao30 t457.length co30)) (fun _ hk => ⟨hk.1.1.2, hk.1.2⟩))⟩
  have n2_ : Aside0 (Kd.R (Kd.int .u8) 5 ((((w28.setCell ⟨gb450, 0, none⟩ (.int .i64 t454)).setCell ⟨gb450, 1, none⟩ (.int .i64 t455)).setCell ⟨gb450, 2, none⟩ (.float .f64 b456)).setCell ⟨gb450, 3, none⟩ (.slice Ao30 t457.length co30)) w.heap.size (fun k_ => some k_ ≠ (.slice Ao17 t436.length co17 : Value).ownBlock ∧ some k_ ≠ (.slice Ao25 t445.length co25 : Value).ownBlock) (.slice Ao30 t457.length co30) t457) := ⟨by exact Kd.rup (Kd.R_mono (Kd.R_far (p := ⟨gb450, 3, none⟩) (Kd.R_far (p := ⟨gb450, 2, none⟩) (Kd.R_far (p := ⟨gb450, 1, none⟩) (Kd.R_far (p := ⟨gb450, 0, none⟩) (Kd.R_types HO459.out BK450.out (by decide)) (fun _ hk => hk.2) (.int .i64 t454)) (fun _ hk => hk.2) (.int .i64 t455)) (fun _ hk => hk.2) (.float .f64 b456)) (fun _ hk => hk.2) (.slice Ao30 t457.length co30)) (fun _ hk => ⟨hk.1.1.2, hk.1.2⟩))⟩
  have n3_ : Aside0 (((((w28.setCell ⟨gb450, 0, none⟩ (.int .i64 t454)).setCell ⟨gb450, 1, none⟩ (.int .i64 t455)).setCell ⟨gb450, 2, none⟩ (.float .f64 b456)).setCell ⟨gb450, 3, none⟩ (.slice Ao30 t457.length co30)).heap[gb427]? = some (.cells #[.int .i64 0, .int .i64 0, .float .f64 0, .slice none 0 0] 25 (0, 0))) := ⟨bput BK427.out⟩
  have n4_ : Aside0 (((((w28.setCell ⟨gb450, 0, none⟩ (.int .i64 t454)).setCell ⟨gb450, 1, none⟩ (.int .i64 t455)).setCell ⟨gb450, 2, none⟩ (.float .f64 b456)).setCell ⟨gb450, 3, none⟩ (.slice Ao30 t457.length co30)).heap[gb428]? = some (.cells #[.int .i64 0, .int .i64 0, .float .f64 0, .slice none 0 0] 25 (0, 0))) := ⟨bput BK428.out⟩
  have n5_ : Aside0 (((((w28.setCell ⟨gb450, 0, none⟩ (.int .i64 t454)).setCell ⟨gb450, 1, none⟩ (.int .i64 t455)).setCell ⟨gb450, 2, none⟩ (.float .f64 b456)).setCell ⟨gb450, 3, none⟩ (.slice Ao30 t457.length co30)).heap[gb441]? = some (.cells #[.int .i64 t433, .int .i64 t434, .float .f64 b435, .slice Ao17 t436.length co17] 25 (0, 0))) := ⟨bput BK441.out⟩
  have n6_ : Aside0 (((((w28.setCell ⟨gb450, 0, none⟩ (.int .i64 t454)).setCell ⟨gb450, 1, none⟩ (.int .i64 t455)).setCell ⟨gb450, 2, none⟩ (.float .f64 b456)).setCell ⟨gb450, 3, none⟩ (.slice Ao30 t457.length co30)).heap[gb450]? = some (.cells #[.int .i64 t454, .int .i64 t455, .float .f64 b456, .slice Ao30 t457.length co30] 25 (0, 0))) := ⟨bput BK450.out⟩
  have n7_ : Aside0 (IsS83 w ((((w28.setCell ⟨gb450, 0, none⟩ (.int .i64 t454)).setCell ⟨gb450, 1, none⟩ (.int .i64 t455)).setCell ⟨gb450, 2, none⟩ (.float .f64 b456)).setCell ⟨gb450, 3, none⟩ (.slice Ao30 t457.length co30)) g432 t429 t452 t453) := ⟨by repeat (first | (with_reducible first | exact HI432.out | apply IsS83.alloc | apply IsS83.drewN | apply IsS83.drew | apply IsS83.set_1 | apply IsS83.set_2 | refine IsS83.far ?_ NB432_427.out _ | refine IsS83.far ?_ NB432_428.out _ | refine IsS83.far ?_ NB432_441.out _ | refine IsS83.far ?_ NB432_450.out _) | exact HI432.out)⟩
  have n8_ : Aside0 (Below w.heap.size w ((((w28.setCell ⟨gb450, 0, none⟩ (.int .i64 t454)).setCell ⟨gb450, 1, none⟩ (.int .i64 t455)).setCell ⟨gb450, 2, none⟩ (.float .f64 b456)).setCell ⟨gb450, 3, none⟩ (.slice Ao30 t457.length co30))) := ⟨by repeat (first | (with_reducible first | exact HB.out | apply h1 | apply h2 | apply h3 | refine h4 ?_ (IsS83.ge HI432.out) | refine h4 ?_ GE427.out | refine h4 ?_ GE428.out | refine h4 ?_ GE441.out | refine h4 ?_ GE450.out) | exact HB.out)⟩
  (try clear HO438)
  (try clear HO447)
  (try clear HO459)
  (try clear BK427)
  (try clear BK428)
  (try clear BK441)
  (try clear BK450)
  (try clear HI432)
  (try clear HB)
  generalize ((((w28.setCell ⟨gb450, 0, none⟩ (.int .i64 t454)).setCell ⟨gb450, 1, none⟩ (.int .i64 t455)).setCell ⟨gb450, 2, none⟩ (.float .f64 b456)).setCell ⟨gb450, 3, none⟩ (.slice Ao30 t457.length co30)) = w31 at n0_ n1_ n2_ n3_ n4_ n5_ n6_ n7_ n8_ ⊢
  have HO438 := n0_
  have HO447 := n1_
  have HO459 := n2_
  have BK427 := n3_
  have BK428 := n4_
  have BK441 := n5_
  have BK450 := n6_
  have HI432 := n7_
  have HB := n8_
  clear n0_ n1_ n2_ n3_ n4_ n5_ n6_ n7_ n8_
  have n0_ := Aside0.mk (Kd.R_drew HO438.out)
  have n1_ := Aside0.mk (Kd.R_drew HO447.out)
  have n2_ := Aside0.mk (Kd.R_drew HO459.out)
  have n3_ := Aside0.mk (blk_drew BK427.out)
  have n4_ := Aside0.mk (blk_drew BK428.out)
  have n5_ := Aside0.mk (blk_drew BK441.out)
  have n6_ := Aside0.mk (blk_drew BK450.out)
  have n7_ := Aside0.mk (IsS83.drew HI432.out)
  have n8_ := Aside0.mk (below_drew1 HB.out)
  clear HO438
  clear HO447
  clear HO459
  clear BK427
  clear BK428
  clear BK441
  clear BK450
  clear HI432
  clear HB
  have HO438 := n0_
  have HO447 := n1_
  have HO459 := n2_
  have BK427 := n3_
  have BK428 := n4_
  have BK441 := n5_
  have BK450 := n6_
  have HI432 := n7_
  have HB := n8_
  clear n0_ n1_ n2_ n3_ n4_ n5_ n6_ n7_ n8_
  refine start_ (n := 4) (S := fun w' => w'.cell? ⟨gb441, 0, none⟩ = some (.int .i64 t433) ∧ w'.cell? ⟨gb441, 1, none⟩ = some (.int .i64 t434) ∧ w'.cell? ⟨gb441, 2, none⟩ = some (.float .f64 b435) ∧ w'.cell? ⟨gb441, 3, none⟩ = some (.slice Ao17 t436.length co17) ∧ w'.cell? ⟨gb450, 0, none⟩ = some (.int .i64 t454) ∧ w'.cell? ⟨gb450, 1, none⟩ = some (.int .i64 t455) ∧ w'.cell? ⟨gb450, 2, none⟩ = some (.float .f64 b456) ∧ w'.cell? ⟨gb450, 3, none⟩ = some (.slice Ao30 t457.length co30)) (ds := []) #[false, false, false, false] (by kernel_rfl) rfl rfl ⟨(blk_cell BK441.out 0).trans rfl, (blk_cell BK441.out 1).trans rfl, (blk_cell BK441.out 2).trans rfl, (blk_cell BK441.out 3).trans rfl, (blk_cell BK450.out 0).trans rfl, (blk_cell BK450.out 1).trans rfl, (blk_cell BK450.out 2).trans rfl, (blk_cell BK450.out 3).trans rfl⟩ (fun hHeld => ?_)
  generalize w31.drew = w32 at HO438 HO447 HO459 BK427 BK428 BK441 BK450 HI432 HB hHeld ⊢
  refine take_ (i := 0) (N := some 35) (v := ?_) (a' := ?_) #[true, false, false, false] rfl rfl (by kernel_rfl) (fun _ _ _ h => h) (Or.inl ⟨by rfl, ?_⟩) hHeld ?_ ?_
  rotate_left
  ·rintro w' ⟨s0, s1, s2, s3, s4, s5, s6, s7⟩
   go_simp
   with_reducible rfl
  rotate_left
  ·simp only [Act.put, List.setIfInBounds_toArray, List.set_cons_zero, List.set_cons_succ, i64_w, i32_w]
   rfl
  refine take_ (i := 1) (N := some 36) (v := ?_) (a' := ?_) #[true, true, false, false] rfl rfl (by kernel_rfl) (fun _ _ _ h => h) (Or.inl ⟨by rfl, ?_⟩) hHeld ?_ ?_
  rotate_left
  ·rintro w' ⟨s0, s1, s2, s3, s4, s5, s6, s7⟩
   go_simp
   with_reducible rfl
  rotate_left
  ·simp only [Act.put, List.setIfInBounds_toArray, List.set_cons_zero, List.set_cons_succ, i64_w, i32_w]
   rfl
  refine one_ (i := 2) (N := none) #[true, true, true, false] rfl rfl (by kernel_rfl) (by decide) (fun K hK => ?_)
  have hs33 : w32.cell? ⟨gb427, 0, none⟩ = some (.int .i64 0) := (blk_cell BK427.out 0).trans rfl
  have hfs33 := blk_frozen BK427.out 0
  have hns33_1 := NB428_427.out
  have hns33_2 := NB441_427.out
  have hns33_3 := NB450_427.out
  have hms33_1 := NB427_428.out
  have hms33_2 := NB427_441.out
  have hms33_3 := NB427_450.out
  have hs34 : w32.cell? ⟨gb427, 1, none⟩ = some (.int .i64 0) := (blk_cell BK427.out 1).trans rfl
  have hfs34 := blk_frozen BK427.out 1
  have hns34_1 := NB428_427.out
  have hns34_2 := NB441_427.out
  have hns34_3 := NB450_427.out
  have hms34_1 := NB427_428.out
  have hms34_2 := NB427_441.out
  have hms34_3 := NB427_450.out
  have hs35 : w32.cell? ⟨gb427, 2, none⟩ = some (.float .f64 0) := (blk_cell BK427.out 2).trans rfl
  have hfs35 := blk_frozen BK427.out 2
  have hns35_1 := NB428_427.out
  have hns35_2 := NB441_427.out
  have hns35_3 := NB450_427.out
  have hms35_1 := NB427_428.out
  have hms35_2 := NB427_441.out
  have hms35_3 := NB427_450.out
  have hs36 : w32.cell? ⟨gb427, 3, none⟩ = some (.slice none 0 0) := (blk_cell BK427.out 3).trans rfl
  have hfs36 := blk_frozen BK427.out 3
  have hns36_1 := NB428_427.out
  have hns36_2 := NB441_427.out
  have hns36_3 := NB450_427.out
  have hms36_1 := NB427_428.out
  have hms36_2 := NB427_441.out
  have hms36_3 := NB427_450.out
  refine skip_ (w1 := ?_) (by rfl) rfl ?_ ?_
  rotate_left
  ·go_simp
   rfl
  refine hK.out _ _ ⟨((cell_far (p := ⟨gb427, _, none⟩) NB441_427.out _).trans (((cell_far (p := ⟨gb427, _, none⟩) NB441_427.out _).trans (((cell_far (p := ⟨gb427, _, none⟩) NB441_427.out _).trans (((cell_far (p := ⟨gb427, _, none⟩) NB441_427.out _).trans (hHeld.1)))))))), ((cell_far (p := ⟨gb427, _, none⟩) NB441_427.out _).trans (((cell_far (p := ⟨gb427, _, none⟩) NB441_427.out _).trans (((cell_far (p := ⟨gb427, _, none⟩) NB441_427.out _).trans (((cell_far (p := ⟨gb427, _, none⟩) NB441_427.out _).trans (hHeld.2.1)))))))), ((cell_far (p := ⟨gb427, _, none⟩) NB441_427.out _).trans (((cell_far (p := ⟨gb427, _, none⟩) NB441_427.out _).trans (((cell_far (p := ⟨gb427, _, none⟩) NB441_427.out _).trans (((cell_far (p := ⟨gb427, _, none⟩) NB441_427.out _).trans (hHeld.2.2.1)))))))), ((cell_far (p := ⟨gb427, _, none⟩) NB441_427.out _).trans (((cell_far (p := ⟨gb427, _, none⟩) NB441_427.out _).trans (((cell_far (p := ⟨gb427, _, none⟩) NB441_427.out _).trans (((cell_far (p := ⟨gb427, _, none⟩) NB441_427.out _).trans (hHeld.2.2.2.1)))))))), ((cell_far (p := ⟨gb427, _, none⟩) NB450_427.out _).trans (((cell_far (p := ⟨gb427, _, none⟩) NB450_427.out _).trans (((cell_far (p := ⟨gb427, _, none⟩) NB450_427.out _).trans (((cell_far (p := ⟨gb427, _, none⟩) NB450_427.out _).trans (hHeld.2.2.2.2.1)))))))), ((cell_far (p := ⟨gb427, _, none⟩) NB450_427.out _).trans (((cell_far (p := ⟨gb427, _, none⟩) NB450_427.out _).trans (((cell_far (p := ⟨gb427, _, none⟩) NB450_427.out _).trans (((cell_far (p := ⟨gb427, _, none⟩) NB450_427.out _).trans (hHeld.2.2.2.2.2.1)))))))), ((cell_far (p := ⟨gb427, _, none⟩) NB450_427.out _).trans (((cell_far (p := ⟨gb427, _, none⟩) NB450_427.out _).trans (((cell_far (p := ⟨gb427, _, none⟩) NB450_427.out _).trans (((cell_far (p := ⟨gb427, _, none⟩) NB450_427.out _).trans (hHeld.2.2.2.2.2.2.1)))))))), ((cell_far (p := ⟨gb427, _, none⟩) NB450_427.out _).trans (((cell_far (p := ⟨gb427, _, none⟩) NB450_427.out _).trans (((cell_far (p := ⟨gb427, _, none⟩) NB450_427.out _).trans (((cell_far (p := ⟨gb427, _, none⟩) NB450_427.out _).trans (hHeld.2.2.2.2.2.2.2))))))))⟩ (fun hHeld => ?_)
  clear hK K
  refine one_ (i := 3) (N := none) #[true, true, true, true] rfl rfl (by kernel_rfl) (by decide) (fun K hK => ?_)
  have hs37 : w32.cell? ⟨gb428, 0, none⟩ = some (.int .i64 0) := (blk_cell BK428.out 0).trans rfl
  have hfs37 := blk_frozen BK428.out 0
  have hns37_0 := NB427_428.out
  have hns37_2 := NB441_428.out
  have hns37_3 := NB450_428.out
  have hms37_0 := NB428_427.out
  have hms37_2 := NB428_441.out
  have hms37_3 := NB428_450.out
  have hs38 : w32.cell? ⟨gb428, 1, none⟩ = some (.int .i64 0) := (blk_cell BK428.out 1).trans rfl
  have hfs38 := blk_frozen BK428.out 1
  have hns38_0 := NB427_428.out
  have hns38_2 := NB441_428.out
  have hns38_3 := NB450_428.out
  have hms38_0 := NB428_427.out
  have hms38_2 := NB428_441.out
  have hms38_3 := NB428_450.out
  have hs39 : w32.cell? ⟨gb428, 2, none⟩ = some (.float .f64 0) := (blk_cell BK428.out 2).trans rfl
  have hfs39 := blk_frozen BK428.out 2
  have hns39_0 := NB427_428.out
  have hns39_2 := NB441_428.out
  have hns39_3 := NB450_428.out
  have hms39_0 := NB428_427.out
  have hms39_2 := NB428_441.out
  have hms39_3 := NB428_450.out
  have hs40 : w32.cell? ⟨gb428, 3, none⟩ = some (.slice none 0 0) := (blk_cell BK428.out 3).trans rfl
  have hfs40 := blk_frozen BK428.out 3
  have hns40_0 := NB427_428.out
  have hns40_2 := NB441_428.out
  have hns40_3 := NB450_428.out
  have hms40_0 := NB428_427.out
  have hms40_2 := NB428_441.out
  have hms40_3 := NB428_450.out
  refine skip_ (w1 := ?_) (by rfl) rfl ?_ ?_
  rotate_left
  ·go_simp
   rfl
  refine hK.out _ _ ⟨((cell_far (p := ⟨gb428, _, none⟩) NB441_428.out _).trans (((cell_far (p := ⟨gb428, _, none⟩) NB441_428.out _).trans (((cell_far (p := ⟨gb428, _, none⟩) NB441_428.out _).trans (((cell_far (p := ⟨gb428, _, none⟩) NB441_428.out _).trans (hHeld.1)))))))), ((cell_far (p := ⟨gb428, _, none⟩) NB441_428.out _).trans (((cell_far (p := ⟨gb428, _, none⟩) NB441_428.out _).trans (((cell_far (p := ⟨gb428, _, none⟩) NB441_428.out _).trans (((cell_far (p := ⟨gb428, _, none⟩) NB441_428.out _).trans (hHeld.2.1)))))))), ((cell_far (p := ⟨gb428, _, none⟩) NB441_428.out _).trans (((cell_far (p := ⟨gb428, _, none⟩) NB441_428.out _).trans (((cell_far (p := ⟨gb428, _, none⟩) NB441_428.out _).trans (((cell_far (p := ⟨gb428, _, none⟩) NB441_428.out _).trans (hHeld.2.2.1)))))))), ((cell_far (p := ⟨gb428, _, none⟩) NB441_428.out _).trans (((cell_far (p := ⟨gb428, _, none⟩) NB441_428.out _).trans (((cell_far (p := ⟨gb428, _, none⟩) NB441_428.out _).trans (((cell_far (p := ⟨gb428, _, none⟩) NB441_428.out _).trans (hHeld.2.2.2.1)))))))), ((cell_far (p := ⟨gb428, _, none⟩) NB450_428.out _).trans (((cell_far (p := ⟨gb428, _, none⟩) NB450_428.out _).trans (((cell_far (p := ⟨gb428, _, none⟩) NB450_428.out _).trans (((cell_far (p := ⟨gb428, _, none⟩) NB450_428.out _).trans (hHeld.2.2.2.2.1)))))))), ((cell_far (p := ⟨gb428, _, none⟩) NB450_428.out _).trans (((cell_far (p := ⟨gb428, _, none⟩) NB450_428.out _).trans (((cell_far (p := ⟨gb428, _, none⟩) NB450_428.out _).trans (((cell_far (p := ⟨gb428, _, none⟩) NB450_428.out _).trans (hHeld.2.2.2.2.2.1)))))))), ((cell_far (p := ⟨gb428, _, none⟩) NB450_428.out _).trans (((cell_far (p := ⟨gb428, _, none⟩) NB450_428.out _).trans (((cell_far (p := ⟨gb428, _, none⟩) NB450_428.out _).trans (((cell_far (p := ⟨gb428, _, none⟩) NB450_428.out _).trans (hHeld.2.2.2.2.2.2.1)))))))), ((cell_far (p := ⟨gb428, _, none⟩) NB450_428.out _).trans (((cell_far (p := ⟨gb428, _, none⟩) NB450_428.out _).trans (((cell_far (p := ⟨gb428, _, none⟩) NB450_428.out _).trans (((cell_far (p := ⟨gb428, _, none⟩) NB450_428.out _).trans (hHeld.2.2.2.2.2.2.2))))))))⟩ (fun hHeld => ?_)
  clear hK K
  refine done_ (by kernel_rfl) ?_
  try go_wp2
  refine bodyPost_ret (results_cc rfl _ _ gb427 gb428 25 25 #[.int .i64 t433, .int .i64 t434, .float .f64 b435, .slice Ao17 t436.length co17] #[.int .i64 t454, .int .i64 t455, .float .f64 b456, .slice Ao30 t457.length co30] (0, 0) (0, 0) _ _ rfl (bput BK427.out) Try.underlying25 rfl (by kernel_rfl) rfl (bput BK428.out) Try.underlying25 rfl (by kernel_rfl)) rfl ?_
  exact ⟨_, _, _, _, by first | rfl | (simp [errW_none, errW_some] <;> rfl) | (simp [*, errW_none, errW_some] <;> rfl), (Kd.R_mono (Kd.roff2 HO438.out BK427.out (by decide) BK428.out (by decide)) (fun _ hk => hk.2)), (Kd.R_mono (Kd.roff2 HO459.out BK427.out (by decide) BK428.out (by decide)) (fun _ hk => hk.1)), by repeat (first | (with_reducible first | exact HB.out | apply h1 | apply h2 | apply h3 | refine h4 ?_ (IsS83.ge HI432.out) | refine h4 ?_ GE427.out | refine h4 ?_ GE428.out | refine h4 ?_ GE441.out | refine h4 ?_ GE450.out) | exact HB.out), (by first | exact ⟨⟨rfl, LTb435.out⟩⟩ | exact ⟨⟨rfl, LTb444.out⟩⟩ | exact ⟨⟨rfl, LTb456.out⟩⟩ | exact ⟨⟨by first | rfl | decide, by decide⟩⟩ | exact ⟨⟨rfl, fquo_lt (by assumption)⟩⟩), (by first | exact ⟨⟨rfl, LTb435.out⟩⟩ | exact ⟨⟨rfl, LTb444.out⟩⟩ | exact ⟨⟨rfl, LTb456.out⟩⟩ | exact ⟨⟨by first | rfl | decide, by decide⟩⟩ | exact ⟨⟨rfl, fquo_lt (by assumption)⟩⟩)⟩
 ·rw [if_neg c6] at H
  have c6b0 : (t451 == 0) = false := beq_eq_false_iff_ne.mpr c6
  have c6b1 : (t451 != 0) = true := bne_iff_ne.mpr c6
  by_cases c41 : t451 = 1
  ·rw [if_pos c41] at H
   have c41b0 : (t451 == 1) = true := beq_iff_eq.mpr c41
   have c41b1 : (t451 != 1) = false := bne_eq_false_iff_eq.mpr c41
   clear c41
   replace H := Option.bind_eq_some_iff.mp H
   obtain ⟨⟨t460, t461, t462, t463⟩, A420, H⟩ := H
   (try dsimp only at H)
   have A42 := Aside0.mk A420
   clear A420
   replace H := Option.bind_eq_some_iff.mp H
   obtain ⟨⟨t466, t469, t470⟩, A430, H⟩ := H
   (try dsimp only at H)
   have A43 := Aside0.mk A430
   clear A430
   by_cases c44 : t463.length + t466.length < 140737488355328
   ·rw [if_pos c44] at H
    have LMc44 := Aside0.mk c44
    clear c44
    obtain ⟨y471, hy471⟩ : ∃ y_ : List Int, y_ = (t463 ++ t466) := ⟨_, rfl⟩
    replace H : (some (t433, t434, t435, t436, t460, t461, t462, y471)) = some (r1, r2, r3, r4, r5, r6, r7, r8) := by first | (rw [hy471]; with_reducible exact H) | (have H2_ := (Option.bind_some _ _).symm.trans H; rw [hy471]; with_reducible exact H2_) | (have H2_ := (Option.bind_some _ _).symm.trans H; with_reducible exact H2_) | with_reducible exact H | (rw [hy471]; exact H) | exact H
    have Ny471 := Aside0.mk hy471
    clear hy471
    simp only [Option.some.injEq, Prod.mk.injEq] at H
    obtain ⟨rfl, rfl, rfl, rfl, rfl, rfl, rfl, rfl⟩ := H
    go_enter Try.func20, Try.ntmps20
    try go_wp2_with (first | ((with_reducible refine gate_dst (N := 2) rfl ?_); refine box_event ?hg (N := 2) ?hd (cs := #[.int .i64 0, .int .i64 0, .float .f64 0, .slice none 0 0]) (t := 25) ?hr ?_; (case hd => rfl); (case hg => rfl); (case hr => first | (go_simp; done) | (go_simp; rfl)); intro gb427 hg w45 hbox hb; have n0_ := Aside0.mk (below_step (hup HB.out) hb); have n1_ := Aside0.mk (hbox); have n2_ := Geq.mk ((by rw [hg]; exact (below_size (hup HB.out)) : w.heap.size ≤ gb427)); have n3_ := Geq.mk ((by rw [hg]; exact (below_size (hup HB.out)) : w.heap.size ≤ gb427)); clear HB; have HB := n0_; have BK427 := n1_; have GW427 := n2_; have GE427 := n3_; clear n0_ n1_ n2_ n3_; clear hb hbox hg) | ((with_reducible refine gate_dst (N := 3) rfl ?_); refine box_event ?hg (N := 3) ?hd (cs := #[.int .i64 0, .int .i64 0, .float .f64 0, .slice none 0 0]) (t := 25) ?hr ?_; (case hd => rfl); (case hg => rfl); (case hr => first | (go_simp; done) | (go_simp; rfl)); intro gb428 hg w46 hbox hb; have n0_ := Aside0.mk (blk_below (bup BK427.out) hb); have n1_ := Aside0.mk (below_step (hset HB.out) hb); have n2_ := Aside0.mk (hbox); have n3_ := Geq.mk ((by rw [hg]; exact (below_size (hset HB.out)) : w.heap.size ≤ gb428)); have n4_ := Geq.mk ((by rw [hg]; exact (below_size (hset HB.out)) : w.heap.size ≤ gb428)); have n5_ := Neq.mk ((by rw [hg]; exact Nat.ne_of_lt (blk_lt (g := gb427) (o := .cells #[.int .i64 0, .int .i64 0, .float .f64 0, .slice none 0 0] 25 (0, 0)) (bup BK427.out)) : gb427 ≠ gb428)); have n6_ := Neq.mk ((by rw [hg]; exact Nat.ne_of_gt (blk_lt (g := gb427) (o := .cells #[.int .i64 0, .int .i64 0, .float .f64 0, .slice none 0 0] 25 (0, 0)) (bup BK427.out)) : gb428 ≠ gb427)); clear BK427; clear HB; have BK427 := n0_; have HB := n1_; have BK428 := n2_; have GW428 := n3_; have GE428 := n4_; have NB427_428 := n5_; have NB428_427 := n6_; clear n0_ n1_ n2_ n3_ n4_ n5_ n6_; clear hb hbox hg) | ((with_reducible refine gate_callee (f := 57) rfl ?_); refine goesL_ (some 8) rfl rfl Try.func57 (by kernel_rfl) rfl #[.slice A0 l0.length c0] rfl (by (try simp only [List.map_toArray, List.map_cons, List.map_nil]); first | done | rfl) ?_; (with_reducible refine (spec_l1New.calls k _ _ l0 t429 t430 t431 w _ ?side1 ?side2 ?side3 A2.out).mono ?_); (case side1 => with_reducible repeat (first | exact HB.out | refine h4 ?_ GE427.out | refine h4 ?_ GE428.out | apply h1 | apply h2 | apply h3)); (case side2 => exact HR0.out); (case side3 => exact HC0.out); rintro e w47 ⟨g432, rfl, hi, hb, hb2⟩; refine ⟨_, rfl, ?_⟩; have n0_ := Aside0.mk (blk_below (bup BK427.out) hb2); have n1_ := Aside0.mk (blk_below (bup BK428.out) hb2); have n2_ := Aside0.mk (hb); have n3_ := Aside0.mk (hi); have n4_ := Aside0.mk (IsS83.ne_blk hi (blk_below (bup BK427.out) hb2) (by decide)); have n5_ := Aside0.mk (Ne.symm (IsS83.ne_blk hi (blk_below (bup BK427.out) hb2) (by decide))); have n6_ := Aside0.mk (IsS83.ne_blk hi (blk_below (bup BK428.out) hb2) (by decide)); have n7_ := Aside0.mk (Ne.symm (IsS83.ne_blk hi (blk_below (bup BK428.out) hb2) (by decide))); clear BK427; clear BK428; clear HB; have BK427 := n0_; have BK428 := n1_; have HB := n2_; have HI432 := n3_; have NB432_427 := n4_; have NB427_432 := n5_; have NB432_428 := n6_; have NB428_432 := n7_; clear n0_ n1_ n2_ n3_ n4_ n5_ n6_ n7_; (try clear hb); (try clear hb2); (try clear hk); (try clear hi)) | ((with_reducible refine gate_callee (f := 58) rfl ?_); refine goesL_ (some 10) rfl rfl Try.func58 (by kernel_rfl) rfl #[.pointer (some ⟨g432, 0, none⟩)] rfl (by (try simp only [List.map_toArray, List.map_cons, List.map_nil]); first | done | rfl) ?_; (with_reducible refine (spec_l3any.callsC k g432 t429 t430 t431 t433 t434 t435 t436 t439 t440 w _ ?side1 ?side2 A3.out).mono ?_); (case side1 => repeat (first | (with_reducible first | exact HI432.out | apply IsS83.alloc | apply IsS83.drewN | apply IsS83.drew | apply IsS83.set_1 | apply IsS83.set_2 | refine IsS83.far ?_ NB432_427.out _ | refine IsS83.far ?_ NB432_428.out _) | exact HI432.out)); (case side2 => repeat (first | (with_reducible first | exact HB.out | apply h1 | apply h2 | apply h3 | refine h4 ?_ (IsS83.ge HI432.out) | refine h4 ?_ GE427.out | refine h4 ?_ GE428.out) | exact HB.out)); rintro e w48 ⟨b435, v437, rfl, ho0, hi, hb, hk, ⟨⟨hcnb435, hltb435⟩⟩⟩; refine ⟨_, rfl, ?_⟩; have LTb435 := Aside0.mk hltb435; clear hltb435; subst hcnb435; have n0_ := Aside0.mk (KeepBut.blk hk (g' := gb427) (o := .cells #[.int .i64 0, .int .i64 0, .float .f64 0, .slice none 0 0] 25 (0, 0)) (bup BK427.out) NB427_432.out (by simp)); have n1_ := Aside0.mk (KeepBut.blk hk (g' := gb428) (o := .cells #[.int .i64 0, .int .i64 0, .float .f64 0, .slice none 0 0] 25 (0, 0)) (bup BK428.out) NB428_432.out (by simp)); have n2_ := Aside0.mk (Kd.R_lower ho0 (below_size (by repeat (first | (with_reducible first | exact HB.out | apply h1 | apply h2 | apply h3 | refine h4 ?_ (IsS83.ge HI432.out) | refine h4 ?_ GE427.out | refine h4 ?_ GE428.out) | exact HB.out)))); have n3_ := Aside0.mk (hb); have n4_ := Aside0.mk (hi); clear BK427; clear BK428; clear HB; clear HI432; have BK427 := n0_; have BK428 := n1_; have HO438 := n2_; have HB := n3_; have HI432 := n4_; clear n0_ n1_ n2_ n3_ n4_; (try clear hb); (try clear hb2); (try clear hk); (try clear hi); (try clear ho0)) | ((with_reducible refine gate_dst (N := 5) rfl ?_); refine box_event ?hg (N := 5) ?hd (cs := #[.int .i64 0, .int .i64 0, .float .f64 0, .slice none 0 0]) (t := 25) ?hr ?_; (case hd => rfl); (case hg => rfl); (case hr => first | (go_simp; done) | (go_simp; rfl)); intro gb441 hg w49 hbox hb; have n0_ := Aside0.mk (Kd.R_below (Kd.rup HO438.out) hb); have n1_ := Aside0.mk (blk_below (bup BK427.out) hb); have n2_ := Aside0.mk (blk_below (bup BK428.out) hb); have n3_ := Aside0.mk (IsS83.below (by repeat (first | (with_reducible first | exact HI432.out | apply IsS83.alloc | apply IsS83.drewN | apply IsS83.drew | apply IsS83.set_1 | apply IsS83.set_2 | refine IsS83.far ?_ NB432_427.out _ | refine IsS83.far ?_ NB432_428.out _) | exact HI432.out)) hb); have n4_ := Aside0.mk (below_step (by repeat (first | (with_reducible first | exact HB.out | apply h1 | apply h2 | apply h3 | refine h4 ?_ (IsS83.ge HI432.out) | refine h4 ?_ GE427.out | refine h4 ?_ GE428.out) | exact HB.out)) hb); have n5_ := Aside0.mk (hbox); have n6_ := Geq.mk ((by rw [hg]; exact (below_size (by repeat (first | (with_reducible first | exact HB.out | apply h1 | apply h2 | apply h3 | refine h4 ?_ (IsS83.ge HI432.out) | refine h4 ?_ GE427.out | refine h4 ?_ GE428.out) | exact HB.out))) : w.heap.size ≤ gb441)); have n7_ := Geq.mk ((by rw [hg]; exact (below_size (by repeat (first | (with_reducible first | exact HB.out | apply h1 | apply h2 | apply h3 | refine h4 ?_ (IsS83.ge HI432.out) | refine h4 ?_ GE427.out | refine h4 ?_ GE428.out) | exact HB.out))) : w.heap.size ≤ gb441)); have n8_ := Neq.mk ((by rw [hg]; exact Nat.ne_of_lt (blk_lt (g := gb427) (o := .cells #[.int .i64 0, .int .i64 0, .float .f64 0, .slice none 0 0] 25 (0, 0)) (bup BK427.out)) : gb427 ≠ gb441)); have n9_ := Neq.mk ((by rw [hg]; exact Nat.ne_of_gt (blk_lt (g := gb427) (o := .cells #[.int .i64 0, .int .i64 0, .float .f64 0, .slice none 0 0] 25 (0, 0)) (bup BK427.out)) : gb441 ≠ gb427)); have n10_ := Neq.mk ((by rw [hg]; exact Nat.ne_of_lt (blk_lt (g := gb428) (o := .cells #[.int .i64 0, .int .i64 0, .float .f64 0, .slice none 0 0] 25 (0, 0)) (bup BK428.out)) : gb428 ≠ gb441)); have n11_ := Neq.mk ((by rw [hg]; exact Nat.ne_of_gt (blk_lt (g := gb428) (o := .cells #[.int .i64 0, .int .i64 0, .float .f64 0, .slice none 0 0] 25 (0, 0)) (bup BK428.out)) : gb441 ≠ gb428)); have n12_ := Aside0.mk ((by rw [hg]; exact Nat.ne_of_lt (IsS83.lt (show IsS83 w _ g432 t429 t439 t440 from by repeat (first | (with_reducible first | exact HI432.out | apply IsS83.alloc | apply IsS83.drewN | apply IsS83.drew | apply IsS83.set_1 | apply IsS83.set_2 | refine IsS83.far ?_ NB432_427.out _ | refine IsS83.far ?_ NB432_428.out _) | exact HI432.out))) : g432 ≠ gb441)); have n13_ := Aside0.mk ((by rw [hg]; exact Nat.ne_of_gt (IsS83.lt (show IsS83 w _ g432 t429 t439 t440 from by repeat (first | (with_reducible first | exact HI432.out | apply IsS83.alloc | apply IsS83.drewN | apply IsS83.drew | apply IsS83.set_1 | apply IsS83.set_2 | refine IsS83.far ?_ NB432_427.out _ | refine IsS83.far ?_ NB432_428.out _) | exact HI432.out))) : gb441 ≠ g432)); clear HO438; clear BK427; clear BK428; clear HI432; clear HB; have HO438 := n0_; have BK427 := n1_; have BK428 := n2_; have HI432 := n3_; have HB := n4_; have BK441 := n5_; have GW441 := n6_; have GE441 := n7_; have NB427_441 := n8_; have NB441_427 := n9_; have NB428_441 := n10_; have NB441_428 := n11_; have NB432_441 := n12_; have NB441_432 := n13_; clear n0_ n1_ n2_ n3_ n4_ n5_ n6_ n7_ n8_ n9_ n10_ n11_ n12_ n13_; clear hb hbox hg; have hnb50 := NB441_427.out; have hnc50 := NB427_441.out; have hnb51 := NB441_428.out; have hnc51 := NB428_441.out; have hnb52 := NB441_432.out; have hnc52 := NB432_441.out; obtain ⟨hcz53_0, hcz53_1, hcz53_2, hcz53_3⟩ := blk_cells4 BK441.out; obtain ⟨hfz53_0, hfz53_1, hfz53_2, hfz53_3⟩ := blk_frozens4 BK441.out; obtain ⟨Ao54, co54, eo54⟩ := Kd.R_slice HO438.out; subst eo54) | ((with_reducible refine gate_callee (f := 58) rfl ?_); refine goesL_ (some 12) rfl rfl Try.func58 (by kernel_rfl) rfl #[.pointer (some ⟨g432, 0, none⟩)] rfl (by (try simp only [List.map_toArray, List.map_cons, List.map_nil]); first | done | rfl) ?_; (with_reducible refine (spec_l3any.callsC k g432 t429 t439 t440 t442 t443 t444 t445 t448 t449 w _ ?side1 ?side2 A4.out).mono ?_); (case side1 => repeat (first | (with_reducible first | exact HI432.out | apply IsS83.alloc | apply IsS83.drewN | apply IsS83.drew | apply IsS83.set_1 | apply IsS83.set_2 | refine IsS83.far ?_ NB432_427.out _ | refine IsS83.far ?_ NB432_428.out _ | refine IsS83.far ?_ NB432_441.out _) | exact HI432.out)); (case side2 => repeat (first | (with_reducible first | exact HB.out | apply h1 | apply h2 | apply h3 | refine h4 ?_ (IsS83.ge HI432.out) | refine h4 ?_ GE427.out | refine h4 ?_ GE428.out | refine h4 ?_ GE441.out) | exact HB.out)); rintro e w55 ⟨b444, v446, rfl, ho0, hi, hb, hk, ⟨⟨hcnb444, hltb444⟩⟩⟩; refine ⟨_, rfl, ?_⟩; have LTb444 := Aside0.mk hltb444; clear hltb444; subst hcnb444; have n0_ := Aside0.mk (KeepBut.blk hk (g' := gb427) (o := .cells #[.int .i64 0, .int .i64 0, .float .f64 0, .slice none 0 0] 25 (0, 0)) (bput BK427.out) NB427_432.out (by simp)); have n1_ := Aside0.mk (KeepBut.blk hk (g' := gb428) (o := .cells #[.int .i64 0, .int .i64 0, .float .f64 0, .slice none 0 0] 25 (0, 0)) (bput BK428.out) NB428_432.out (by simp)); have n2_ := Aside0.mk (Kd.R_mono (Kd.R_told (Kd.R_oldK (IsS83.apart (show IsS83 w _ g432 t429 t439 t440 from by repeat (first | (with_reducible first | exact HI432.out | apply IsS83.alloc | apply IsS83.drewN | apply IsS83.drew | apply IsS83.set_1 | apply IsS83.set_2 | refine IsS83.far ?_ NB432_427.out _ | refine IsS83.far ?_ NB432_428.out _ | refine IsS83.far ?_ NB432_441.out _) | exact HI432.out)) ((Kd.roff1 HO438.out BK441.out (by decide))) (by decide)) hk) (Kd.R_base ho0)) (fun _ h_ => h_.1)); have n3_ := Aside0.mk (KeepBut.blk hk (g' := gb441) (o := .cells #[.int .i64 t433, .int .i64 t434, .float .f64 b435, .slice Ao54 t436.length co54] 25 (0, 0)) (bput BK441.out) NB441_432.out (by simp)); have n4_ := Aside0.mk (Kd.R_lower (Kd.R_new' ho0 (Kd.R_lt ((Kd.roff1 HO438.out BK441.out (by decide))))) (below_size (by repeat (first | (with_reducible first | exact HB.out | apply h1 | apply h2 | apply h3 | refine h4 ?_ (IsS83.ge HI432.out) | refine h4 ?_ GE427.out | refine h4 ?_ GE428.out | refine h4 ?_ GE441.out) | exact HB.out)))); have n5_ := Aside0.mk (hb); have n6_ := Aside0.mk (hi); clear BK427; clear BK428; clear HO438; clear BK441; clear HB; clear HI432; have BK427 := n0_; have BK428 := n1_; have HO438 := n2_; have BK441 := n3_; have HO447 := n4_; have HB := n5_; have HI432 := n6_; clear n0_ n1_ n2_ n3_ n4_ n5_ n6_; (try clear hb); (try clear hb2); (try clear hk); (try clear hi); (try clear ho0)) | ((with_reducible refine gate_dst (N := 6) rfl ?_); refine box_event ?hg (N := 6) ?hd (cs := #[.int .i64 0, .int .i64 0, .float .f64 0, .slice none 0 0]) (t := 25) ?hr ?_; (case hd => rfl); (case hg => rfl); (case hr => first | (go_simp; done) | (go_simp; rfl)); intro gb450 hg w56 hbox hb; have n0_ := Aside0.mk (Kd.R_below (Kd.rup HO438.out) hb); have n1_ := Aside0.mk (Kd.R_below (Kd.rup HO447.out) hb); have n2_ := Aside0.mk (blk_below (bup BK427.out) hb); have n3_ := Aside0.mk (blk_below (bup BK428.out) hb); have n4_ := Aside0.mk (IsS83.below (by repeat (first | (with_reducible first | exact HI432.out | apply IsS83.alloc | apply IsS83.drewN | apply IsS83.drew | apply IsS83.set_1 | apply IsS83.set_2 | refine IsS83.far ?_ NB432_427.out _ | refine IsS83.far ?_ NB432_428.out _ | refine IsS83.far ?_ NB432_441.out _) | exact HI432.out)) hb); have n5_ := Aside0.mk (blk_below (bup BK441.out) hb); have n6_ := Aside0.mk (below_step (by repeat (first | (with_reducible first | exact HB.out | apply h1 | apply h2 | apply h3 | refine h4 ?_ (IsS83.ge HI432.out) | refine h4 ?_ GE427.out | refine h4 ?_ GE428.out | refine h4 ?_ GE441.out) | exact HB.out)) hb); have n7_ := Aside0.mk (hbox); have n8_ := Geq.mk ((by rw [hg]; exact (below_size (by repeat (first | (with_reducible first | exact HB.out | apply h1 | apply h2 | apply h3 | refine h4 ?_ (IsS83.ge HI432.out) | refine h4 ?_ GE427.out | refine h4 ?_ GE428.out | refine h4 ?_ GE441.out) | exact HB.out))) : w.heap.size ≤ gb450)); have n9_ := Geq.mk ((by rw [hg]; exact (below_size (by repeat (first | (with_reducible first | exact HB.out | apply h1 | apply h2 | apply h3 | refine h4 ?_ (IsS83.ge HI432.out) | refine h4 ?_ GE427.out | refine h4 ?_ GE428.out | refine h4 ?_ GE441.out) | exact HB.out))) : w.heap.size ≤ gb450)); have n10_ := Neq.mk ((by rw [hg]; exact Nat.ne_of_lt (blk_lt (g := gb427) (o := .cells #[.int .i64 0, .int .i64 0, .float .f64 0, .slice none 0 0] 25 (0, 0)) (bup BK427.out)) : gb427 ≠ gb450)); have n11_ := Neq.mk ((by rw [hg]; exact Nat.ne_of_gt (blk_lt (g := gb427) (o := .cells #[.int .i64 0, .int .i64 0, .float .f64 0, .slice none 0 0] 25 (0, 0)) (bup BK427.out)) : gb450 ≠ gb427)); have n12_ := Neq.mk ((by rw [hg]; exact Nat.ne_of_lt (blk_lt (g := gb428) (o := .cells #[.int .i64 0, .int .i64 0, .float .f64 0, .slice none 0 0] 25 (0, 0)) (bup BK428.out)) : gb428 ≠ gb450)); have n13_ := Neq.mk ((by rw [hg]; exact Nat.ne_of_gt (blk_lt (g := gb428) (o := .cells #[.int .i64 0, .int .i64 0, .float .f64 0, .slice none 0 0] 25 (0, 0)) (bup BK428.out)) : gb450 ≠ gb428)); have n14_ := Neq.mk ((by rw [hg]; exact Nat.ne_of_lt (blk_lt (g := gb441) (o := .cells #[.int .i64 t433, .int .i64 t434, .float .f64 b435, .slice Ao54 t436.length co54] 25 (0, 0)) (bup BK441.out)) : gb441 ≠ gb450)); have n15_ := Neq.mk ((by rw [hg]; exact Nat.ne_of_gt (blk_lt (g := gb441) (o := .cells #[.int .i64 t433, .int .i64 t434, .float .f64 b435, .slice Ao54 t436.length co54] 25 (0, 0)) (bup BK441.out)) : gb450 ≠ gb441)); have n16_ := Aside0.mk ((by rw [hg]; exact Nat.ne_of_lt (IsS83.lt (show IsS83 w _ g432 t429 t448 t449 from by repeat (first | (with_reducible first | exact HI432.out | apply IsS83.alloc | apply IsS83.drewN | apply IsS83.drew | apply IsS83.set_1 | apply IsS83.set_2 | refine IsS83.far ?_ NB432_427.out _ | refine IsS83.far ?_ NB432_428.out _ | refine IsS83.far ?_ NB432_441.out _) | exact HI432.out))) : g432 ≠ gb450)); have n17_ := Aside0.mk ((by rw [hg]; exact Nat.ne_of_gt (IsS83.lt (show IsS83 w _ g432 t429 t448 t449 from by repeat (first | (with_reducible first | exact HI432.out | apply IsS83.alloc | apply IsS83.drewN | apply IsS83.drew | apply IsS83.set_1 | apply IsS83.set_2 | refine IsS83.far ?_ NB432_427.out _ | refine IsS83.far ?_ NB432_428.out _ | refine IsS83.far ?_ NB432_441.out _) | exact HI432.out))) : gb450 ≠ g432)); clear HO438; clear HO447; clear BK427; clear BK428; clear HI432; clear BK441; clear HB; have HO438 := n0_; have HO447 := n1_; have BK427 := n2_; have BK428 := n3_; have HI432 := n4_; have BK441 := n5_; have HB := n6_; have BK450 := n7_; have GW450 := n8_; have GE450 := n9_; have NB427_450 := n10_; have NB450_427 := n11_; have NB428_450 := n12_; have NB450_428 := n13_; have NB441_450 := n14_; have NB450_441 := n15_; have NB432_450 := n16_; have NB450_432 := n17_; clear n0_ n1_ n2_ n3_ n4_ n5_ n6_ n7_ n8_ n9_ n10_ n11_ n12_ n13_ n14_ n15_ n16_ n17_; clear hb hbox hg; have hnb57 := NB450_427.out; have hnc57 := NB427_450.out; have hnb58 := NB450_428.out; have hnc58 := NB428_450.out; have hnb59 := NB450_441.out; have hnc59 := NB441_450.out; have hnb60 := NB450_432.out; have hnc60 := NB432_450.out; obtain ⟨hcz61_0, hcz61_1, hcz61_2, hcz61_3⟩ := blk_cells4 BK450.out; obtain ⟨hfz61_0, hfz61_1, hfz61_2, hfz61_3⟩ := blk_frozens4 BK450.out; obtain ⟨Ao62, co62, eo62⟩ := Kd.R_slice HO447.out; subst eo62) | ((with_reducible refine gate_callee (f := 59) rfl ?_); refine goesL_ (some 14) rfl rfl Try.func59 (by kernel_rfl) rfl #[.pointer (some ⟨g432, 0, none⟩), .int .i64 4] rfl (by (try simp only [List.map_toArray, List.map_cons, List.map_nil]); first | done | rfl) ?_; (with_reducible refine (spec_l1Below.calls g432 t429 t448 t449 4 t451 t452 t453 w _ ?side1 ?side2 A5.out).mono ?_); (case side1 => repeat (first | (with_reducible first | exact HI432.out | apply IsS83.alloc | apply IsS83.drewN | apply IsS83.drew | apply IsS83.set_1 | apply IsS83.set_2 | refine IsS83.far ?_ NB432_427.out _ | refine IsS83.far ?_ NB432_428.out _ | refine IsS83.far ?_ NB432_441.out _ | refine IsS83.far ?_ NB432_450.out _) | exact HI432.out)); (case side2 => repeat (first | (with_reducible first | exact HB.out | apply h1 | apply h2 | apply h3 | refine h4 ?_ (IsS83.ge HI432.out) | refine h4 ?_ GE427.out | refine h4 ?_ GE428.out | refine h4 ?_ GE441.out | refine h4 ?_ GE450.out) | exact HB.out)); rintro e w63 ⟨rfl, hi, hb, hk⟩; refine ⟨_, rfl, ?_⟩; have n0_ := Aside0.mk (KeepBut.blk hk (g' := gb427) (o := .cells #[.int .i64 0, .int .i64 0, .float .f64 0, .slice none 0 0] 25 (0, 0)) (bput BK427.out) NB427_432.out (by simp)); have n1_ := Aside0.mk (KeepBut.blk hk (g' := gb428) (o := .cells #[.int .i64 0, .int .i64 0, .float .f64 0, .slice none 0 0] 25 (0, 0)) (bput BK428.out) NB428_432.out (by simp)); have n2_ := Aside0.mk (Kd.R_mono (Kd.R_keep (IsS83.apart (show IsS83 w _ g432 t429 t448 t449 from by repeat (first | (with_reducible first | exact HI432.out | apply IsS83.alloc | apply IsS83.drewN | apply IsS83.drew | apply IsS83.set_1 | apply IsS83.set_2 | refine IsS83.far ?_ NB432_427.out _ | refine IsS83.far ?_ NB432_428.out _ | refine IsS83.far ?_ NB432_441.out _ | refine IsS83.far ?_ NB432_450.out _) | exact HI432.out)) ((Kd.roff1 HO438.out BK450.out (by decide))) (by decide)) hk (fun _ h => h.2)) (fun _ h => h.1)); have n3_ := Aside0.mk (KeepBut.blk hk (g' := gb441) (o := .cells #[.int .i64 t433, .int .i64 t434, .float .f64 b435, .slice Ao54 t436.length co54] 25 (0, 0)) (bput BK441.out) NB441_432.out (by simp)); have n4_ := Aside0.mk (Kd.R_mono (Kd.R_keep (IsS83.apart (show IsS83 w _ g432 t429 t448 t449 from by repeat (first | (with_reducible first | exact HI432.out | apply IsS83.alloc | apply IsS83.drewN | apply IsS83.drew | apply IsS83.set_1 | apply IsS83.set_2 | refine IsS83.far ?_ NB432_427.out _ | refine IsS83.far ?_ NB432_428.out _ | refine IsS83.far ?_ NB432_441.out _ | refine IsS83.far ?_ NB432_450.out _) | exact HI432.out)) ((Kd.roff1 HO447.out BK450.out (by decide))) (by decide)) hk (fun _ h => h.2)) (fun _ h => h.1)); have n5_ := Aside0.mk (KeepBut.blk hk (g' := gb450) (o := .cells #[.int .i64 t442, .int .i64 t443, .float .f64 b444, .slice Ao62 t445.length co62] 25 (0, 0)) (bput BK450.out) NB450_432.out (by simp)); have n6_ := Aside0.mk (hb); have n7_ := Aside0.mk (hi); clear BK427; clear BK428; clear HO438; clear BK441; clear HO447; clear BK450; clear HB; clear HI432; have BK427 := n0_; have BK428 := n1_; have HO438 := n2_; have BK441 := n3_; have HO447 := n4_; have BK450 := n5_; have HB := n6_; have HI432 := n7_; clear n0_ n1_ n2_ n3_ n4_ n5_ n6_ n7_; (try clear hb); (try clear hb2); (try clear hk); (try clear hi); obtain ⟨hcz64_0, hcz64_1, hcz64_2, hcz64_3⟩ := blk_cells4 BK441.out; obtain ⟨hfz64_0, hfz64_1, hfz64_2, hfz64_3⟩ := blk_frozens4 BK441.out) | ((with_reducible refine gate_callee (f := 60) rfl ?_); refine goesL_ (some 22) rfl rfl Try.func60 (by kernel_rfl) rfl #[.agg #[.int .i64 t433, .int .i64 t434, .float .f64 b435, .slice Ao54 t436.length co54]] rfl (by (try simp only [List.map_toArray, List.map_cons, List.map_nil]); first | done | rfl) ?_; (with_reducible refine (spec_l3copy.callsC t433 t434 b435 _ _ t436 t460 t461 t462 t463 _ ?side1 ?side2 LTb435.out A42.out).mono ?_); (case side1 => repeat (first | exact (Kd.R_reads' HO438.out).2.2 | (with_reducible refine Kd.C_alloc ?_ _) | (with_reducible refine Kd.C_drewN ?_ _) | (with_reducible refine Kd.C_drew ?_))); (case side2 => exact (Kd.R_reads' HO438.out).2.1); rintro e w65 ⟨b462, v464, rfl, ho0, hb, ⟨⟨hcnb462, hltb462⟩⟩⟩; refine ⟨_, rfl, ?_⟩; have LTb462 := Aside0.mk hltb462; clear hltb462; subst hcnb462; have n0_ := Aside0.mk (Kd.R_elder' (Kd.rup HO438.out) (Kd.R_base ho0) hb); have n1_ := Aside0.mk (Kd.R_elder' (Kd.rup HO447.out) (Kd.R_base ho0) hb); have n2_ := Aside0.mk (Kd.R_lower (Kd.R_new' (Kd.R_new' ho0 (Kd.R_lt (Kd.rup HO438.out))) (Kd.R_lt (Kd.rup HO447.out))) (below_size (by repeat (first | (with_reducible first | exact HB.out | apply h1 | apply h2 | apply h3 | refine h4 ?_ (IsS83.ge HI432.out) | refine h4 ?_ GE427.out | refine h4 ?_ GE428.out | refine h4 ?_ GE441.out | refine h4 ?_ GE450.out) | exact HB.out)))); have n3_ := Aside0.mk (blk_below (bup BK427.out) hb); have n4_ := Aside0.mk (blk_below (bup BK428.out) hb); have n5_ := Aside0.mk (IsS83.below (by repeat (first | (with_reducible first | exact HI432.out | apply IsS83.alloc | apply IsS83.drewN | apply IsS83.drew | apply IsS83.set_1 | apply IsS83.set_2 | refine IsS83.far ?_ NB432_427.out _ | refine IsS83.far ?_ NB432_428.out _ | refine IsS83.far ?_ NB432_441.out _ | refine IsS83.far ?_ NB432_450.out _) | exact HI432.out)) hb); have n6_ := Aside0.mk (blk_below (bup BK441.out) hb); have n7_ := Aside0.mk (blk_below (bup BK450.out) hb); have n8_ := Aside0.mk (below_step (by repeat (first | (with_reducible first | exact HB.out | apply h1 | apply h2 | apply h3 | refine h4 ?_ (IsS83.ge HI432.out) | refine h4 ?_ GE427.out | refine h4 ?_ GE428.out | refine h4 ?_ GE441.out | refine h4 ?_ GE450.out) | exact HB.out)) hb); clear HO438; clear HO447; clear BK427; clear BK428; clear HI432; clear BK441; clear BK450; clear HB; have HO438 := n0_; have HO447 := n1_; have HO465 := n2_; have BK427 := n3_; have BK428 := n4_; have HI432 := n5_; have BK441 := n6_; have BK450 := n7_; have HB := n8_; clear n0_ n1_ n2_ n3_ n4_ n5_ n6_ n7_ n8_; (try clear hb); (try clear hb2); (try clear hk); (try clear hi); (try clear ho0); obtain ⟨hcz66_0, hcz66_1, hcz66_2, hcz66_3⟩ := blk_cells4 BK450.out; obtain ⟨hfz66_0, hfz66_1, hfz66_2, hfz66_3⟩ := blk_frozens4 BK450.out; obtain ⟨Ao67, co67, eo67⟩ := Kd.R_slice HO465.out; subst eo67))
    have n0_ : Aside0 (Kd.R (Kd.int .u8) 5 ((((w65.setCell ⟨gb450, 0, none⟩ (.int .i64 t460)).setCell ⟨gb450, 1, none⟩ (.int .i64 t461)).setCell ⟨gb450, 2, none⟩ (.float .f64 b462)).setCell ⟨gb450, 3, none⟩ (.slice Ao67 t463.length co67)) w.heap.size (fun k_ => some k_ ≠ (.slice Ao62 t445.length co62 : Value).ownBlock ∧ some k_ ≠ (.slice Ao67 t463.length co67 : Value).ownBlock) (.slice Ao54 t436.length co54) t436) := ⟨by exact Kd.rup (Kd.R_mono (Kd.R_far (p := ⟨gb450, 3, none⟩) (Kd.R_far (p := ⟨gb450, 2, none⟩) (Kd.R_far (p := ⟨gb450, 1, none⟩) (Kd.R_far (p := ⟨gb450, 0, none⟩) (Kd.R_types HO438.out BK450.out (by decide)) (fun _ hk => hk.2) (.int .i64 t460)) (fun _ hk => hk.2) (.int .i64 t461)) (fun _ hk => hk.2) (.float .f64 b462)) (fun _ hk => hk.2) (.slice Ao67 t463.length co67)) (fun _ hk => ⟨hk.1.1.2, hk.1.2⟩))⟩
    have n1_ : Aside0 (Kd.R (Kd.int .u8) 5 ((((w65.setCell ⟨gb450, 0, none⟩ (.int .i64 t460)).setCell ⟨gb450, 1, none⟩ (.int .i64 t461)).setCell ⟨gb450, 2, none⟩ (.float .f64 b462)).setCell ⟨gb450, 3, none⟩ (.slice Ao67 t463.length co67)) w.heap.size (fun k_ => some k_ ≠ (.slice Ao54 t436.length co54 : Value).ownBlock ∧ some k_ ≠ (.slice Ao67 t463.length co67 : Value).ownBlock) (.slice Ao62 t445.length co62) t445) := ⟨by exact Kd.rup (Kd.R_mono (Kd.R_far (p := ⟨gb450, 3, none⟩) (Kd.R_far (p := ⟨gb450, 2, none⟩) (Kd.R_far (p := ⟨gb450, 1, none⟩) (Kd.R_far (p := ⟨gb450, 0, none⟩) (Kd.R_types HO447.out BK450.out (by decide)) (fun _ hk => hk.2) (.int .i64 t460)) (fun _ hk => hk.2) (.int .i64 t461)) (fun _ hk => hk.2) (.float .f64 b462)) (fun _ hk => hk.2) (.slice Ao67 t463.length co67)) (fun _ hk => ⟨hk.1.1.2, hk.1.2⟩))⟩
    have n2_ : Aside0 (Kd.R (Kd.int .u8) 5 ((((w65.setCell ⟨gb450, 0, none⟩ (.int .i64 t460)).setCell ⟨gb450, 1, none⟩ (.int .i64 t461)).setCell ⟨gb450, 2, none⟩ (.float .f64 b462)).setCell ⟨gb450, 3, none⟩ (.slice Ao67 t463.length co67)) w.heap.size (fun k_ => some k_ ≠ (.slice Ao54 t436.length co54 : Value).ownBlock ∧ some k_ ≠ (.slice Ao62 t445.length co62 : Value).ownBlock) (.slice Ao67 t463.length co67) t463) := ⟨by exact Kd.rup (Kd.R_mono (Kd.R_far (p := ⟨gb450, 3, none⟩) (Kd.R_far (p := ⟨gb450, 2, none⟩) (Kd.R_far (p := ⟨gb450, 1, none⟩) (Kd.R_far (p := ⟨gb450, 0, none⟩) (Kd.R_types HO465.out BK450.out (by decide)) (fun _ hk => hk.2) (.int .i64 t460)) (fun _ hk => hk.2) (.int .i64 t461)) (fun _ hk => hk.2) (.float .f64 b462)) (fun _ hk => hk.2) (.slice Ao67 t463.length co67)) (fun _ hk => ⟨hk.1.1.2, hk.1.2⟩))⟩
    have n3_ : Aside0 (((((w65.setCell ⟨gb450, 0, none⟩ (.int .i64 t460)).setCell ⟨gb450, 1, none⟩ (.int .i64 t461)).setCell ⟨gb450, 2, none⟩ (.float .f64 b462)).setCell ⟨gb450, 3, none⟩ (.slice Ao67 t463.length co67)).heap[gb427]? = some (.cells #[.int .i64 0, .int .i64 0, .float .f64 0, .slice none 0 0] 25 (0, 0))) := ⟨bput BK427.out⟩
    have n4_ : Aside0 (((((w65.setCell ⟨gb450, 0, none⟩ (.int .i64 t460)).setCell ⟨gb450, 1, none⟩ (.int .i64 t461)).setCell ⟨gb450, 2, none⟩ (.float .f64 b462)).setCell ⟨gb450, 3, none⟩ (.slice Ao67 t463.length co67)).heap[gb428]? = some (.cells #[.int .i64 0, .int .i64 0, .float .f64 0, .slice none 0 0] 25 (0, 0))) := ⟨bput BK428.out⟩
    have n5_ : Aside0 (((((w65.setCell ⟨gb450, 0, none⟩ (.int .i64 t460)).setCell ⟨gb450, 1, none⟩ (.int .i64 t461)).setCell ⟨gb450, 2, none⟩ (.float .f64 b462)).setCell ⟨gb450, 3, none⟩ (.slice Ao67 t463.length co67)).heap[gb441]? = some (.cells #[.int .i64 t433, .int .i64 t434, .float .f64 b435, .slice Ao54 t436.length co54] 25 (0, 0))) := ⟨bput BK441.out⟩
    have n6_ : Aside0 (((((w65.setCell ⟨gb450, 0, none⟩ (.int .i64 t460)).setCell ⟨gb450, 1, none⟩ (.int .i64 t461)).setCell ⟨gb450, 2, none⟩ (.float .f64 b462)).setCell ⟨gb450, 3, none⟩ (.slice Ao67 t463.length co67)).heap[gb450]? = some (.cells #[.int .i64 t460, .int .i64 t461, .float .f64 b462, .slice Ao67 t463.length co67] 25 (0, 0))) := ⟨bput BK450.out⟩
    have n7_ : Aside0 (IsS83 w ((((w65.setCell ⟨gb450, 0, none⟩ (.int .i64 t460)).setCell ⟨gb450, 1, none⟩ (.int .i64 t461)).setCell ⟨gb450, 2, none⟩ (.float .f64 b462)).setCell ⟨gb450, 3, none⟩ (.slice Ao67 t463.length co67)) g432 t429 t452 t453) := ⟨by repeat (first | (with_reducible first | exact HI432.out | apply IsS83.alloc | apply IsS83.drewN | apply IsS83.drew | apply IsS83.set_1 | apply IsS83.set_2 | refine IsS83.far ?_ NB432_427.out _ | refine IsS83.far ?_ NB432_428.out _ | refine IsS83.far ?_ NB432_441.out _ | refine IsS83.far ?_ NB432_450.out _) | exact HI432.out)⟩
    have n8_ : Aside0 (Below w.heap.size w ((((w65.setCell ⟨gb450, 0, none⟩ (.int .i64 t460)).setCell ⟨gb450, 1, none⟩ (.int .i64 t461)).setCell ⟨gb450, 2, none⟩ (.float .f64 b462)).setCell ⟨gb450, 3, none⟩ (.slice Ao67 t463.length co67))) := ⟨by repeat (first | (with_reducible first | exact HB.out | apply h1 | apply h2 | apply h3 | refine h4 ?_ (IsS83.ge HI432.out) | refine h4 ?_ GE427.out | refine h4 ?_ GE428.out | refine h4 ?_ GE441.out | refine h4 ?_ GE450.out) | exact HB.out)⟩
    (try clear HO438)
    (try clear HO447)
    (try clear HO465)
    (try clear BK427)
    (try clear BK428)
    (try clear BK441)
    (try clear BK450)
    (try clear HI432)
    (try clear HB)
    generalize ((((w65.setCell ⟨gb450, 0, none⟩ (.int .i64 t460)).setCell ⟨gb450, 1, none⟩ (.int .i64 t461)).setCell ⟨gb450, 2, none⟩ (.float .f64 b462)).setCell ⟨gb450, 3, none⟩ (.slice Ao67 t463.length co67)) = w68 at n0_ n1_ n2_ n3_ n4_ n5_ n6_ n7_ n8_ ⊢
    have HO438 := n0_
    have HO447 := n1_
    have HO465 := n2_
    have BK427 := n3_
    have BK428 := n4_
    have BK441 := n5_
    have BK450 := n6_
    have HI432 := n7_
    have HB := n8_
    clear n0_ n1_ n2_ n3_ n4_ n5_ n6_ n7_ n8_
    have n0_ := Aside0.mk (Kd.R_drew HO438.out)
    have n1_ := Aside0.mk (Kd.R_drew HO447.out)
    have n2_ := Aside0.mk (Kd.R_drew HO465.out)
    have n3_ := Aside0.mk (blk_drew BK427.out)
    have n4_ := Aside0.mk (blk_drew BK428.out)
    have n5_ := Aside0.mk (blk_drew BK441.out)
    have n6_ := Aside0.mk (blk_drew BK450.out)
    have n7_ := Aside0.mk (IsS83.drew HI432.out)
    have n8_ := Aside0.mk (below_drew1 HB.out)
    clear HO438
    clear HO447
    clear HO465
    clear BK427
    clear BK428
    clear BK441
    clear BK450
    clear HI432
    clear HB
    have HO438 := n0_
    have HO447 := n1_
    have HO465 := n2_
    have BK427 := n3_
    have BK428 := n4_
    have BK441 := n5_
    have BK450 := n6_
    have HI432 := n7_
    have HB := n8_
    clear n0_ n1_ n2_ n3_ n4_ n5_ n6_ n7_ n8_
    refine start_ (n := 7) (S := fun w' => w'.cell? ⟨gb450, 0, none⟩ = some (.int .i64 t460) ∧ w'.cell? ⟨gb450, 1, none⟩ = some (.int .i64 t461) ∧ w'.cell? ⟨gb450, 2, none⟩ = some (.float .f64 b462) ∧ w'.cell? ⟨gb450, 3, none⟩ = some (.slice Ao67 t463.length co67)) (ds := [6]) #[false, false, false, false, false, false, false] (by kernel_rfl) rfl rfl (blk_cells4 BK450.out) (fun hHeld => ?_)
    generalize w68.drew = w69 at HO438 HO447 HO465 BK427 BK428 BK441 BK450 HI432 HB hHeld ⊢
    refine pure_ (i := 0) (N := some 23) (v := ?_) (a' := ?_) #[true, false, false, false, false, false, false] rfl rfl (by kernel_rfl) (fun _ _ _ h => h) (Or.inl ⟨by rfl, ?_⟩) ?_ ?_
    rotate_left
    ·intro w'
     go_simp
     with_reducible rfl
    rotate_left
    ·simp only [Act.put, List.setIfInBounds_toArray, List.set_cons_zero, List.set_cons_succ, i64_w, i32_w]
     rfl
    refine pure_ (i := 2) (N := some 25) (v := ?_) (a' := ?_) #[true, false, true, false, false, false, false] rfl rfl (by kernel_rfl) (fun _ _ _ h => h) (Or.inl ⟨by rfl, ?_⟩) ?_ ?_
    rotate_left
    ·intro w'
     go_simp
     with_reducible rfl
    rotate_left
    ·simp only [Act.put, List.setIfInBounds_toArray, List.set_cons_zero, List.set_cons_succ, i64_w, i32_w]
     rfl
    refine take_ (i := 1) (N := some 24) (v := ?_) (a' := ?_) #[true, true, true, false, false, false, false] rfl rfl (by kernel_rfl) (fun _ _ _ h => h) (Or.inl ⟨by rfl, ?_⟩) hHeld ?_ ?_
    rotate_left
    ·rintro w' ⟨s0, s1, s2, s3⟩
     go_simp
     with_reducible rfl
    rotate_left
    ·simp only [Act.put, List.setIfInBounds_toArray, List.set_cons_zero, List.set_cons_succ, i64_w, i32_w]
     rfl
    refine one_ (i := 3) (N := some 26) #[true, true, true, true, false, false, false] rfl rfl (by kernel_rfl) (by decide) (fun K hK => ?_)
    refine goes_ Try.func61 (by kernel_rfl) rfl #[.pointer (some ⟨g432, 0, none⟩), .int .i64 2] (by rfl) rfl rfl (by (try simp only [List.map_toArray, List.map_cons, List.map_nil]); first | done | rfl) ?_
    with_reducible refine (spec_l1some.calls k g432 t429 t452 t453 2 t466 t469 t470 w _ ?side1 ?side2 A43.out).mono ?_
    (case side1 => repeat (first | (with_reducible first | exact HI432.out | apply IsS83.alloc | apply IsS83.drewN | apply IsS83.drew | apply IsS83.set_1 | apply IsS83.set_2 | refine IsS83.far ?_ NB432_427.out _ | refine IsS83.far ?_ NB432_428.out _ | refine IsS83.far ?_ NB432_441.out _ | refine IsS83.far ?_ NB432_450.out _) | exact HI432.out))
    (case side2 => repeat (first | (with_reducible first | exact HB.out | apply h1 | apply h2 | apply h3 | refine h4 ?_ (IsS83.ge HI432.out) | refine h4 ?_ GE427.out | refine h4 ?_ GE428.out | refine h4 ?_ GE441.out | refine h4 ?_ GE450.out) | exact HB.out))
    rintro e w70 ⟨v467, rfl, ho0, hi, hb, hk⟩
    refine ⟨_, rfl, ?_⟩
    have n0_ := Aside0.mk (KeepBut.blk hk (g' := gb427) (o := .cells #[.int .i64 0, .int .i64 0, .float .f64 0, .slice none 0 0] 25 (0, 0)) (bup BK427.out) NB427_432.out (by simp))
    have n1_ := Aside0.mk (KeepBut.blk hk (g' := gb428) (o := .cells #[.int .i64 0, .int .i64 0, .float .f64 0, .slice none 0 0] 25 (0, 0)) (bup BK428.out) NB428_432.out (by simp))
    have n2_ := Aside0.mk (Kd.R_mono (Kd.R_told (Kd.R_oldK (IsS83.apart (show IsS83 w _ g432 t429 t452 t453 from by repeat (first | (with_reducible first | exact HI432.out | apply IsS83.alloc | apply IsS83.drewN | apply IsS83.drew | apply IsS83.set_1 | apply IsS83.set_2 | refine IsS83.far ?_ NB432_427.out _ | refine IsS83.far ?_ NB432_428.out _ | refine IsS83.far ?_ NB432_441.out _ | refine IsS83.far ?_ NB432_450.out _) | exact HI432.out)) (Kd.rup HO438.out) (by decide)) hk) (Kd.R_base ho0)) (fun _ h_ => h_.1))
    have n3_ := Aside0.mk (KeepBut.blk hk (g' := gb441) (o := .cells #[.int .i64 t433, .int .i64 t434, .float .f64 b435, .slice Ao54 t436.length co54] 25 (0, 0)) (bup BK441.out) NB441_432.out (by simp))
    have n4_ := Aside0.mk (Kd.R_mono (Kd.R_told (Kd.R_oldK (IsS83.apart (show IsS83 w _ g432 t429 t452 t453 from by repeat (first | (with_reducible first | exact HI432.out | apply IsS83.alloc | apply IsS83.drewN | apply IsS83.drew | apply IsS83.set_1 | apply IsS83.set_2 | refine IsS83.far ?_ NB432_427.out _ | refine IsS83.far ?_ NB432_428.out _ | refine IsS83.far ?_ NB432_441.out _ | refine IsS83.far ?_ NB432_450.out _) | exact HI432.out)) (Kd.rup HO447.out) (by decide)) hk) (Kd.R_base ho0)) (fun _ h_ => h_.1))
    have n5_ := Aside0.mk (KeepBut.blk hk (g' := gb450) (o := .cells #[.int .i64 t460, .int .i64 t461, .float .f64 b462, .slice Ao67 t463.length co67] 25 (0, 0)) (bup BK450.out) NB450_432.out (by simp))
    have n6_ := Aside0.mk (Kd.R_mono (Kd.R_told (Kd.R_oldK (IsS83.apart (show IsS83 w _ g432 t429 t452 t453 from by repeat (first | (with_reducible first | exact HI432.out | apply IsS83.alloc | apply IsS83.drewN | apply IsS83.drew | apply IsS83.set_1 | apply IsS83.set_2 | refine IsS83.far ?_ NB432_427.out _ | refine IsS83.far ?_ NB432_428.out _ | refine IsS83.far ?_ NB432_441.out _ | refine IsS83.far ?_ NB432_450.out _) | exact HI432.out)) (Kd.rup HO465.out) (by decide)) hk) (Kd.R_base ho0)) (fun _ h_ => h_.1))
    have n7_ := Aside0.mk (Kd.R_lower (Kd.R_new' (Kd.R_new' (Kd.R_new' ho0 (Kd.R_lt (Kd.rup HO438.out))) (Kd.R_lt (Kd.rup HO447.out))) (Kd.R_lt (Kd.rup HO465.out))) (below_size (by repeat (first | (with_reducible first | exact HB.out | apply h1 | apply h2 | apply h3 | refine h4 ?_ (IsS83.ge HI432.out) | refine h4 ?_ GE427.out | refine h4 ?_ GE428.out | refine h4 ?_ GE441.out | refine h4 ?_ GE450.out) | exact HB.out))))
    have n8_ := Aside0.mk (hb)
    have n9_ := Aside0.mk (hi)
    clear BK427
    clear BK428
    clear HO438
    clear BK441
    clear HO447
    clear BK450
    clear HO465
    clear HB
    clear HI432
    have BK427 := n0_
    have BK428 := n1_
    have HO438 := n2_
    have BK441 := n3_
    have HO447 := n4_
    have BK450 := n5_
    have HO465 := n6_
    have HO468 := n7_
    have HB := n8_
    have HI432 := n9_
    clear n0_ n1_ n2_ n3_ n4_ n5_ n6_ n7_ n8_ n9_
    (try clear hb)
    (try clear hb2)
    (try clear hk)
    (try clear hi)
    (try clear ho0)
    obtain ⟨Ao72, co72, eo72⟩ := Kd.R_slice HO468.out
    (first | subst eo72 | (injection eo72 with f1_ f2_ f3_; have f4_ := f1_.symm; have f5_ := f3_.symm; clear f1_ f2_ f3_; subst f4_; subst f5_))
    refine hK.out _ _ (blk_cells4 BK450.out) (fun hHeld => ?_)
    clear hK K
    refine norm_ (a' := ?_) ?_ ?_
    rotate_left
    ·show Act.put _ (some 26) _ = _
     simp only [Act.put, List.setIfInBounds_toArray, List.set_cons_zero, List.set_cons_succ, i64_w, i32_w]
     rfl
    refine one_ (i := 4) (N := some 27) #[true, true, true, true, true, false, false] rfl rfl (by kernel_rfl) (by decide) (fun K hK => ?_)
    refine Kd.R_append_rows_step (Kd.int .u8) (w0 := w) w.heap.size (by rfl) (.tmp 24) (.tmp 26) 22 5 (.int .u8 0) 1 rfl Try.underlying22 info5 rfl (by decide) (by omega) (.slice Ao67 t463.length co67) t463 t466 _ _ _ (fun k_ => some k_ ≠ (.slice Ao54 t436.length co54 : Value).ownBlock ∧ some k_ ≠ (.slice Ao62 t445.length co62 : Value).ownBlock ∧ some k_ ≠ (.slice Ao72 t466.length co72 : Value).ownBlock) (fun _ => False) rfl rfl ?aO ?aR (fun _ _ h => h) (fun _ h => h.elim) ?aF ?aB ?aS ?aL ?_
    (case aR => repeat (first | exact (Kd.R_reads' HO468.out).2.2 | (with_reducible refine Kd.C_alloc ?_ _) | (with_reducible refine Kd.C_drewN ?_ _) | (with_reducible refine Kd.C_drew ?_)))
    (case aB => exact (by repeat (first | (with_reducible first | exact HB.out | apply h1 | apply h2 | apply h3 | refine h4 ?_ (IsS83.ge HI432.out) | refine h4 ?_ GE427.out | refine h4 ?_ GE428.out | refine h4 ?_ GE441.out | refine h4 ?_ GE450.out) | exact HB.out)))
    (case aF => exact (fun k_ hk => ⟨Kd.fresh' (Kd.R_lt (Kd.rup HO438.out)) k_ hk, Kd.fresh' (Kd.R_lt (Kd.rup HO447.out)) k_ hk, Kd.fresh' (Kd.R_lt (Kd.rup HO468.out)) k_ hk⟩))
    (case aO => exact (by exact Kd.rup (Kd.R_mono HO465.out (fun _ hk => ⟨hk.1.1, ⟨hk.1.2, hk.2⟩⟩))))
    (case aS => exact (below_size (by repeat (first | (with_reducible first | exact HB.out | apply h1 | apply h2 | apply h3 | refine h4 ?_ (IsS83.ge HI432.out) | refine h4 ?_ GE427.out | refine h4 ?_ GE428.out | refine h4 ?_ GE441.out | refine h4 ?_ GE450.out) | exact HB.out))))
    (case aL => have := LMc44.out; omega)
    intro v472 w71 ho hb hg hat
    rw [← Ny471.out] at ho
    have n0_ := Aside0.mk (blk_grown (g := gb427) (o := .cells #[.int .i64 0, .int .i64 0, .float .f64 0, .slice none 0 0] 25 (0, 0)) (bup BK427.out) hg (Kd.R_ne HO465.out BK427.out (by decide)))
    have n1_ := Aside0.mk (blk_grown (g := gb428) (o := .cells #[.int .i64 0, .int .i64 0, .float .f64 0, .slice none 0 0] 25 (0, 0)) (bup BK428.out) hg (Kd.R_ne HO465.out BK428.out (by decide)))
    have n2_ := Aside0.mk (IsS83.grown (by repeat (first | (with_reducible first | exact HI432.out | apply IsS83.alloc | apply IsS83.drewN | apply IsS83.drew | apply IsS83.set_1 | apply IsS83.set_2 | refine IsS83.far ?_ NB432_427.out _ | refine IsS83.far ?_ NB432_428.out _ | refine IsS83.far ?_ NB432_441.out _ | refine IsS83.far ?_ NB432_450.out _) | exact HI432.out)) hg (IsS83.own_ne HI432.out HO465.out (by decide)))
    have n3_ := Aside0.mk (Kd.R_after (ok := (fun k_ => some k_ ≠ (.slice Ao62 t445.length co62 : Value).ownBlock ∧ some k_ ≠ (.slice Ao72 t466.length co72 : Value).ownBlock)) (by exact Kd.rup (Kd.R_mono HO438.out (fun _ hk => ⟨⟨hk.1.1, hk.2⟩, hk.1.2⟩))) hg hat)
    have n4_ := Aside0.mk (blk_grown (g := gb441) (o := .cells #[.int .i64 t433, .int .i64 t434, .float .f64 b435, .slice Ao54 t436.length co54] 25 (0, 0)) (bup BK441.out) hg (Kd.R_ne HO465.out BK441.out (by decide)))
    have n5_ := Aside0.mk (Kd.R_after (ok := (fun k_ => some k_ ≠ (.slice Ao54 t436.length co54 : Value).ownBlock ∧ some k_ ≠ (.slice Ao72 t466.length co72 : Value).ownBlock)) (by exact Kd.rup (Kd.R_mono HO447.out (fun _ hk => ⟨⟨hk.1.1, hk.2⟩, hk.1.2⟩))) hg hat)
    have n6_ := Aside0.mk (blk_grown (g := gb450) (o := .cells #[.int .i64 t460, .int .i64 t461, .float .f64 b462, .slice Ao67 t463.length co67] 25 (0, 0)) (bup BK450.out) hg (Kd.R_ne HO465.out BK450.out (by decide)))
    have n7_ := Aside0.mk (Kd.R_after (ok := (fun k_ => some k_ ≠ (.slice Ao54 t436.length co54 : Value).ownBlock ∧ some k_ ≠ (.slice Ao62 t445.length co62 : Value).ownBlock)) (by exact Kd.rup (Kd.R_mono HO468.out (fun _ hk => ⟨⟨hk.1.1.2, hk.1.2⟩, hk.2⟩))) hg hat)
    have n8_ := Aside0.mk (hb)
    have n9_ := Aside0.mk (ho)
    clear BK427
    clear BK428
    clear HI432
    clear HO438
    clear BK441
    clear HO447
    clear BK450
    clear HO468
    clear HB
    clear HO465
    have BK427 := n0_
    have BK428 := n1_
    have HI432 := n2_
    have HO438 := n3_
    have BK441 := n4_
    have HO447 := n5_
    have BK450 := n6_
    have HO468 := n7_
    have HB := n8_
    have HO473 := n9_
    clear n0_ n1_ n2_ n3_ n4_ n5_ n6_ n7_ n8_ n9_
    clear ho hb hg hat
    obtain ⟨Ao73, co73, eo73⟩ := Kd.R_slice HO473.out
    (first | subst eo73 | (injection eo73 with f1_ f2_ f3_; have f4_ := f1_.symm; have f5_ := f3_.symm; clear f1_ f2_ f3_; subst f4_; subst f5_))
    refine hK.out _ _ (blk_cells4 BK450.out) (fun hHeld => ?_)
    clear hK K
    refine norm_ (a' := ?_) ?_ ?_
    rotate_left
    ·show Act.put _ (some 27) _ = _
     simp only [Act.put, List.setIfInBounds_toArray, List.set_cons_zero, List.set_cons_succ, i64_w, i32_w]
     rfl
    refine pure_ (i := 5) (N := some 28) (v := ?_) (a' := ?_) #[true, true, true, true, true, true, false] rfl rfl (by kernel_rfl) (fun _ _ _ h => h) (Or.inl ⟨by rfl, ?_⟩) ?_ ?_
    rotate_left
    ·intro w'
     go_simp
     with_reducible rfl
    rotate_left
    ·simp only [Act.put, List.setIfInBounds_toArray, List.set_cons_zero, List.set_cons_succ, i64_w, i32_w]
     rfl
    refine last_ (i := 6) (N := none) #[true, true, true, true, true, true, true] rfl rfl (by kernel_rfl) (by decide) (fun K hK => ?_)
    have hs74 : w71.cell? ⟨gb450, 3, none⟩ = some (.slice Ao67 t463.length co67) := (blk_cell BK450.out 3).trans rfl
    have hfs74 := blk_frozen BK450.out 3
    have hns74_0 := NB427_450.out
    have hns74_1 := NB428_450.out
    have hns74_2 := NB441_450.out
    have hms74_0 := NB450_427.out
    have hms74_1 := NB450_428.out
    have hms74_2 := NB450_441.out
    refine skip_ (w1 := ?_) (by rfl) rfl ?_ ?_
    rotate_left
    ·go_simp
     rfl
    refine hK.out _ _ ?_
    clear hK K
    refine done_ (by kernel_rfl) ?_
    try go_wp2
    have n0_ : Aside0 (Kd.R (Kd.int .u8) 5 (w71.setCell ⟨gb450, 3, none⟩ (.slice Ao73 y471.length co73)) w.heap.size (fun k_ => some k_ ≠ (.slice Ao62 t445.length co62 : Value).ownBlock ∧ some k_ ≠ (.slice Ao72 t466.length co72 : Value).ownBlock ∧ some k_ ≠ (.slice Ao73 y471.length co73 : Value).ownBlock) (.slice Ao54 t436.length co54) t436) := ⟨by exact Kd.rup (Kd.R_mono (Kd.R_far (p := ⟨gb450, 3, none⟩) (Kd.R_types HO438.out BK450.out (by decide)) (fun _ hk => hk.2) (.slice Ao73 y471.length co73)) (fun _ hk => ⟨hk.1.1.1, ⟨hk.1.1.2, hk.1.2⟩⟩))⟩
    have n1_ : Aside0 (Kd.R (Kd.int .u8) 5 (w71.setCell ⟨gb450, 3, none⟩ (.slice Ao73 y471.length co73)) w.heap.size (fun k_ => some k_ ≠ (.slice Ao54 t436.length co54 : Value).ownBlock ∧ some k_ ≠ (.slice Ao72 t466.length co72 : Value).ownBlock ∧ some k_ ≠ (.slice Ao73 y471.length co73 : Value).ownBlock) (.slice Ao62 t445.length co62) t445) := ⟨by exact Kd.rup (Kd.R_mono (Kd.R_far (p := ⟨gb450, 3, none⟩) (Kd.R_types HO447.out BK450.out (by decide)) (fun _ hk => hk.2) (.slice Ao73 y471.length co73)) (fun _ hk => ⟨hk.1.1.1, ⟨hk.1.1.2, hk.1.2⟩⟩))⟩
    have n2_ : Aside0 (Kd.R (Kd.int .u8) 5 (w71.setCell ⟨gb450, 3, none⟩ (.slice Ao73 y471.length co73)) w.heap.size (fun k_ => some k_ ≠ (.slice Ao54 t436.length co54 : Value).ownBlock ∧ some k_ ≠ (.slice Ao62 t445.length co62 : Value).ownBlock ∧ some k_ ≠ (.slice Ao73 y471.length co73 : Value).ownBlock) (.slice Ao72 t466.length co72) t466) := ⟨by exact Kd.rup (Kd.R_mono (Kd.R_far (p := ⟨gb450, 3, none⟩) (Kd.R_types HO468.out BK450.out (by decide)) (fun _ hk => hk.2) (.slice Ao73 y471.length co73)) (fun _ hk => ⟨hk.1.1.1, ⟨hk.1.1.2, hk.1.2⟩⟩))⟩
    have n3_ : Aside0 (Kd.R (Kd.int .u8) 5 (w71.setCell ⟨gb450, 3, none⟩ (.slice Ao73 y471.length co73)) w.heap.size (fun k_ => some k_ ≠ (.slice Ao54 t436.length co54 : Value).ownBlock ∧ some k_ ≠ (.slice Ao62 t445.length co62 : Value).ownBlock ∧ some k_ ≠ (.slice Ao72 t466.length co72 : Value).ownBlock) (.slice Ao73 y471.length co73) y471) := ⟨by exact Kd.rup (Kd.R_mono (Kd.R_far (p := ⟨gb450, 3, none⟩) (Kd.R_types HO473.out BK450.out (by decide)) (fun _ hk => hk.2) (.slice Ao73 y471.length co73)) (fun _ hk => ⟨hk.1.1, ⟨hk.1.2.1, hk.1.2.2⟩⟩))⟩
    have n4_ : Aside0 ((w71.setCell ⟨gb450, 3, none⟩ (.slice Ao73 y471.length co73)).heap[gb427]? = some (.cells #[.int .i64 0, .int .i64 0, .float .f64 0, .slice none 0 0] 25 (0, 0))) := ⟨bput BK427.out⟩
    have n5_ : Aside0 ((w71.setCell ⟨gb450, 3, none⟩ (.slice Ao73 y471.length co73)).heap[gb428]? = some (.cells #[.int .i64 0, .int .i64 0, .float .f64 0, .slice none 0 0] 25 (0, 0))) := ⟨bput BK428.out⟩
    have n6_ : Aside0 ((w71.setCell ⟨gb450, 3, none⟩ (.slice Ao73 y471.length co73)).heap[gb441]? = some (.cells #[.int .i64 t433, .int .i64 t434, .float .f64 b435, .slice Ao54 t436.length co54] 25 (0, 0))) := ⟨bput BK441.out⟩
    have n7_ : Aside0 ((w71.setCell ⟨gb450, 3, none⟩ (.slice Ao73 y471.length co73)).heap[gb450]? = some (.cells #[.int .i64 t460, .int .i64 t461, .float .f64 b462, .slice Ao73 y471.length co73] 25 (0, 0))) := ⟨bput BK450.out⟩
    have n8_ : Aside0 (IsS83 w (w71.setCell ⟨gb450, 3, none⟩ (.slice Ao73 y471.length co73)) g432 t429 t469 t470) := ⟨by repeat (first | (with_reducible first | exact HI432.out | apply IsS83.alloc | apply IsS83.drewN | apply IsS83.drew | apply IsS83.set_1 | apply IsS83.set_2 | refine IsS83.far ?_ NB432_427.out _ | refine IsS83.far ?_ NB432_428.out _ | refine IsS83.far ?_ NB432_441.out _ | refine IsS83.far ?_ NB432_450.out _) | exact HI432.out)⟩
    have n9_ : Aside0 (Below w.heap.size w (w71.setCell ⟨gb450, 3, none⟩ (.slice Ao73 y471.length co73))) := ⟨by repeat (first | (with_reducible first | exact HB.out | apply h1 | apply h2 | apply h3 | refine h4 ?_ (IsS83.ge HI432.out) | refine h4 ?_ GE427.out | refine h4 ?_ GE428.out | refine h4 ?_ GE441.out | refine h4 ?_ GE450.out) | exact HB.out)⟩
    (try clear HO438)
    (try clear HO447)
    (try clear HO468)
    (try clear HO473)
    (try clear BK427)
    (try clear BK428)
    (try clear BK441)
    (try clear BK450)
    (try clear HI432)
    (try clear HB)
    generalize (w71.setCell ⟨gb450, 3, none⟩ (.slice Ao73 y471.length co73)) = w75 at n0_ n1_ n2_ n3_ n4_ n5_ n6_ n7_ n8_ n9_ ⊢
    have HO438 := n0_
    have HO447 := n1_
    have HO468 := n2_
    have HO473 := n3_
    have BK427 := n4_
    have BK428 := n5_
    have BK441 := n6_
    have BK450 := n7_
    have HI432 := n8_
    have HB := n9_
    clear n0_ n1_ n2_ n3_ n4_ n5_ n6_ n7_ n8_ n9_
    have n0_ := Aside0.mk (Kd.R_drew HO438.out)
    have n1_ := Aside0.mk (Kd.R_drew HO447.out)
    have n2_ := Aside0.mk (Kd.R_drew HO468.out)
    have n3_ := Aside0.mk (Kd.R_drew HO473.out)
    have n4_ := Aside0.mk (blk_drew BK427.out)
    have n5_ := Aside0.mk (blk_drew BK428.out)
    have n6_ := Aside0.mk (blk_drew BK441.out)
    have n7_ := Aside0.mk (blk_drew BK450.out)
    have n8_ := Aside0.mk (IsS83.drew HI432.out)
    have n9_ := Aside0.mk (below_drew1 HB.out)
    clear HO438
    clear HO447
    clear HO468
    clear HO473
    clear BK427
    clear BK428
    clear BK441
    clear BK450
    clear HI432
    clear HB
    have HO438 := n0_
    have HO447 := n1_
    have HO468 := n2_
    have HO473 := n3_
    have BK427 := n4_
    have BK428 := n5_
    have BK441 := n6_
    have BK450 := n7_
    have HI432 := n8_
    have HB := n9_
    clear n0_ n1_ n2_ n3_ n4_ n5_ n6_ n7_ n8_ n9_
    refine start_ (n := 4) (S := fun w' => w'.cell? ⟨gb441, 0, none⟩ = some (.int .i64 t433) ∧ w'.cell? ⟨gb441, 1, none⟩ = some (.int .i64 t434) ∧ w'.cell? ⟨gb441, 2, none⟩ = some (.float .f64 b435) ∧ w'.cell? ⟨gb441, 3, none⟩ = some (.slice Ao54 t436.length co54) ∧ w'.cell? ⟨gb450, 0, none⟩ = some (.int .i64 t460) ∧ w'.cell? ⟨gb450, 1, none⟩ = some (.int .i64 t461) ∧ w'.cell? ⟨gb450, 2, none⟩ = some (.float .f64 b462) ∧ w'.cell? ⟨gb450, 3, none⟩ = some (.slice Ao73 y471.length co73)) (ds := []) #[false, false, false, false] (by kernel_rfl) rfl rfl ⟨(blk_cell BK441.out 0).trans rfl, (blk_cell BK441.out 1).trans rfl, (blk_cell BK441.out 2).trans rfl, (blk_cell BK441.out 3).trans rfl, (blk_cell BK450.out 0).trans rfl, (blk_cell BK450.out 1).trans rfl, (blk_cell BK450.out 2).trans rfl, (blk_cell BK450.out 3).trans rfl⟩ (fun hHeld => ?_)
    generalize w75.drew = w76 at HO438 HO447 HO468 HO473 BK427 BK428 BK441 BK450 HI432 HB hHeld ⊢
    refine take_ (i := 0) (N := some 35) (v := ?_) (a' := ?_) #[true, false, false, false] rfl rfl (by kernel_rfl) (fun _ _ _ h => h) (Or.inl ⟨by rfl, ?_⟩) hHeld ?_ ?_
    rotate_left
    ·rintro w' ⟨s0, s1, s2, s3, s4, s5, s6, s7⟩
     go_simp
     with_reducible rfl
    rotate_left
    ·simp only [Act.put, List.setIfInBounds_toArray, List.set_cons_zero, List.set_cons_succ, i64_w, i32_w]
     rfl
    refine take_ (i := 1) (N := some 36) (v := ?_) (a' := ?_) #[true, true, false, false] rfl rfl (by kernel_rfl) (fun _ _ _ h => h) (Or.inl ⟨by rfl, ?_⟩) hHeld ?_ ?_
    rotate_left
    ·rintro w' ⟨s0, s1, s2, s3, s4, s5, s6, s7⟩
     go_simp
     with_reducible rfl
    rotate_left
    ·simp only [Act.put, List.setIfInBounds_toArray, List.set_cons_zero, List.set_cons_succ, i64_w, i32_w]
     rfl
    refine one_ (i := 2) (N := none) #[true, true, true, false] rfl rfl (by kernel_rfl) (by decide) (fun K hK => ?_)
    have hs77 : w76.cell? ⟨gb427, 0, none⟩ = some (.int .i64 0) := (blk_cell BK427.out 0).trans rfl
    have hfs77 := blk_frozen BK427.out 0
    have hns77_1 := NB428_427.out
    have hns77_2 := NB441_427.out
    have hns77_3 := NB450_427.out
    have hms77_1 := NB427_428.out
    have hms77_2 := NB427_441.out
    have hms77_3 := NB427_450.out
    have hs78 : w76.cell? ⟨gb427, 1, none⟩ = some (.int .i64 0) := (blk_cell BK427.out 1).trans rfl
    have hfs78 := blk_frozen BK427.out 1
    have hns78_1 := NB428_427.out
    have hns78_2 := NB441_427.out
    have hns78_3 := NB450_427.out
    have hms78_1 := NB427_428.out
    have hms78_2 := NB427_441.out
    have hms78_3 := NB427_450.out
    have hs79 : w76.cell? ⟨gb427, 2, none⟩ = some (.float .f64 0) := (blk_cell BK427.out 2).trans rfl
    have hfs79 := blk_frozen BK427.out 2
    have hns79_1 := NB428_427.out
    have hns79_2 := NB441_427.out
    have hns79_3 := NB450_427.out
    have hms79_1 := NB427_428.out
    have hms79_2 := NB427_441.out
    have hms79_3 := NB427_450.out
    have hs80 : w76.cell? ⟨gb427, 3, none⟩ = some (.slice none 0 0) := (blk_cell BK427.out 3).trans rfl
    have hfs80 := blk_frozen BK427.out 3
    have hns80_1 := NB428_427.out
    have hns80_2 := NB441_427.out
    have hns80_3 := NB450_427.out
    have hms80_1 := NB427_428.out
    have hms80_2 := NB427_441.out
    have hms80_3 := NB427_450.out
    refine skip_ (w1 := ?_) (by rfl) rfl ?_ ?_
    rotate_left
    ·go_simp
     rfl
    refine hK.out _ _ ⟨((cell_far (p := ⟨gb427, _, none⟩) NB441_427.out _).trans (((cell_far (p := ⟨gb427, _, none⟩) NB441_427.out _).trans (((cell_far (p := ⟨gb427, _, none⟩) NB441_427.out _).trans (((cell_far (p := ⟨gb427, _, none⟩) NB441_427.out _).trans (hHeld.1)))))))), ((cell_far (p := ⟨gb427, _, none⟩) NB441_427.out _).trans (((cell_far (p := ⟨gb427, _, none⟩) NB441_427.out _).trans (((cell_far (p := ⟨gb427, _, none⟩) NB441_427.out _).trans (((cell_far (p := ⟨gb427, _, none⟩) NB441_427.out _).trans (hHeld.2.1)))))))), ((cell_far (p := ⟨gb427, _, none⟩) NB441_427.out _).trans (((cell_far (p := ⟨gb427, _, none⟩) NB441_427.out _).trans (((cell_far (p := ⟨gb427, _, none⟩) NB441_427.out _).trans (((cell_far (p := ⟨gb427, _, none⟩) NB441_427.out _).trans (hHeld.2.2.1)))))))), ((cell_far (p := ⟨gb427, _, none⟩) NB441_427.out _).trans (((cell_far (p := ⟨gb427, _, none⟩) NB441_427.out _).trans (((cell_far (p := ⟨gb427, _, none⟩) NB441_427.out _).trans (((cell_far (p := ⟨gb427, _, none⟩) NB441_427.out _).trans (hHeld.2.2.2.1)))))))), ((cell_far (p := ⟨gb427, _, none⟩) NB450_427.out _).trans (((cell_far (p := ⟨gb427, _, none⟩) NB450_427.out _).trans (((cell_far (p := ⟨gb427, _, none⟩) NB450_427.out _).trans (((cell_far (p := ⟨gb427, _, none⟩) NB450_427.out _).trans (hHeld.2.2.2.2.1)))))))), ((cell_far (p := ⟨gb427, _, none⟩) NB450_427.out _).trans (((cell_far (p := ⟨gb427, _, none⟩) NB450_427.out _).trans (((cell_far (p := ⟨gb427, _, none⟩) NB450_427.out _).trans (((cell_far (p := ⟨gb427, _, none⟩) NB450_427.out _).trans (hHeld.2.2.2.2.2.1)))))))), ((cell_far (p := ⟨gb427, _, none⟩) NB450_427.out _).trans (((cell_far (p := ⟨gb427, _, none⟩) NB450_427.out _).trans (((cell_far (p := ⟨gb427, _, none⟩) NB450_427.out _).trans (((cell_far (p := ⟨gb427, _, none⟩) NB450_427.out _).trans (hHeld.2.2.2.2.2.2.1)))))))), ((cell_far (p := ⟨gb427, _, none⟩) NB450_427.out _).trans (((cell_far (p := ⟨gb427, _, none⟩) NB450_427.out _).trans (((cell_far (p := ⟨gb427, _, none⟩) NB450_427.out _).trans (((cell_far (p := ⟨gb427, _, none⟩) NB450_427.out _).trans (hHeld.2.2.2.2.2.2.2))))))))⟩ (fun hHeld => ?_)
    clear hK K
    refine one_ (i := 3) (N := none) #[true, true, true, true] rfl rfl (by kernel_rfl) (by decide) (fun K hK => ?_)
    have hs81 : w76.cell? ⟨gb428, 0, none⟩ = some (.int .i64 0) := (blk_cell BK428.out 0).trans rfl
    have hfs81 := blk_frozen BK428.out 0
    have hns81_0 := NB427_428.out
    have hns81_2 := NB441_428.out
    have hns81_3 := NB450_428.out
    have hms81_0 := NB428_427.out
    have hms81_2 := NB428_441.out
    have hms81_3 := NB428_450.out
    have hs82 : w76.cell? ⟨gb428, 1, none⟩ = some (.int .i64 0) := (blk_cell BK428.out 1).trans rfl
    have hfs82 := blk_frozen BK428.out 1
    have hns82_0 := NB427_428.out
    have hns82_2 := NB441_428.out
    have hns82_3 := NB450_428.out
    have hms82_0 := NB428_427.out
    have hms82_2 := NB428_441.out
    have hms82_3 := NB428_450.out
    have hs83 : w76.cell? ⟨gb428, 2, none⟩ = some (.float .f64 0) := (blk_cell BK428.out 2).trans rfl
    have hfs83 := blk_frozen BK428.out 2
    have hns83_0 := NB427_428.out
    have hns83_2 := NB441_428.out
    have hns83_3 := NB450_428.out
    have hms83_0 := NB428_427.out
    have hms83_2 := NB428_441.out
    have hms83_3 := NB428_450.out
    have hs84 : w76.cell? ⟨gb428, 3, none⟩ = some (.slice none 0 0) := (blk_cell BK428.out 3).trans rfl
    have hfs84 := blk_frozen BK428.out 3
    have hns84_0 := NB427_428.out
    have hns84_2 := NB441_428.out
    have hns84_3 := NB450_428.out
    have hms84_0 := NB428_427.out
    have hms84_2 := NB428_441.out
    have hms84_3 := NB428_450.out
    refine skip_ (w1 := ?_) (by rfl) rfl ?_ ?_
    rotate_left
    ·go_simp
     rfl
    refine hK.out _ _ ⟨((cell_far (p := ⟨gb428, _, none⟩) NB441_428.out _).trans (((cell_far (p := ⟨gb428, _, none⟩) NB441_428.out _).trans (((cell_far (p := ⟨gb428, _, none⟩) NB441_428.out _).trans (((cell_far (p := ⟨gb428, _, none⟩) NB441_428.out _).trans (hHeld.1)))))))), ((cell_far (p := ⟨gb428, _, none⟩) NB441_428.out _).trans (((cell_far (p := ⟨gb428, _, none⟩) NB441_428.out _).trans (((cell_far (p := ⟨gb428, _, none⟩) NB441_428.out _).trans (((cell_far (p := ⟨gb428, _, none⟩) NB441_428.out _).trans (hHeld.2.1)))))))), ((cell_far (p := ⟨gb428, _, none⟩) NB441_428.out _).trans (((cell_far (p := ⟨gb428, _, none⟩) NB441_428.out _).trans (((cell_far (p := ⟨gb428, _, none⟩) NB441_428.out _).trans (((cell_far (p := ⟨gb428, _, none⟩) NB441_428.out _).trans (hHeld.2.2.1)))))))), ((cell_far (p := ⟨gb428, _, none⟩) NB441_428.out _).trans (((cell_far (p := ⟨gb428, _, none⟩) NB441_428.out _).trans (((cell_far (p := ⟨gb428, _, none⟩) NB441_428.out _).trans (((cell_far (p := ⟨gb428, _, none⟩) NB441_428.out _).trans (hHeld.2.2.2.1)))))))), ((cell_far (p := ⟨gb428, _, none⟩) NB450_428.out _).trans (((cell_far (p := ⟨gb428, _, none⟩) NB450_428.out _).trans (((cell_far (p := ⟨gb428, _, none⟩) NB450_428.out _).trans (((cell_far (p := ⟨gb428, _, none⟩) NB450_428.out _).trans (hHeld.2.2.2.2.1)))))))), ((cell_far (p := ⟨gb428, _, none⟩) NB450_428.out _).trans (((cell_far (p := ⟨gb428, _, none⟩) NB450_428.out _).trans (((cell_far (p := ⟨gb428, _, none⟩) NB450_428.out _).trans (((cell_far (p := ⟨gb428, _, none⟩) NB450_428.out _).trans (hHeld.2.2.2.2.2.1)))))))), ((cell_far (p := ⟨gb428, _, none⟩) NB450_428.out _).trans (((cell_far (p := ⟨gb428, _, none⟩) NB450_428.out _).trans (((cell_far (p := ⟨gb428, _, none⟩) NB450_428.out _).trans (((cell_far (p := ⟨gb428, _, none⟩) NB450_428.out _).trans (hHeld.2.2.2.2.2.2.1)))))))), ((cell_far (p := ⟨gb428, _, none⟩) NB450_428.out _).trans (((cell_far (p := ⟨gb428, _, none⟩) NB450_428.out _).trans (((cell_far (p := ⟨gb428, _, none⟩) NB450_428.out _).trans (((cell_far (p := ⟨gb428, _, none⟩) NB450_428.out _).trans (hHeld.2.2.2.2.2.2.2))))))))⟩ (fun hHeld => ?_)
    clear hK K
    refine done_ (by kernel_rfl) ?_
    try go_wp2
    refine bodyPost_ret (results_cc rfl _ _ gb427 gb428 25 25 #[.int .i64 t433, .int .i64 t434, .float .f64 b435, .slice Ao54 t436.length co54] #[.int .i64 t460, .int .i64 t461, .float .f64 b462, .slice Ao73 y471.length co73] (0, 0) (0, 0) _ _ rfl (bput BK427.out) Try.underlying25 rfl (by kernel_rfl) rfl (bput BK428.out) Try.underlying25 rfl (by kernel_rfl)) rfl ?_
    exact ⟨_, _, _, _, by first | rfl | (simp [errW_none, errW_some] <;> rfl) | (simp [*, errW_none, errW_some] <;> rfl), (Kd.R_mono (Kd.roff2 HO438.out BK427.out (by decide) BK428.out (by decide)) (fun _ hk => hk.2.2)), (Kd.R_mono (Kd.roff2 HO473.out BK427.out (by decide) BK428.out (by decide)) (fun _ hk => hk.1)), by repeat (first | (with_reducible first | exact HB.out | apply h1 | apply h2 | apply h3 | refine h4 ?_ (IsS83.ge HI432.out) | refine h4 ?_ GE427.out | refine h4 ?_ GE428.out | refine h4 ?_ GE441.out | refine h4 ?_ GE450.out) | exact HB.out), (by first | exact ⟨⟨rfl, LTb435.out⟩⟩ | exact ⟨⟨rfl, LTb444.out⟩⟩ | exact ⟨⟨rfl, LTb462.out⟩⟩ | exact ⟨⟨by first | rfl | decide, by decide⟩⟩ | exact ⟨⟨rfl, fquo_lt (by assumption)⟩⟩), (by first | exact ⟨⟨rfl, LTb435.out⟩⟩ | exact ⟨⟨rfl, LTb444.out⟩⟩ | exact ⟨⟨rfl, LTb462.out⟩⟩ | exact ⟨⟨by first | rfl | decide, by decide⟩⟩ | exact ⟨⟨rfl, fquo_lt (by assumption)⟩⟩)⟩
   ·rw [if_neg c44] at H
    exact absurd H (by simp)
  ·rw [if_neg c41] at H
   have c41b0 : (t451 == 1) = false := beq_eq_false_iff_ne.mpr c41
   have c41b1 : (t451 != 1) = true := bne_iff_ne.mpr c41
   go_enter Try.func20, Try.ntmps20
   repeat (first | ((with_reducible refine gate_dst (N := 2) rfl ?_); refine box_event ?hg (N := 2) ?hd (cs := #[.int .i64 0, .int .i64 0, .float .f64 0, .slice none 0 0]) (t := 25) ?hr ?_; (case hd => rfl); (case hg => rfl); (case hr => first | (go_simp; done) | (go_simp; rfl)); intro gb427 hg w88 hbox hb; have n0_ := Aside0.mk (below_step (hup HB.out) hb); have n1_ := Aside0.mk (hbox); have n2_ := Geq.mk ((by rw [hg]; exact (below_size (hup HB.out)) : w.heap.size ≤ gb427)); have n3_ := Geq.mk ((by rw [hg]; exact (below_size (hup HB.out)) : w.heap.size ≤ gb427)); clear HB; have HB := n0_; have BK427 := n1_; have GW427 := n2_; have GE427 := n3_; clear n0_ n1_ n2_ n3_; clear hb hbox hg) | ((with_reducible refine gate_dst (N := 3) rfl ?_); refine box_event ?hg (N := 3) ?hd (cs := #[.int .i64 0, .int .i64 0, .float .f64 0, .slice none 0 0]) (t := 25) ?hr ?_; (case hd => rfl); (case hg => rfl); (case hr => first | (go_simp; done) | (go_simp; rfl)); intro gb428 hg w89 hbox hb; have n0_ := Aside0.mk (blk_below (bup BK427.out) hb); have n1_ := Aside0.mk (below_step (hset HB.out) hb); have n2_ := Aside0.mk (hbox); have n3_ := Geq.mk ((by rw [hg]; exact (below_size (hset HB.out)) : w.heap.size ≤ gb428)); have n4_ := Geq.mk ((by rw [hg]; exact (below_size (hset HB.out)) : w.heap.size ≤ gb428)); have n5_ := Neq.mk ((by rw [hg]; exact Nat.ne_of_lt (blk_lt (g := gb427) (o := .cells #[.int .i64 0, .int .i64 0, .float .f64 0, .slice none 0 0] 25 (0, 0)) (bup BK427.out)) : gb427 ≠ gb428)); have n6_ := Neq.mk ((by rw [hg]; exact Nat.ne_of_gt (blk_lt (g := gb427) (o := .cells #[.int .i64 0, .int .i64 0, .float .f64 0, .slice none 0 0] 25 (0, 0)) (bup BK427.out)) : gb428 ≠ gb427)); clear BK427; clear HB; have BK427 := n0_; have HB := n1_; have BK428 := n2_; have GW428 := n3_; have GE428 := n4_; have NB427_428 := n5_; have NB428_427 := n6_; clear n0_ n1_ n2_ n3_ n4_ n5_ n6_; clear hb hbox hg) | ((with_reducible refine gate_callee (f := 57) rfl ?_); refine goesL_ (some 8) rfl rfl Try.func57 (by kernel_rfl) rfl #[.slice A0 l0.length c0] rfl (by (try simp only [List.map_toArray, List.map_cons, List.map_nil]); first | done | rfl) ?_; (with_reducible refine (spec_l1New.calls k _ _ l0 t429 t430 t431 w _ ?side1 ?side2 ?side3 A2.out).mono ?_); (case side1 => with_reducible repeat (first | exact HB.out | refine h4 ?_ GE427.out | refine h4 ?_ GE428.out | apply h1 | apply h2 | apply h3)); (case side2 => exact HR0.out); (case side3 => exact HC0.out); rintro e w90 ⟨g432, rfl, hi, hb, hb2⟩; refine ⟨_, rfl, ?_⟩; have n0_ := Aside0.mk (blk_below (bup BK427.out) hb2); have n1_ := Aside0.mk (blk_below (bup BK428.out) hb2); have n2_ := Aside0.mk (hb); have n3_ := Aside0.mk (hi); have n4_ := Aside0.mk (IsS83.ne_blk hi (blk_below (bup BK427.out) hb2) (by decide)); have n5_ := Aside0.mk (Ne.symm (IsS83.ne_blk hi (blk_below (bup BK427.out) hb2) (by decide))); have n6_ := Aside0.mk (IsS83.ne_blk hi (blk_below (bup BK428.out) hb2) (by decide)); have n7_ := Aside0.mk (Ne.symm (IsS83.ne_blk hi (blk_below (bup BK428.out) hb2) (by decide))); clear BK427; clear BK428; clear HB; have BK427 := n0_; have BK428 := n1_; have HB := n2_; have HI432 := n3_; have NB432_427 := n4_; have NB427_432 := n5_; have NB432_428 := n6_; have NB428_432 := n7_; clear n0_ n1_ n2_ n3_ n4_ n5_ n6_ n7_; (try clear hb); (try clear hb2); (try clear hk); (try clear hi)) | ((with_reducible refine gate_callee (f := 58) rfl ?_); refine goesL_ (some 10) rfl rfl Try.func58 (by kernel_rfl) rfl #[.pointer (some ⟨g432, 0, none⟩)] rfl (by (try simp only [List.map_toArray, List.map_cons, List.map_nil]); first | done | rfl) ?_; (with_reducible refine (spec_l3any.callsC k g432 t429 t430 t431 t433 t434 t435 t436 t439 t440 w _ ?side1 ?side2 A3.out).mono ?_); (case side1 => repeat (first | (with_reducible first | exact HI432.out | apply IsS83.alloc | apply IsS83.drewN | apply IsS83.drew | apply IsS83.set_1 | apply IsS83.set_2 | refine IsS83.far ?_ NB432_427.out _ | refine IsS83.far ?_ NB432_428.out _) | exact HI432.out)); (case side2 => repeat (first | (with_reducible first | exact HB.out | apply h1 | apply h2 | apply h3 | refine h4 ?_ (IsS83.ge HI432.out) | refine h4 ?_ GE427.out | refine h4 ?_ GE428.out) | exact HB.out)); rintro e w91 ⟨b435, v437, rfl, ho0, hi, hb, hk, ⟨⟨hcnb435, hltb435⟩⟩⟩; refine ⟨_, rfl, ?_⟩; have LTb435 := Aside0.mk hltb435; clear hltb435; subst hcnb435; have n0_ := Aside0.mk (KeepBut.blk hk (g' := gb427) (o := .cells #[.int .i64 0, .int .i64 0, .float .f64 0, .slice none 0 0] 25 (0, 0)) (bup BK427.out) NB427_432.out (by simp)); have n1_ := Aside0.mk (KeepBut.blk hk (g' := gb428) (o := .cells #[.int .i64 0, .int .i64 0, .float .f64 0, .slice none 0 0] 25 (0, 0)) (bup BK428.out) NB428_432.out (by simp)); have n2_ := Aside0.mk (Kd.R_lower ho0 (below_size (by repeat (first | (with_reducible first | exact HB.out | apply h1 | apply h2 | apply h3 | refine h4 ?_ (IsS83.ge HI432.out) | refine h4 ?_ GE427.out | refine h4 ?_ GE428.out) | exact HB.out)))); have n3_ := Aside0.mk (hb); have n4_ := Aside0.mk (hi); clear BK427; clear BK428; clear HB; clear HI432; have BK427 := n0_; have BK428 := n1_; have HO438 := n2_; have HB := n3_; have HI432 := n4_; clear n0_ n1_ n2_ n3_ n4_; (try clear hb); (try clear hb2); (try clear hk); (try clear hi); (try clear ho0)) | ((with_reducible refine gate_dst (N := 5) rfl ?_); refine box_event ?hg (N := 5) ?hd (cs := #[.int .i64 0, .int .i64 0, .float .f64 0, .slice none 0 0]) (t := 25) ?hr ?_; (case hd => rfl); (case hg => rfl); (case hr => first | (go_simp; done) | (go_simp; rfl)); intro gb441 hg w92 hbox hb; have n0_ := Aside0.mk (Kd.R_below (Kd.rup HO438.out) hb); have n1_ := Aside0.mk (blk_below (bup BK427.out) hb); have n2_ := Aside0.mk (blk_below (bup BK428.out) hb); have n3_ := Aside0.mk (IsS83.below (by repeat (first | (with_reducible first | exact HI432.out | apply IsS83.alloc | apply IsS83.drewN | apply IsS83.drew | apply IsS83.set_1 | apply IsS83.set_2 | refine IsS83.far ?_ NB432_427.out _ | refine IsS83.far ?_ NB432_428.out _) | exact HI432.out)) hb); have n4_ := Aside0.mk (below_step (by repeat (first | (with_reducible first | exact HB.out | apply h1 | apply h2 | apply h3 | refine h4 ?_ (IsS83.ge HI432.out) | refine h4 ?_ GE427.out | refine h4 ?_ GE428.out) | exact HB.out)) hb); have n5_ := Aside0.mk (hbox); have n6_ := Geq.mk ((by rw [hg]; exact (below_size (by repeat (first | (with_reducible first | exact HB.out | apply h1 | apply h2 | apply h3 | refine h4 ?_ (IsS83.ge HI432.out) | refine h4 ?_ GE427.out | refine h4 ?_ GE428.out) | exact HB.out))) : w.heap.size ≤ gb441)); have n7_ := Geq.mk ((by rw [hg]; exact (below_size (by repeat (first | (with_reducible first | exact HB.out | apply h1 | apply h2 | apply h3 | refine h4 ?_ (IsS83.ge HI432.out) | refine h4 ?_ GE427.out | refine h4 ?_ GE428.out) | exact HB.out))) : w.heap.size ≤ gb441)); have n8_ := Neq.mk ((by rw [hg]; exact Nat.ne_of_lt (blk_lt (g := gb427) (o := .cells #[.int .i64 0, .int .i64 0, .float .f64 0, .slice none 0 0] 25 (0, 0)) (bup BK427.out)) : gb427 ≠ gb441)); have n9_ := Neq.mk ((by rw [hg]; exact Nat.ne_of_gt (blk_lt (g := gb427) (o := .cells #[.int .i64 0, .int .i64 0, .float .f64 0, .slice none 0 0] 25 (0, 0)) (bup BK427.out)) : gb441 ≠ gb427)); have n10_ := Neq.mk ((by rw [hg]; exact Nat.ne_of_lt (blk_lt (g := gb428) (o := .cells #[.int .i64 0, .int .i64 0, .float .f64 0, .slice none 0 0] 25 (0, 0)) (bup BK428.out)) : gb428 ≠ gb441)); have n11_ := Neq.mk ((by rw [hg]; exact Nat.ne_of_gt (blk_lt (g := gb428) (o := .cells #[.int .i64 0, .int .i64 0, .float .f64 0, .slice none 0 0] 25 (0, 0)) (bup BK428.out)) : gb441 ≠ gb428)); have n12_ := Aside0.mk ((by rw [hg]; exact Nat.ne_of_lt (IsS83.lt (show IsS83 w _ g432 t429 t439 t440 from by repeat (first | (with_reducible first | exact HI432.out | apply IsS83.alloc | apply IsS83.drewN | apply IsS83.drew | apply IsS83.set_1 | apply IsS83.set_2 | refine IsS83.far ?_ NB432_427.out _ | refine IsS83.far ?_ NB432_428.out _) | exact HI432.out))) : g432 ≠ gb441)); have n13_ := Aside0.mk ((by rw [hg]; exact Nat.ne_of_gt (IsS83.lt (show IsS83 w _ g432 t429 t439 t440 from by repeat (first | (with_reducible first | exact HI432.out | apply IsS83.alloc | apply IsS83.drewN | apply IsS83.drew | apply IsS83.set_1 | apply IsS83.set_2 | refine IsS83.far ?_ NB432_427.out _ | refine IsS83.far ?_ NB432_428.out _) | exact HI432.out))) : gb441 ≠ g432)); clear HO438; clear BK427; clear BK428; clear HI432; clear HB; have HO438 := n0_; have BK427 := n1_; have BK428 := n2_; have HI432 := n3_; have HB := n4_; have BK441 := n5_; have GW441 := n6_; have GE441 := n7_; have NB427_441 := n8_; have NB441_427 := n9_; have NB428_441 := n10_; have NB441_428 := n11_; have NB432_441 := n12_; have NB441_432 := n13_; clear n0_ n1_ n2_ n3_ n4_ n5_ n6_ n7_ n8_ n9_ n10_ n11_ n12_ n13_; clear hb hbox hg; have hnb93 := NB441_427.out; have hnc93 := NB427_441.out; have hnb94 := NB441_428.out; have hnc94 := NB428_441.out; have hnb95 := NB441_432.out; have hnc95 := NB432_441.out; obtain ⟨hcz96_0, hcz96_1, hcz96_2, hcz96_3⟩ := blk_cells4 BK441.out; obtain ⟨hfz96_0, hfz96_1, hfz96_2, hfz96_3⟩ := blk_frozens4 BK441.out; obtain ⟨Ao97, co97, eo97⟩ := Kd.R_slice HO438.out; subst eo97) | ((with_reducible refine gate_callee (f := 58) rfl ?_); refine goesL_ (some 12) rfl rfl Try.func58 (by kernel_rfl) rfl #[.pointer (some ⟨g432, 0, none⟩)] rfl (by (try simp only [List.map_toArray, List.map_cons, List.map_nil]); first | done | rfl) ?_; (with_reducible refine (spec_l3any.callsC k g432 t429 t439 t440 t442 t443 t444 t445 t448 t449 w _ ?side1 ?side2 A4.out).mono ?_); (case side1 => repeat (first | (with_reducible first | exact HI432.out | apply IsS83.alloc | apply IsS83.drewN | apply IsS83.drew | apply IsS83.set_1 | apply IsS83.set_2 | refine IsS83.far ?_ NB432_427.out _ | refine IsS83.far ?_ NB432_428.out _ | refine IsS83.far ?_ NB432_441.out _) | exact HI432.out)); (case side2 => repeat (first | (with_reducible first | exact HB.out | apply h1 | apply h2 | apply h3 | refine h4 ?_ (IsS83.ge HI432.out) | refine h4 ?_ GE427.out | refine h4 ?_ GE428.out | refine h4 ?_ GE441.out) | exact HB.out)); rintro e w98 ⟨b444, v446, rfl, ho0, hi, hb, hk, ⟨⟨hcnb444, hltb444⟩⟩⟩; refine ⟨_, rfl, ?_⟩; have LTb444 := Aside0.mk hltb444; clear hltb444; subst hcnb444; have n0_ := Aside0.mk (KeepBut.blk hk (g' := gb427) (o := .cells #[.int .i64 0, .int .i64 0, .float .f64 0, .slice none 0 0] 25 (0, 0)) (bput BK427.out) NB427_432.out (by simp)); have n1_ := Aside0.mk (KeepBut.blk hk (g' := gb428) (o := .cells #[.int .i64 0, .int .i64 0, .float .f64 0, .slice none 0 0] 25 (0, 0)) (bput BK428.out) NB428_432.out (by simp)); have n2_ := Aside0.mk (Kd.R_mono (Kd.R_told (Kd.R_oldK (IsS83.apart (show IsS83 w _ g432 t429 t439 t440 from by repeat (first | (with_reducible first | exact HI432.out | apply IsS83.alloc | apply IsS83.drewN | apply IsS83.drew | apply IsS83.set_1 | apply IsS83.set_2 | refine IsS83.far ?_ NB432_427.out _ | refine IsS83.far ?_ NB432_428.out _ | refine IsS83.far ?_ NB432_441.out _) | exact HI432.out)) ((Kd.roff1 HO438.out BK441.out (by decide))) (by decide)) hk) (Kd.R_base ho0)) (fun _ h_ => h_.1)); have n3_ := Aside0.mk (KeepBut.blk hk (g' := gb441) (o := .cells #[.int .i64 t433, .int .i64 t434, .float .f64 b435, .slice Ao97 t436.length co97] 25 (0, 0)) (bput BK441.out) NB441_432.out (by simp)); have n4_ := Aside0.mk (Kd.R_lower (Kd.R_new' ho0 (Kd.R_lt ((Kd.roff1 HO438.out BK441.out (by decide))))) (below_size (by repeat (first | (with_reducible first | exact HB.out | apply h1 | apply h2 | apply h3 | refine h4 ?_ (IsS83.ge HI432.out) | refine h4 ?_ GE427.out | refine h4 ?_ GE428.out | refine h4 ?_ GE441.out) | exact HB.out)))); have n5_ := Aside0.mk (hb); have n6_ := Aside0.mk (hi); clear BK427; clear BK428; clear HO438; clear BK441; clear HB; clear HI432; have BK427 := n0_; have BK428 := n1_; have HO438 := n2_; have BK441 := n3_; have HO447 := n4_; have HB := n5_; have HI432 := n6_; clear n0_ n1_ n2_ n3_ n4_ n5_ n6_; (try clear hb); (try clear hb2); (try clear hk); (try clear hi); (try clear ho0)) | ((with_reducible refine gate_dst (N := 6) rfl ?_); refine box_event ?hg (N := 6) ?hd (cs := #[.int .i64 0, .int .i64 0, .float .f64 0, .slice none 0 0]) (t := 25) ?hr ?_; (case hd => rfl); (case hg => rfl); (case hr => first | (go_simp; done) | (go_simp; rfl)); intro gb450 hg w99 hbox hb; have n0_ := Aside0.mk (Kd.R_below (Kd.rup HO438.out) hb); have n1_ := Aside0.mk (Kd.R_below (Kd.rup HO447.out) hb); have n2_ := Aside0.mk (blk_below (bup BK427.out) hb); have n3_ := Aside0.mk (blk_below (bup BK428.out) hb); have n4_ := Aside0.mk (IsS83.below (by repeat (first | (with_reducible first | exact HI432.out | apply IsS83.alloc | apply IsS83.drewN | apply IsS83.drew | apply IsS83.set_1 | apply IsS83.set_2 | refine IsS83.far ?_ NB432_427.out _ | refine IsS83.far ?_ NB432_428.out _ | refine IsS83.far ?_ NB432_441.out _) | exact HI432.out)) hb); have n5_ := Aside0.mk (blk_below (bup BK441.out) hb); have n6_ := Aside0.mk (below_step (by repeat (first | (with_reducible first | exact HB.out | apply h1 | apply h2 | apply h3 | refine h4 ?_ (IsS83.ge HI432.out) | refine h4 ?_ GE427.out | refine h4 ?_ GE428.out | refine h4 ?_ GE441.out) | exact HB.out)) hb); have n7_ := Aside0.mk (hbox); have n8_ := Geq.mk ((by rw [hg]; exact (below_size (by repeat (first | (with_reducible first | exact HB.out | apply h1 | apply h2 | apply h3 | refine h4 ?_ (IsS83.ge HI432.out) | refine h4 ?_ GE427.out | refine h4 ?_ GE428.out | refine h4 ?_ GE441.out) | exact HB.out))) : w.heap.size ≤ gb450)); have n9_ := Geq.mk ((by rw [hg]; exact (below_size (by repeat (first | (with_reducible first | exact HB.out | apply h1 | apply h2 | apply h3 | refine h4 ?_ (IsS83.ge HI432.out) | refine h4 ?_ GE427.out | refine h4 ?_ GE428.out | refine h4 ?_ GE441.out) | exact HB.out))) : w.heap.size ≤ gb450)); have n10_ := Neq.mk ((by rw [hg]; exact Nat.ne_of_lt (blk_lt (g := gb427) (o := .cells #[.int .i64 0, .int .i64 0, .float .f64 0, .slice none 0 0] 25 (0, 0)) (bup BK427.out)) : gb427 ≠ gb450)); have n11_ := Neq.mk ((by rw [hg]; exact Nat.ne_of_gt (blk_lt (g := gb427) (o := .cells #[.int .i64 0, .int .i64 0, .float .f64 0, .slice none 0 0] 25 (0, 0)) (bup BK427.out)) : gb450 ≠ gb427)); have n12_ := Neq.mk ((by rw [hg]; exact Nat.ne_of_lt (blk_lt (g := gb428) (o := .cells #[.int .i64 0, .int .i64 0, .float .f64 0, .slice none 0 0] 25 (0, 0)) (bup BK428.out)) : gb428 ≠ gb450)); have n13_ := Neq.mk ((by rw [hg]; exact Nat.ne_of_gt (blk_lt (g := gb428) (o := .cells #[.int .i64 0, .int .i64 0, .float .f64 0, .slice none 0 0] 25 (0, 0)) (bup BK428.out)) : gb450 ≠ gb428)); have n14_ := Neq.mk ((by rw [hg]; exact Nat.ne_of_lt (blk_lt (g := gb441) (o := .cells #[.int .i64 t433, .int .i64 t434, .float .f64 b435, .slice Ao97 t436.length co97] 25 (0, 0)) (bup BK441.out)) : gb441 ≠ gb450)); have n15_ := Neq.mk ((by rw [hg]; exact Nat.ne_of_gt (blk_lt (g := gb441) (o := .cells #[.int .i64 t433, .int .i64 t434, .float .f64 b435, .slice Ao97 t436.length co97] 25 (0, 0)) (bup BK441.out)) : gb450 ≠ gb441)); have n16_ := Aside0.mk ((by rw [hg]; exact Nat.ne_of_lt (IsS83.lt (show IsS83 w _ g432 t429 t448 t449 from by repeat (first | (with_reducible first | exact HI432.out | apply IsS83.alloc | apply IsS83.drewN | apply IsS83.drew | apply IsS83.set_1 | apply IsS83.set_2 | refine IsS83.far ?_ NB432_427.out _ | refine IsS83.far ?_ NB432_428.out _ | refine IsS83.far ?_ NB432_441.out _) | exact HI432.out))) : g432 ≠ gb450)); have n17_ := Aside0.mk ((by rw [hg]; exact Nat.ne_of_gt (IsS83.lt (show IsS83 w _ g432 t429 t448 t449 from by repeat (first | (with_reducible first | exact HI432.out | apply IsS83.alloc | apply IsS83.drewN | apply IsS83.drew | apply IsS83.set_1 | apply IsS83.set_2 | refine IsS83.far ?_ NB432_427.out _ | refine IsS83.far ?_ NB432_428.out _ | refine IsS83.far ?_ NB432_441.out _) | exact HI432.out))) : gb450 ≠ g432)); clear HO438; clear HO447; clear BK427; clear BK428; clear HI432; clear BK441; clear HB; have HO438 := n0_; have HO447 := n1_; have BK427 := n2_; have BK428 := n3_; have HI432 := n4_; have BK441 := n5_; have HB := n6_; have BK450 := n7_; have GW450 := n8_; have GE450 := n9_; have NB427_450 := n10_; have NB450_427 := n11_; have NB428_450 := n12_; have NB450_428 := n13_; have NB441_450 := n14_; have NB450_441 := n15_; have NB432_450 := n16_; have NB450_432 := n17_; clear n0_ n1_ n2_ n3_ n4_ n5_ n6_ n7_ n8_ n9_ n10_ n11_ n12_ n13_ n14_ n15_ n16_ n17_; clear hb hbox hg; have hnb100 := NB450_427.out; have hnc100 := NB427_450.out; have hnb101 := NB450_428.out; have hnc101 := NB428_450.out; have hnb102 := NB450_441.out; have hnc102 := NB441_450.out; have hnb103 := NB450_432.out; have hnc103 := NB432_450.out; obtain ⟨hcz104_0, hcz104_1, hcz104_2, hcz104_3⟩ := blk_cells4 BK450.out; obtain ⟨hfz104_0, hfz104_1, hfz104_2, hfz104_3⟩ := blk_frozens4 BK450.out; obtain ⟨Ao105, co105, eo105⟩ := Kd.R_slice HO447.out; subst eo105) | ((fail_if_success (with_reducible refine gate_callee (f := 59) rfl ?_)); first | go_values | go_skip | go_guarded | go_step | go_upon | go_back | (simp only [Int.not_lt, Int.not_le] at *; go_simp)))
   (with_reducible refine gate_callee (f := 59) rfl ?_); refine goesL_ (some 14) rfl rfl Try.func59 (by kernel_rfl) rfl #[.pointer (some ⟨g432, 0, none⟩), .int .i64 4] rfl (by (try simp only [List.map_toArray, List.map_cons, List.map_nil]); first | done | rfl) ?_; (with_reducible refine (spec_l1Below.calls g432 t429 t448 t449 4 t451 t452 t453 w _ ?side1 ?side2 A5.out).mono ?_); (case side1 => repeat (first | (with_reducible first | exact HI432.out | apply IsS83.alloc | apply IsS83.drewN | apply IsS83.drew | apply IsS83.set_1 | apply IsS83.set_2 | refine IsS83.far ?_ NB432_427.out _ | refine IsS83.far ?_ NB432_428.out _ | refine IsS83.far ?_ NB432_441.out _ | refine IsS83.far ?_ NB432_450.out _) | exact HI432.out)); (case side2 => repeat (first | (with_reducible first | exact HB.out | apply h1 | apply h2 | apply h3 | refine h4 ?_ (IsS83.ge HI432.out) | refine h4 ?_ GE427.out | refine h4 ?_ GE428.out | refine h4 ?_ GE441.out | refine h4 ?_ GE450.out) | exact HB.out)); rintro e w106 ⟨rfl, hi, hb, hk⟩; refine ⟨_, rfl, ?_⟩; have n0_ := Aside0.mk (KeepBut.blk hk (g' := gb427) (o := .cells #[.int .i64 0, .int .i64 0, .float .f64 0, .slice none 0 0] 25 (0, 0)) (bput BK427.out) NB427_432.out (by simp)); have n1_ := Aside0.mk (KeepBut.blk hk (g' := gb428) (o := .cells #[.int .i64 0, .int .i64 0, .float .f64 0, .slice none 0 0] 25 (0, 0)) (bput BK428.out) NB428_432.out (by simp)); have n2_ := Aside0.mk (Kd.R_mono (Kd.R_keep (IsS83.apart (show IsS83 w _ g432 t429 t448 t449 from by repeat (first | (with_reducible first | exact HI432.out | apply IsS83.alloc | apply IsS83.drewN | apply IsS83.drew | apply IsS83.set_1 | apply IsS83.set_2 | refine IsS83.far ?_ NB432_427.out _ | refine IsS83.far ?_ NB432_428.out _ | refine IsS83.far ?_ NB432_441.out _ | refine IsS83.far ?_ NB432_450.out _) | exact HI432.out)) ((Kd.roff1 HO438.out BK450.out (by decide))) (by decide)) hk (fun _ h => h.2)) (fun _ h => h.1)); have n3_ := Aside0.mk (KeepBut.blk hk (g' := gb441) (o := .cells #[.int .i64 t433, .int .i64 t434, .float .f64 b435, .slice Ao97 t436.length co97] 25 (0, 0)) (bput BK441.out) NB441_432.out (by simp)); have n4_ := Aside0.mk (Kd.R_mono (Kd.R_keep (IsS83.apart (show IsS83 w _ g432 t429 t448 t449 from by repeat (first | (with_reducible first | exact HI432.out | apply IsS83.alloc | apply IsS83.drewN | apply IsS83.drew | apply IsS83.set_1 | apply IsS83.set_2 | refine IsS83.far ?_ NB432_427.out _ | refine IsS83.far ?_ NB432_428.out _ | refine IsS83.far ?_ NB432_441.out _ | refine IsS83.far ?_ NB432_450.out _) | exact HI432.out)) ((Kd.roff1 HO447.out BK450.out (by decide))) (by decide)) hk (fun _ h => h.2)) (fun _ h => h.1)); have n5_ := Aside0.mk (KeepBut.blk hk (g' := gb450) (o := .cells #[.int .i64 t442, .int .i64 t443, .float .f64 b444, .slice Ao105 t445.length co105] 25 (0, 0)) (bput BK450.out) NB450_432.out (by simp)); have n6_ := Aside0.mk (hb); have n7_ := Aside0.mk (hi); clear BK427; clear BK428; clear HO438; clear BK441; clear HO447; clear BK450; clear HB; clear HI432; have BK427 := n0_; have BK428 := n1_; have HO438 := n2_; have BK441 := n3_; have HO447 := n4_; have BK450 := n5_; have HB := n6_; have HI432 := n7_; clear n0_ n1_ n2_ n3_ n4_ n5_ n6_ n7_; (try clear hb); (try clear hb2); (try clear hk); (try clear hi)
   by_cases c85 : t451 = 2
   ·rw [if_pos c85] at H
    have c85b0 : (t451 == 2) = true := beq_iff_eq.mpr c85
    have c85b1 : (t451 != 2) = false := bne_eq_false_iff_eq.mpr c85
    (try simp only [c85b0, c85b1, Bool.not_true, Bool.not_false])
    clear c85
    replace H := Option.bind_eq_some_iff.mp H
    obtain ⟨⟨t474, t475, t476, t477, t480, t481⟩, A860, H⟩ := H
    (try dsimp only at H)
    have A86 := Aside0.mk A860
    clear A860
    replace H := Option.bind_eq_some_iff.mp H
    obtain ⟨⟨t482, t483, t484, t485, t488, t489⟩, A870, H⟩ := H
    (try dsimp only at H)
    have A87 := Aside0.mk A870
    clear A870
    simp only [Option.some.injEq, Prod.mk.injEq] at H
    obtain ⟨rfl, rfl, rfl, rfl, rfl, rfl, rfl, rfl⟩ := H
    try go_wp2_with (first | ((with_reducible refine gate_callee (f := 62) rfl ?_); refine goesL_ (some 32) rfl rfl Try.func62 (by kernel_rfl) rfl #[.pointer (some ⟨g432, 0, none⟩)] rfl (by (try simp only [List.map_toArray, List.map_cons, List.map_nil]); first | done | rfl) ?_; (with_reducible refine (spec_l3key.callsC k g432 t429 t452 t453 t474 t475 t476 t477 t480 t481 w _ ?side1 ?side2 A86.out).mono ?_); (case side1 => repeat (first | (with_reducible first | exact HI432.out | apply IsS83.alloc | apply IsS83.drewN | apply IsS83.drew | apply IsS83.set_1 | apply IsS83.set_2 | refine IsS83.far ?_ NB432_427.out _ | refine IsS83.far ?_ NB432_428.out _ | refine IsS83.far ?_ NB432_441.out _ | refine IsS83.far ?_ NB432_450.out _) | exact HI432.out)); (case side2 => repeat (first | (with_reducible first | exact HB.out | apply h1 | apply h2 | apply h3 | refine h4 ?_ (IsS83.ge HI432.out) | refine h4 ?_ GE427.out | refine h4 ?_ GE428.out | refine h4 ?_ GE441.out | refine h4 ?_ GE450.out) | exact HB.out)); rintro e w107 ⟨b476, v478, rfl, ho0, hi, hb, hk, ⟨⟨hcnb476, hltb476⟩⟩⟩; refine ⟨_, rfl, ?_⟩; have LTb476 := Aside0.mk hltb476; clear hltb476; subst hcnb476; have n0_ := Aside0.mk (KeepBut.blk hk (g' := gb427) (o := .cells #[.int .i64 0, .int .i64 0, .float .f64 0, .slice none 0 0] 25 (0, 0)) (bup BK427.out) NB427_432.out (by simp)); have n1_ := Aside0.mk (KeepBut.blk hk (g' := gb428) (o := .cells #[.int .i64 0, .int .i64 0, .float .f64 0, .slice none 0 0] 25 (0, 0)) (bup BK428.out) NB428_432.out (by simp)); have n2_ := Aside0.mk (Kd.R_mono (Kd.R_told (Kd.R_oldK (IsS83.apart (show IsS83 w _ g432 t429 t452 t453 from by repeat (first | (with_reducible first | exact HI432.out | apply IsS83.alloc | apply IsS83.drewN | apply IsS83.drew | apply IsS83.set_1 | apply IsS83.set_2 | refine IsS83.far ?_ NB432_427.out _ | refine IsS83.far ?_ NB432_428.out _ | refine IsS83.far ?_ NB432_441.out _ | refine IsS83.far ?_ NB432_450.out _) | exact HI432.out)) (Kd.rup HO438.out) (by decide)) hk) (Kd.R_base ho0)) (fun _ h_ => h_.1)); have n3_ := Aside0.mk (KeepBut.blk hk (g' := gb441) (o := .cells #[.int .i64 t433, .int .i64 t434, .float .f64 b435, .slice Ao97 t436.length co97] 25 (0, 0)) (bup BK441.out) NB441_432.out (by simp)); have n4_ := Aside0.mk (Kd.R_mono (Kd.R_told (Kd.R_oldK (IsS83.apart (show IsS83 w _ g432 t429 t452 t453 from by repeat (first | (with_reducible first | exact HI432.out | apply IsS83.alloc | apply IsS83.drewN | apply IsS83.drew | apply IsS83.set_1 | apply IsS83.set_2 | refine IsS83.far ?_ NB432_427.out _ | refine IsS83.far ?_ NB432_428.out _ | refine IsS83.far ?_ NB432_441.out _ | refine IsS83.far ?_ NB432_450.out _) | exact HI432.out)) (Kd.rup HO447.out) (by decide)) hk) (Kd.R_base ho0)) (fun _ h_ => h_.1)); have n5_ := Aside0.mk (KeepBut.blk hk (g' := gb450) (o := .cells #[.int .i64 t442, .int .i64 t443, .float .f64 b444, .slice Ao105 t445.length co105] 25 (0, 0)) (bup BK450.out) NB450_432.out (by simp)); have n6_ := Aside0.mk (Kd.R_lower (Kd.R_new' (Kd.R_new' ho0 (Kd.R_lt (Kd.rup HO438.out))) (Kd.R_lt (Kd.rup HO447.out))) (below_size (by repeat (first | (with_reducible first | exact HB.out | apply h1 | apply h2 | apply h3 | refine h4 ?_ (IsS83.ge HI432.out) | refine h4 ?_ GE427.out | refine h4 ?_ GE428.out | refine h4 ?_ GE441.out | refine h4 ?_ GE450.out) | exact HB.out)))); have n7_ := Aside0.mk (hb); have n8_ := Aside0.mk (hi); clear BK427; clear BK428; clear HO438; clear BK441; clear HO447; clear BK450; clear HB; clear HI432; have BK427 := n0_; have BK428 := n1_; have HO438 := n2_; have BK441 := n3_; have HO447 := n4_; have BK450 := n5_; have HO479 := n6_; have HB := n7_; have HI432 := n8_; clear n0_ n1_ n2_ n3_ n4_ n5_ n6_ n7_ n8_; (try clear hb); (try clear hb2); (try clear hk); (try clear hi); (try clear ho0); obtain ⟨hcz108_0, hcz108_1, hcz108_2, hcz108_3⟩ := blk_cells4 BK441.out; obtain ⟨hfz108_0, hfz108_1, hfz108_2, hfz108_3⟩ := blk_frozens4 BK441.out; obtain ⟨Ao109, co109, eo109⟩ := Kd.R_slice HO479.out; subst eo109) | ((with_reducible refine gate_callee (f := 62) rfl ?_); refine goesL_ (some 34) rfl rfl Try.func62 (by kernel_rfl) rfl #[.pointer (some ⟨g432, 0, none⟩)] rfl (by (try simp only [List.map_toArray, List.map_cons, List.map_nil]); first | done | rfl) ?_; (with_reducible refine (spec_l3key.callsC k g432 t429 t480 t481 t482 t483 t484 t485 t488 t489 w _ ?side1 ?side2 A87.out).mono ?_); (case side1 => repeat (first | (with_reducible first | exact HI432.out | apply IsS83.alloc | apply IsS83.drewN | apply IsS83.drew | apply IsS83.set_1 | apply IsS83.set_2 | refine IsS83.far ?_ NB432_427.out _ | refine IsS83.far ?_ NB432_428.out _ | refine IsS83.far ?_ NB432_441.out _ | refine IsS83.far ?_ NB432_450.out _) | exact HI432.out)); (case side2 => repeat (first | (with_reducible first | exact HB.out | apply h1 | apply h2 | apply h3 | refine h4 ?_ (IsS83.ge HI432.out) | refine h4 ?_ GE427.out | refine h4 ?_ GE428.out | refine h4 ?_ GE441.out | refine h4 ?_ GE450.out) | exact HB.out)); rintro e w110 ⟨b484, v486, rfl, ho0, hi, hb, hk, ⟨⟨hcnb484, hltb484⟩⟩⟩; refine ⟨_, rfl, ?_⟩; have LTb484 := Aside0.mk hltb484; clear hltb484; subst hcnb484; have n0_ := Aside0.mk (KeepBut.blk hk (g' := gb427) (o := .cells #[.int .i64 0, .int .i64 0, .float .f64 0, .slice none 0 0] 25 (0, 0)) (bput BK427.out) NB427_432.out (by simp)); have n1_ := Aside0.mk (KeepBut.blk hk (g' := gb428) (o := .cells #[.int .i64 0, .int .i64 0, .float .f64 0, .slice none 0 0] 25 (0, 0)) (bput BK428.out) NB428_432.out (by simp)); have n2_ := Aside0.mk (Kd.R_mono (Kd.R_told (Kd.R_oldK (IsS83.apart (show IsS83 w _ g432 t429 t480 t481 from by repeat (first | (with_reducible first | exact HI432.out | apply IsS83.alloc | apply IsS83.drewN | apply IsS83.drew | apply IsS83.set_1 | apply IsS83.set_2 | refine IsS83.far ?_ NB432_427.out _ | refine IsS83.far ?_ NB432_428.out _ | refine IsS83.far ?_ NB432_441.out _ | refine IsS83.far ?_ NB432_450.out _) | exact HI432.out)) ((Kd.roff1 HO438.out BK441.out (by decide))) (by decide)) hk) (Kd.R_base ho0)) (fun _ h_ => h_.1)); have n3_ := Aside0.mk (KeepBut.blk hk (g' := gb441) (o := .cells #[.int .i64 t474, .int .i64 t475, .float .f64 b476, .slice Ao109 t477.length co109] 25 (0, 0)) (bput BK441.out) NB441_432.out (by simp)); have n4_ := Aside0.mk (Kd.R_mono (Kd.R_told (Kd.R_oldK (IsS83.apart (show IsS83 w _ g432 t429 t480 t481 from by repeat (first | (with_reducible first | exact HI432.out | apply IsS83.alloc | apply IsS83.drewN | apply IsS83.drew | apply IsS83.set_1 | apply IsS83.set_2 | refine IsS83.far ?_ NB432_427.out _ | refine IsS83.far ?_ NB432_428.out _ | refine IsS83.far ?_ NB432_441.out _ | refine IsS83.far ?_ NB432_450.out _) | exact HI432.out)) ((Kd.roff1 HO447.out BK441.out (by decide))) (by decide)) hk) (Kd.R_base ho0)) (fun _ h_ => h_.1)); have n5_ := Aside0.mk (KeepBut.blk hk (g' := gb450) (o := .cells #[.int .i64 t442, .int .i64 t443, .float .f64 b444, .slice Ao105 t445.length co105] 25 (0, 0)) (bput BK450.out) NB450_432.out (by simp)); have n6_ := Aside0.mk (Kd.R_mono (Kd.R_told (Kd.R_oldK (IsS83.apart (show IsS83 w _ g432 t429 t480 t481 from by repeat (first | (with_reducible first | exact HI432.out | apply IsS83.alloc | apply IsS83.drewN | apply IsS83.drew | apply IsS83.set_1 | apply IsS83.set_2 | refine IsS83.far ?_ NB432_427.out _ | refine IsS83.far ?_ NB432_428.out _ | refine IsS83.far ?_ NB432_441.out _ | refine IsS83.far ?_ NB432_450.out _) | exact HI432.out)) ((Kd.roff1 HO479.out BK441.out (by decide))) (by decide)) hk) (Kd.R_base ho0)) (fun _ h_ => h_.1)); have n7_ := Aside0.mk (Kd.R_lower (Kd.R_new' (Kd.R_new' (Kd.R_new' ho0 (Kd.R_lt ((Kd.roff1 HO438.out BK441.out (by decide))))) (Kd.R_lt ((Kd.roff1 HO447.out BK441.out (by decide))))) (Kd.R_lt ((Kd.roff1 HO479.out BK441.out (by decide))))) (below_size (by repeat (first | (with_reducible first | exact HB.out | apply h1 | apply h2 | apply h3 | refine h4 ?_ (IsS83.ge HI432.out) | refine h4 ?_ GE427.out | refine h4 ?_ GE428.out | refine h4 ?_ GE441.out | refine h4 ?_ GE450.out) | exact HB.out)))); have n8_ := Aside0.mk (hb); have n9_ := Aside0.mk (hi); clear BK427; clear BK428; clear HO438; clear BK441; clear HO447; clear BK450; clear HO479; clear HB; clear HI432; have BK427 := n0_; have BK428 := n1_; have HO438 := n2_; have BK441 := n3_; have HO447 := n4_; have BK450 := n5_; have HO479 := n6_; have HO487 := n7_; have HB := n8_; have HI432 := n9_; clear n0_ n1_ n2_ n3_ n4_ n5_ n6_ n7_ n8_ n9_; (try clear hb); (try clear hb2); (try clear hk); (try clear hi); (try clear ho0); obtain ⟨hcz111_0, hcz111_1, hcz111_2, hcz111_3⟩ := blk_cells4 BK450.out; obtain ⟨hfz111_0, hfz111_1, hfz111_2, hfz111_3⟩ := blk_frozens4 BK450.out; obtain ⟨Ao112, co112, eo112⟩ := Kd.R_slice HO487.out; subst eo112))
    have n0_ : Aside0 (Kd.R (Kd.int .u8) 5 ((((w110.setCell ⟨gb450, 0, none⟩ (.int .i64 t482)).setCell ⟨gb450, 1, none⟩ (.int .i64 t483)).setCell ⟨gb450, 2, none⟩ (.float .f64 b484)).setCell ⟨gb450, 3, none⟩ (.slice Ao112 t485.length co112)) w.heap.size (fun k_ => some k_ ≠ (.slice Ao105 t445.length co105 : Value).ownBlock ∧ some k_ ≠ (.slice Ao109 t477.length co109 : Value).ownBlock ∧ some k_ ≠ (.slice Ao112 t485.length co112 : Value).ownBlock) (.slice Ao97 t436.length co97) t436) := ⟨by exact Kd.rup (Kd.R_mono (Kd.R_far (p := ⟨gb450, 3, none⟩) (Kd.R_far (p := ⟨gb450, 2, none⟩) (Kd.R_far (p := ⟨gb450, 1, none⟩) (Kd.R_far (p := ⟨gb450, 0, none⟩) (Kd.R_types HO438.out BK450.out (by decide)) (fun _ hk => hk.2) (.int .i64 t482)) (fun _ hk => hk.2) (.int .i64 t483)) (fun _ hk => hk.2) (.float .f64 b484)) (fun _ hk => hk.2) (.slice Ao112 t485.length co112)) (fun _ hk => ⟨hk.1.1.1.2, ⟨hk.1.1.2, hk.1.2⟩⟩))⟩
    have n1_ : Aside0 (Kd.R (Kd.int .u8) 5 ((((w110.setCell ⟨gb450, 0, none⟩ (.int .i64 t482)).setCell ⟨gb450, 1, none⟩ (.int .i64 t483)).setCell ⟨gb450, 2, none⟩ (.float .f64 b484)).setCell ⟨gb450, 3, none⟩ (.slice Ao112 t485.length co112)) w.heap.size (fun k_ => some k_ ≠ (.slice Ao97 t436.length co97 : Value).ownBlock ∧ some k_ ≠ (.slice Ao109 t477.length co109 : Value).ownBlock ∧ some k_ ≠ (.slice Ao112 t485.length co112 : Value).ownBlock) (.slice Ao105 t445.length co105) t445) := ⟨by exact Kd.rup (Kd.R_mono (Kd.R_far (p := ⟨gb450, 3, none⟩) (Kd.R_far (p := ⟨gb450, 2, none⟩) (Kd.R_far (p := ⟨gb450, 1, none⟩) (Kd.R_far (p := ⟨gb450, 0, none⟩) (Kd.R_types HO447.out BK450.out (by decide)) (fun _ hk => hk.2) (.int .i64 t482)) (fun _ hk => hk.2) (.int .i64 t483)) (fun _ hk => hk.2) (.float .f64 b484)) (fun _ hk => hk.2) (.slice Ao112 t485.length co112)) (fun _ hk => ⟨hk.1.1.1.2, ⟨hk.1.1.2, hk.1.2⟩⟩))⟩
    have n2_ : Aside0 (Kd.R (Kd.int .u8) 5 ((((w110.setCell ⟨gb450, 0, none⟩ (.int .i64 t482)).setCell ⟨gb450, 1, none⟩ (.int .i64 t483)).setCell ⟨gb450, 2, none⟩ (.float .f64 b484)).setCell ⟨gb450, 3, none⟩ (.slice Ao112 t485.length co112)) w.heap.size (fun k_ => some k_ ≠ (.slice Ao97 t436.length co97 : Value).ownBlock ∧ some k_ ≠ (.slice Ao105 t445.length co105 : Value).ownBlock ∧ some k_ ≠ (.slice Ao112 t485.length co112 : Value).ownBlock) (.slice Ao109 t477.length co109) t477) := ⟨by exact Kd.rup (Kd.R_mono (Kd.R_far (p := ⟨gb450, 3, none⟩) (Kd.R_far (p := ⟨gb450, 2, none⟩) (Kd.R_far (p := ⟨gb450, 1, none⟩) (Kd.R_far (p := ⟨gb450, 0, none⟩) (Kd.R_types HO479.out BK450.out (by decide)) (fun _ hk => hk.2) (.int .i64 t482)) (fun _ hk => hk.2) (.int .i64 t483)) (fun _ hk => hk.2) (.float .f64 b484)) (fun _ hk => hk.2) (.slice Ao112 t485.length co112)) (fun _ hk => ⟨hk.1.1.1.2, ⟨hk.1.1.2, hk.1.2⟩⟩))⟩
    have n3_ : Aside0 (Kd.R (Kd.int .u8) 5 ((((w110.setCell ⟨gb450, 0, none⟩ (.int .i64 t482)).setCell ⟨gb450, 1, none⟩ (.int .i64 t483)).setCell ⟨gb450, 2, none⟩ (.float .f64 b484)).setCell ⟨gb450, 3, none⟩ (.slice Ao112 t485.length co112)) w.heap.size (fun k_ => some k_ ≠ (.slice Ao97 t436.length co97 : Value).ownBlock ∧ some k_ ≠ (.slice Ao105 t445.length co105 : Value).ownBlock ∧ some k_ ≠ (.slice Ao109 t477.length co109 : Value).ownBlock) (.slice Ao112 t485.length co112) t485) := ⟨by exact Kd.rup (Kd.R_mono (Kd.R_far (p := ⟨gb450, 3, none⟩) (Kd.R_far (p := ⟨gb450, 2, none⟩) (Kd.R_far (p := ⟨gb450, 1, none⟩) (Kd.R_far (p := ⟨gb450, 0, none⟩) (Kd.R_types HO487.out BK450.out (by decide)) (fun _ hk => hk.2) (.int .i64 t482)) (fun _ hk => hk.2) (.int .i64 t483)) (fun _ hk => hk.2) (.float .f64 b484)) (fun _ hk => hk.2) (.slice Ao112 t485.length co112)) (fun _ hk => ⟨hk.1.1.1.2, ⟨hk.1.1.2, hk.1.2⟩⟩))⟩
    have n4_ : Aside0 (((((w110.setCell ⟨gb450, 0, none⟩ (.int .i64 t482)).setCell ⟨gb450, 1, none⟩ (.int .i64 t483)).setCell ⟨gb450, 2, none⟩ (.float .f64 b484)).setCell ⟨gb450, 3, none⟩ (.slice Ao112 t485.length co112)).heap[gb427]? = some (.cells #[.int .i64 0, .int .i64 0, .float .f64 0, .slice none 0 0] 25 (0, 0))) := ⟨bput BK427.out⟩
    have n5_ : Aside0 (((((w110.setCell ⟨gb450, 0, none⟩ (.int .i64 t482)).setCell ⟨gb450, 1, none⟩ (.int .i64 t483)).setCell ⟨gb450, 2, none⟩ (.float .f64 b484)).setCell ⟨gb450, 3, none⟩ (.slice Ao112 t485.length co112)).heap[gb428]? = some (.cells #[.int .i64 0, .int .i64 0, .float .f64 0, .slice none 0 0] 25 (0, 0))) := ⟨bput BK428.out⟩
    have n6_ : Aside0 (((((w110.setCell ⟨gb450, 0, none⟩ (.int .i64 t482)).setCell ⟨gb450, 1, none⟩ (.int .i64 t483)).setCell ⟨gb450, 2, none⟩ (.float .f64 b484)).setCell ⟨gb450, 3, none⟩ (.slice Ao112 t485.length co112)).heap[gb441]? = some (.cells #[.int .i64 t474, .int .i64 t475, .float .f64 b476, .slice Ao109 t477.length co109] 25 (0, 0))) := ⟨bput BK441.out⟩
    have n7_ : Aside0 (((((w110.setCell ⟨gb450, 0, none⟩ (.int .i64 t482)).setCell ⟨gb450, 1, none⟩ (.int .i64 t483)).setCell ⟨gb450, 2, none⟩ (.float .f64 b484)).setCell ⟨gb450, 3, none⟩ (.slice Ao112 t485.length co112)).heap[gb450]? = some (.cells #[.int .i64 t482, .int .i64 t483, .float .f64 b484, .slice Ao112 t485.length co112] 25 (0, 0))) := ⟨bput BK450.out⟩
    have n8_ : Aside0 (IsS83 w ((((w110.setCell ⟨gb450, 0, none⟩ (.int .i64 t482)).setCell ⟨gb450, 1, none⟩ (.int .i64 t483)).setCell ⟨gb450, 2, none⟩ (.float .f64 b484)).setCell ⟨gb450, 3, none⟩ (.slice Ao112 t485.length co112)) g432 t429 t488 t489) := ⟨by repeat (first | (with_reducible first | exact HI432.out | apply IsS83.alloc | apply IsS83.drewN | apply IsS83.drew | apply IsS83.set_1 | apply IsS83.set_2 | refine IsS83.far ?_ NB432_427.out _ | refine IsS83.far ?_ NB432_428.out _ | refine IsS83.far ?_ NB432_441.out _ | refine IsS83.far ?_ NB432_450.out _) | exact HI432.out)⟩
    have n9_ : Aside0 (Below w.heap.size w ((((w110.setCell ⟨gb450, 0, none⟩ (.int .i64 t482)).setCell ⟨gb450, 1, none⟩ (.int .i64 t483)).setCell ⟨gb450, 2, none⟩ (.float .f64 b484)).setCell ⟨gb450, 3, none⟩ (.slice Ao112 t485.length co112))) := ⟨by repeat (first | (with_reducible first | exact HB.out | apply h1 | apply h2 | apply h3 | refine h4 ?_ (IsS83.ge HI432.out) | refine h4 ?_ GE427.out | refine h4 ?_ GE428.out | refine h4 ?_ GE441.out | refine h4 ?_ GE450.out) | exact HB.out)⟩
    (try clear HO438)
    (try clear HO447)
    (try clear HO479)
    (try clear HO487)
    (try clear BK427)
    (try clear BK428)
    (try clear BK441)
    (try clear BK450)
    (try clear HI432)
    (try clear HB)
    generalize ((((w110.setCell ⟨gb450, 0, none⟩ (.int .i64 t482)).setCell ⟨gb450, 1, none⟩ (.int .i64 t483)).setCell ⟨gb450, 2, none⟩ (.float .f64 b484)).setCell ⟨gb450, 3, none⟩ (.slice Ao112 t485.length co112)) = w113 at n0_ n1_ n2_ n3_ n4_ n5_ n6_ n7_ n8_ n9_ ⊢
    have HO438 := n0_
    have HO447 := n1_
    have HO479 := n2_
    have HO487 := n3_
    have BK427 := n4_
    have BK428 := n5_
    have BK441 := n6_
    have BK450 := n7_
    have HI432 := n8_
    have HB := n9_
    clear n0_ n1_ n2_ n3_ n4_ n5_ n6_ n7_ n8_ n9_
    have n0_ := Aside0.mk (Kd.R_drew HO438.out)
    have n1_ := Aside0.mk (Kd.R_drew HO447.out)
    have n2_ := Aside0.mk (Kd.R_drew HO479.out)
    have n3_ := Aside0.mk (Kd.R_drew HO487.out)
    have n4_ := Aside0.mk (blk_drew BK427.out)
    have n5_ := Aside0.mk (blk_drew BK428.out)
    have n6_ := Aside0.mk (blk_drew BK441.out)
    have n7_ := Aside0.mk (blk_drew BK450.out)
    have n8_ := Aside0.mk (IsS83.drew HI432.out)
    have n9_ := Aside0.mk (below_drew1 HB.out)
    clear HO438
    clear HO447
    clear HO479
    clear HO487
    clear BK427
    clear BK428
    clear BK441
    clear BK450
    clear HI432
    clear HB
    have HO438 := n0_
    have HO447 := n1_
    have HO479 := n2_
    have HO487 := n3_
    have BK427 := n4_
    have BK428 := n5_
    have BK441 := n6_
    have BK450 := n7_
    have HI432 := n8_
    have HB := n9_
    clear n0_ n1_ n2_ n3_ n4_ n5_ n6_ n7_ n8_ n9_
    refine start_ (n := 4) (S := fun w' => w'.cell? ⟨gb441, 0, none⟩ = some (.int .i64 t474) ∧ w'.cell? ⟨gb441, 1, none⟩ = some (.int .i64 t475) ∧ w'.cell? ⟨gb441, 2, none⟩ = some (.float .f64 b476) ∧ w'.cell? ⟨gb441, 3, none⟩ = some (.slice Ao109 t477.length co109) ∧ w'.cell? ⟨gb450, 0, none⟩ = some (.int .i64 t482) ∧ w'.cell? ⟨gb450, 1, none⟩ = some (.int .i64 t483) ∧ w'.cell? ⟨gb450, 2, none⟩ = some (.float .f64 b484) ∧ w'.cell? ⟨gb450, 3, none⟩ = some (.slice Ao112 t485.length co112)) (ds := []) #[false, false, false, false] (by kernel_rfl) rfl rfl ⟨(blk_cell BK441.out 0).trans rfl, (blk_cell BK441.out 1).trans rfl, (blk_cell BK441.out 2).trans rfl, (blk_cell BK441.out 3).trans rfl, (blk_cell BK450.out 0).trans rfl, (blk_cell BK450.out 1).trans rfl, (blk_cell BK450.out 2).trans rfl, (blk_cell BK450.out 3).trans rfl⟩ (fun hHeld => ?_)
    generalize w113.drew = w114 at HO438 HO447 HO479 HO487 BK427 BK428 BK441 BK450 HI432 HB hHeld ⊢
    refine take_ (i := 0) (N := some 35) (v := ?_) (a' := ?_) #[true, false, false, false] rfl rfl (by kernel_rfl) (fun _ _ _ h => h) (Or.inl ⟨by rfl, ?_⟩) hHeld ?_ ?_
    rotate_left
    ·rintro w' ⟨s0, s1, s2, s3, s4, s5, s6, s7⟩
     go_simp
     with_reducible rfl
    rotate_left
    ·simp only [Act.put, List.setIfInBounds_toArray, List.set_cons_zero, List.set_cons_succ, i64_w, i32_w]
     rfl
    refine take_ (i := 1) (N := some 36) (v := ?_) (a' := ?_) #[true, true, false, false] rfl rfl (by kernel_rfl) (fun _ _ _ h => h) (Or.inl ⟨by rfl, ?_⟩) hHeld ?_ ?_
    rotate_left
    ·rintro w' ⟨s0, s1, s2, s3, s4, s5, s6, s7⟩
     go_simp
     with_reducible rfl
    rotate_left
    ·simp only [Act.put, List.setIfInBounds_toArray, List.set_cons_zero, List.set_cons_succ, i64_w, i32_w]
     rfl
    refine one_ (i := 2) (N := none) #[true, true, true, false] rfl rfl (by kernel_rfl) (by decide) (fun K hK => ?_)
    have hs115 : w114.cell? ⟨gb427, 0, none⟩ = some (.int .i64 0) := (blk_cell BK427.out 0).trans rfl
    have hfs115 := blk_frozen BK427.out 0
    have hns115_1 := NB428_427.out
    have hns115_2 := NB441_427.out
    have hns115_3 := NB450_427.out
    have hms115_1 := NB427_428.out
    have hms115_2 := NB427_441.out
    have hms115_3 := NB427_450.out
    have hs116 : w114.cell? ⟨gb427, 1, none⟩ = some (.int .i64 0) := (blk_cell BK427.out 1).trans rfl
    have hfs116 := blk_frozen BK427.out 1
    have hns116_1 := NB428_427.out
    have hns116_2 := NB441_427.out
    have hns116_3 := NB450_427.out
    have hms116_1 := NB427_428.out
    have hms116_2 := NB427_441.out
    have hms116_3 := NB427_450.out
    have hs117 : w114.cell? ⟨gb427, 2, none⟩ = some (.float .f64 0) := (blk_cell BK427.out 2).trans rfl
    have hfs117 := blk_frozen BK427.out 2
    have hns117_1 := NB428_427.out
    have hns117_2 := NB441_427.out
    have hns117_3 := NB450_427.out
    have hms117_1 := NB427_428.out
    have hms117_2 := NB427_441.out
    have hms117_3 := NB427_450.out
    have hs118 : w114.cell? ⟨gb427, 3, none⟩ = some (.slice none 0 0) := (blk_cell BK427.out 3).trans rfl
    have hfs118 := blk_frozen BK427.out 3
    have hns118_1 := NB428_427.out
    have hns118_2 := NB441_427.out
    have hns118_3 := NB450_427.out
    have hms118_1 := NB427_428.out
    have hms118_2 := NB427_441.out
    have hms118_3 := NB427_450.out
    refine skip_ (w1 := ?_) (by rfl) rfl ?_ ?_
    rotate_left
    ·go_simp
     rfl
    refine hK.out _ _ ⟨((cell_far (p := ⟨gb427, _, none⟩) NB441_427.out _).trans (((cell_far (p := ⟨gb427, _, none⟩) NB441_427.out _).trans (((cell_far (p := ⟨gb427, _, none⟩) NB441_427.out _).trans (((cell_far (p := ⟨gb427, _, none⟩) NB441_427.out _).trans (hHeld.1)))))))), ((cell_far (p := ⟨gb427, _, none⟩) NB441_427.out _).trans (((cell_far (p := ⟨gb427, _, none⟩) NB441_427.out _).trans (((cell_far (p := ⟨gb427, _, none⟩) NB441_427.out _).trans (((cell_far (p := ⟨gb427, _, none⟩) NB441_427.out _).trans (hHeld.2.1)))))))), ((cell_far (p := ⟨gb427, _, none⟩) NB441_427.out _).trans (((cell_far (p := ⟨gb427, _, none⟩) NB441_427.out _).trans (((cell_far (p := ⟨gb427, _, none⟩) NB441_427.out _).trans (((cell_far (p := ⟨gb427, _, none⟩) NB441_427.out _).trans (hHeld.2.2.1)))))))), ((cell_far (p := ⟨gb427, _, none⟩) NB441_427.out _).trans (((cell_far (p := ⟨gb427, _, none⟩) NB441_427.out _).trans (((cell_far (p := ⟨gb427, _, none⟩) NB441_427.out _).trans (((cell_far (p := ⟨gb427, _, none⟩) NB441_427.out _).trans (hHeld.2.2.2.1)))))))), ((cell_far (p := ⟨gb427, _, none⟩) NB450_427.out _).trans (((cell_far (p := ⟨gb427, _, none⟩) NB450_427.out _).trans (((cell_far (p := ⟨gb427, _, none⟩) NB450_427.out _).trans (((cell_far (p := ⟨gb427, _, none⟩) NB450_427.out _).trans (hHeld.2.2.2.2.1)))))))), ((cell_far (p := ⟨gb427, _, none⟩) NB450_427.out _).trans (((cell_far (p := ⟨gb427, _, none⟩) NB450_427.out _).trans (((cell_far (p := ⟨gb427, _, none⟩) NB450_427.out _).trans (((cell_far (p := ⟨gb427, _, none⟩) NB450_427.out _).trans (hHeld.2.2.2.2.2.1)))))))), ((cell_far (p := ⟨gb427, _, none⟩) NB450_427.out _).trans (((cell_far (p := ⟨gb427, _, none⟩) NB450_427.out _).trans (((cell_far (p := ⟨gb427, _, none⟩) NB450_427.out _).trans (((cell_far (p := ⟨gb427, _, none⟩) NB450_427.out _).trans (hHeld.2.2.2.2.2.2.1)))))))), ((cell_far (p := ⟨gb427, _, none⟩) NB450_427.out _).trans (((cell_far (p := ⟨gb427, _, none⟩) NB450_427.out _).trans (((cell_far (p := ⟨gb427, _, none⟩) NB450_427.out _).trans (((cell_far (p := ⟨gb427, _, none⟩) NB450_427.out _).trans (hHeld.2.2.2.2.2.2.2))))))))⟩ (fun hHeld => ?_)
    clear hK K
    refine one_ (i := 3) (N := none) #[true, true, true, true] rfl rfl (by kernel_rfl) (by decide) (fun K hK => ?_)
    have hs119 : w114.cell? ⟨gb428, 0, none⟩ = some (.int .i64 0) := (blk_cell BK428.out 0).trans rfl
    have hfs119 := blk_frozen BK428.out 0
    have hns119_0 := NB427_428.out
    have hns119_2 := NB441_428.out
    have hns119_3 := NB450_428.out
    have hms119_0 := NB428_427.out
    have hms119_2 := NB428_441.out
    have hms119_3 := NB428_450.out
    have hs120 : w114.cell? ⟨gb428, 1, none⟩ = some (.int .i64 0) := (blk_cell BK428.out 1).trans rfl
    have hfs120 := blk_frozen BK428.out 1
    have hns120_0 := NB427_428.out
    have hns120_2 := NB441_428.out
    have hns120_3 := NB450_428.out
    have hms120_0 := NB428_427.out
    have hms120_2 := NB428_441.out
    have hms120_3 := NB428_450.out
    have hs121 : w114.cell? ⟨gb428, 2, none⟩ = some (.float .f64 0) := (blk_cell BK428.out 2).trans rfl
    have hfs121 := blk_frozen BK428.out 2
    have hns121_0 := NB427_428.out
    have hns121_2 := NB441_428.out
    have hns121_3 := NB450_428.out
    have hms121_0 := NB428_427.out
    have hms121_2 := NB428_441.out
    have hms121_3 := NB428_450.out
    have hs122 : w114.cell? ⟨gb428, 3, none⟩ = some (.slice none 0 0) := (blk_cell BK428.out 3).trans rfl
    have hfs122 := blk_frozen BK428.out 3
    have hns122_0 := NB427_428.out
    have hns122_2 := NB441_428.out
    have hns122_3 := NB450_428.out
    have hms122_0 := NB428_427.out
    have hms122_2 := NB428_441.out
    have hms122_3 := NB428_450.out
    refine skip_ (w1 := ?_) (by rfl) rfl ?_ ?_
    rotate_left
    ·go_simp
     rfl
    refine hK.out _ _ ⟨((cell_far (p := ⟨gb428, _, none⟩) NB441_428.out _).trans (((cell_far (p := ⟨gb428, _, none⟩) NB441_428.out _).trans (((cell_far (p := ⟨gb428, _, none⟩) NB441_428.out _).trans (((cell_far (p := ⟨gb428, _, none⟩) NB441_428.out _).trans (hHeld.1)))))))), ((cell_far (p := ⟨gb428, _, none⟩) NB441_428.out _).trans (((cell_far (p := ⟨gb428, _, none⟩) NB441_428.out _).trans (((cell_far (p := ⟨gb428, _, none⟩) NB441_428.out _).trans (((cell_far (p := ⟨gb428, _, none⟩) NB441_428.out _).trans (hHeld.2.1)))))))), ((cell_far (p := ⟨gb428, _, none⟩) NB441_428.out _).trans (((cell_far (p := ⟨gb428, _, none⟩) NB441_428.out _).trans (((cell_far (p := ⟨gb428, _, none⟩) NB441_428.out _).trans (((cell_far (p := ⟨gb428, _, none⟩) NB441_428.out _).trans (hHeld.2.2.1)))))))), ((cell_far (p := ⟨gb428, _, none⟩) NB441_428.out _).trans (((cell_far (p := ⟨gb428, _, none⟩) NB441_428.out _).trans (((cell_far (p := ⟨gb428, _, none⟩) NB441_428.out _).trans (((cell_far (p := ⟨gb428, _, none⟩) NB441_428.out _).trans (hHeld.2.2.2.1)))))))), ((cell_far (p := ⟨gb428, _, none⟩) NB450_428.out _).trans (((cell_far (p := ⟨gb428, _, none⟩) NB450_428.out _).trans (((cell_far (p := ⟨gb428, _, none⟩) NB450_428.out _).trans (((cell_far (p := ⟨gb428, _, none⟩) NB450_428.out _).trans (hHeld.2.2.2.2.1)))))))), ((cell_far (p := ⟨gb428, _, none⟩) NB450_428.out _).trans (((cell_far (p := ⟨gb428, _, none⟩) NB450_428.out _).trans (((cell_far (p := ⟨gb428, _, none⟩) NB450_428.out _).trans (((cell_far (p := ⟨gb428, _, none⟩) NB450_428.out _).trans (hHeld.2.2.2.2.2.1)))))))), ((cell_far (p := ⟨gb428, _, none⟩) NB450_428.out _).trans (((cell_far (p := ⟨gb428, _, none⟩) NB450_428.out _).trans (((cell_far (p := ⟨gb428, _, none⟩) NB450_428.out _).trans (((cell_far (p := ⟨gb428, _, none⟩) NB450_428.out _).trans (hHeld.2.2.2.2.2.2.1)))))))), ((cell_far (p := ⟨gb428, _, none⟩) NB450_428.out _).trans (((cell_far (p := ⟨gb428, _, none⟩) NB450_428.out _).trans (((cell_far (p := ⟨gb428, _, none⟩) NB450_428.out _).trans (((cell_far (p := ⟨gb428, _, none⟩) NB450_428.out _).trans (hHeld.2.2.2.2.2.2.2))))))))⟩ (fun hHeld => ?_)
    clear hK K
    refine done_ (by kernel_rfl) ?_
    try go_wp2
    refine bodyPost_ret (results_cc rfl _ _ gb427 gb428 25 25 #[.int .i64 t474, .int .i64 t475, .float .f64 b476, .slice Ao109 t477.length co109] #[.int .i64 t482, .int .i64 t483, .float .f64 b484, .slice Ao112 t485.length co112] (0, 0) (0, 0) _ _ rfl (bput BK427.out) Try.underlying25 rfl (by kernel_rfl) rfl (bput BK428.out) Try.underlying25 rfl (by kernel_rfl)) rfl ?_
    exact ⟨_, _, _, _, by first | rfl | (simp [errW_none, errW_some] <;> rfl) | (simp [*, errW_none, errW_some] <;> rfl), (Kd.R_mono (Kd.roff2 HO479.out BK427.out (by decide) BK428.out (by decide)) (fun _ hk => hk.2.2)), (Kd.R_mono (Kd.roff2 HO487.out BK427.out (by decide) BK428.out (by decide)) (fun _ hk => hk.2.2)), by repeat (first | (with_reducible first | exact HB.out | apply h1 | apply h2 | apply h3 | refine h4 ?_ (IsS83.ge HI432.out) | refine h4 ?_ GE427.out | refine h4 ?_ GE428.out | refine h4 ?_ GE441.out | refine h4 ?_ GE450.out) | exact HB.out), (by first | exact ⟨⟨rfl, LTb435.out⟩⟩ | exact ⟨⟨rfl, LTb444.out⟩⟩ | exact ⟨⟨rfl, LTb476.out⟩⟩ | exact ⟨⟨rfl, LTb484.out⟩⟩ | exact ⟨⟨by first | rfl | decide, by decide⟩⟩ | exact ⟨⟨rfl, fquo_lt (by assumption)⟩⟩), (by first | exact ⟨⟨rfl, LTb435.out⟩⟩ | exact ⟨⟨rfl, LTb444.out⟩⟩ | exact ⟨⟨rfl, LTb476.out⟩⟩ | exact ⟨⟨rfl, LTb484.out⟩⟩ | exact ⟨⟨by first | rfl | decide, by decide⟩⟩ | exact ⟨⟨rfl, fquo_lt (by assumption)⟩⟩)⟩
   ·rw [if_neg c85] at H
    have c85b0 : (t451 == 2) = false := beq_eq_false_iff_ne.mpr c85
    have c85b1 : (t451 != 2) = true := bne_iff_ne.mpr c85
    (try simp only [c85b0, c85b1, Bool.not_true, Bool.not_false])
    simp only [Option.some.injEq, Prod.mk.injEq] at H
    obtain ⟨rfl, rfl, rfl, rfl, rfl, rfl, rfl, rfl⟩ := H
    try go_wp2
    have n0_ := Aside0.mk (Kd.R_drew HO438.out)
    have n1_ := Aside0.mk (Kd.R_drew HO447.out)
    have n2_ := Aside0.mk (blk_drew BK427.out)
    have n3_ := Aside0.mk (blk_drew BK428.out)
    have n4_ := Aside0.mk (blk_drew BK441.out)
    have n5_ := Aside0.mk (blk_drew BK450.out)
    have n6_ := Aside0.mk (IsS83.drew HI432.out)
    have n7_ := Aside0.mk (below_drew1 HB.out)
    clear HO438
    clear HO447
    clear BK427
    clear BK428
    clear BK441
    clear BK450
    clear HI432
    clear HB
    have HO438 := n0_
    have HO447 := n1_
    have BK427 := n2_
    have BK428 := n3_
    have BK441 := n4_
    have BK450 := n5_
    have HI432 := n6_
    have HB := n7_
    clear n0_ n1_ n2_ n3_ n4_ n5_ n6_ n7_
    refine start_ (n := 4) (S := fun w' => w'.cell? ⟨gb441, 0, none⟩ = some (.int .i64 t433) ∧ w'.cell? ⟨gb441, 1, none⟩ = some (.int .i64 t434) ∧ w'.cell? ⟨gb441, 2, none⟩ = some (.float .f64 b435) ∧ w'.cell? ⟨gb441, 3, none⟩ = some (.slice Ao97 t436.length co97) ∧ w'.cell? ⟨gb450, 0, none⟩ = some (.int .i64 t442) ∧ w'.cell? ⟨gb450, 1, none⟩ = some (.int .i64 t443) ∧ w'.cell? ⟨gb450, 2, none⟩ = some (.float .f64 b444) ∧ w'.cell? ⟨gb450, 3, none⟩ = some (.slice Ao105 t445.length co105)) (ds := []) #[false, false, false, false] (by kernel_rfl) rfl rfl ⟨(blk_cell BK441.out 0).trans rfl, (blk_cell BK441.out 1).trans rfl, (blk_cell BK441.out 2).trans rfl, (blk_cell BK441.out 3).trans rfl, (blk_cell BK450.out 0).trans rfl, (blk_cell BK450.out 1).trans rfl, (blk_cell BK450.out 2).trans rfl, (blk_cell BK450.out 3).trans rfl⟩ (fun hHeld => ?_)
    generalize w106.drew = w142 at HO438 HO447 BK427 BK428 BK441 BK450 HI432 HB hHeld ⊢
    refine take_ (i := 0) (N := some 35) (v := ?_) (a' := ?_) #[true, false, false, false] rfl rfl (by kernel_rfl) (fun _ _ _ h => h) (Or.inl ⟨by rfl, ?_⟩) hHeld ?_ ?_
    rotate_left
    ·rintro w' ⟨s0, s1, s2, s3, s4, s5, s6, s7⟩
     go_simp
     with_reducible rfl
    rotate_left
    ·simp only [Act.put, List.setIfInBounds_toArray, List.set_cons_zero, List.set_cons_succ, i64_w, i32_w]
     rfl
    refine take_ (i := 1) (N := some 36) (v := ?_) (a' := ?_) #[true, true, false, false] rfl rfl (by kernel_rfl) (fun _ _ _ h => h) (Or.inl ⟨by rfl, ?_⟩) hHeld ?_ ?_
    rotate_left
    ·rintro w' ⟨s0, s1, s2, s3, s4, s5, s6, s7⟩
     go_simp
     with_reducible rfl
    rotate_left
    ·simp only [Act.put, List.setIfInBounds_toArray, List.set_cons_zero, List.set_cons_succ, i64_w, i32_w]
     rfl
    refine one_ (i := 2) (N := none) #[true, true, true, false] rfl rfl (by kernel_rfl) (by decide) (fun K hK => ?_)
    have hs143 : w142.cell? ⟨gb427, 0, none⟩ = some (.int .i64 0) := (blk_cell BK427.out 0).trans rfl
    have hfs143 := blk_frozen BK427.out 0
    have hns143_1 := NB428_427.out
    have hns143_2 := NB441_427.out
    have hns143_3 := NB450_427.out
    have hms143_1 := NB427_428.out
    have hms143_2 := NB427_441.out
    have hms143_3 := NB427_450.out
    have hs144 : w142.cell? ⟨gb427, 1, none⟩ = some (.int .i64 0) := (blk_cell BK427.out 1).trans rfl
    have hfs144 := blk_frozen BK427.out 1
    have hns144_1 := NB428_427.out
    have hns144_2 := NB441_427.out
    have hns144_3 := NB450_427.out
    have hms144_1 := NB427_428.out
    have hms144_2 := NB427_441.out
    have hms144_3 := NB427_450.out
    have hs145 : w142.cell? ⟨gb427, 2, none⟩ = some (.float .f64 0) := (blk_cell BK427.out 2).trans rfl
    have hfs145 := blk_frozen BK427.out 2
    have hns145_1 := NB428_427.out
    have hns145_2 := NB441_427.out
    have hns145_3 := NB450_427.out
    have hms145_1 := NB427_428.out
    have hms145_2 := NB427_441.out
    have hms145_3 := NB427_450.out
    have hs146 : w142.cell? ⟨gb427, 3, none⟩ = some (.slice none 0 0) := (blk_cell BK427.out 3).trans rfl
    have hfs146 := blk_frozen BK427.out 3
    have hns146_1 := NB428_427.out
    have hns146_2 := NB441_427.out
    have hns146_3 := NB450_427.out
    have hms146_1 := NB427_428.out
    have hms146_2 := NB427_441.out
    have hms146_3 := NB427_450.out
    refine skip_ (w1 := ?_) (by rfl) rfl ?_ ?_
    rotate_left
    ·go_simp
     rfl
    refine hK.out _ _ ⟨((cell_far (p := ⟨gb427, _, none⟩) NB441_427.out _).trans (((cell_far (p := ⟨gb427, _, none⟩) NB441_427.out _).trans (((cell_far (p := ⟨gb427, _, none⟩) NB441_427.out _).trans (((cell_far (p := ⟨gb427, _, none⟩) NB441_427.out _).trans (hHeld.1)))))))), ((cell_far (p := ⟨gb427, _, none⟩) NB441_427.out _).trans (((cell_far (p := ⟨gb427, _, none⟩) NB441_427.out _).trans (((cell_far (p := ⟨gb427, _, none⟩) NB441_427.out _).trans (((cell_far (p := ⟨gb427, _, none⟩) NB441_427.out _).trans (hHeld.2.1)))))))), ((cell_far (p := ⟨gb427, _, none⟩) NB441_427.out _).trans (((cell_far (p := ⟨gb427, _, none⟩) NB441_427.out _).trans (((cell_far (p := ⟨gb427, _, none⟩) NB441_427.out _).trans (((cell_far (p := ⟨gb427, _, none⟩) NB441_427.out _).trans (hHeld.2.2.1)))))))), ((cell_far (p := ⟨gb427, _, none⟩) NB441_427.out _).trans (((cell_far (p := ⟨gb427, _, none⟩) NB441_427.out _).trans (((cell_far (p := ⟨gb427, _, none⟩) NB441_427.out _).trans (((cell_far (p := ⟨gb427, _, none⟩) NB441_427.out _).trans (hHeld.2.2.2.1)))))))), ((cell_far (p := ⟨gb427, _, none⟩) NB450_427.out _).trans (((cell_far (p := ⟨gb427, _, none⟩) NB450_427.out _).trans (((cell_far (p := ⟨gb427, _, none⟩) NB450_427.out _).trans (((cell_far (p := ⟨gb427, _, none⟩) NB450_427.out _).trans (hHeld.2.2.2.2.1)))))))), ((cell_far (p := ⟨gb427, _, none⟩) NB450_427.out _).trans (((cell_far (p := ⟨gb427, _, none⟩) NB450_427.out _).trans (((cell_far (p := ⟨gb427, _, none⟩) NB450_427.out _).trans (((cell_far (p := ⟨gb427, _, none⟩) NB450_427.out _).trans (hHeld.2.2.2.2.2.1)))))))), ((cell_far (p := ⟨gb427, _, none⟩) NB450_427.out _).trans (((cell_far (p := ⟨gb427, _, none⟩) NB450_427.out _).trans (((cell_far (p := ⟨gb427, _, none⟩) NB450_427.out _).trans (((cell_far (p := ⟨gb427, _, none⟩) NB450_427.out _).trans (hHeld.2.2.2.2.2.2.1)))))))), ((cell_far (p := ⟨gb427, _, none⟩) NB450_427.out _).trans (((cell_far (p := ⟨gb427, _, none⟩) NB450_427.out _).trans (((cell_far (p := ⟨gb427, _, none⟩) NB450_427.out _).trans (((cell_far (p := ⟨gb427, _, none⟩) NB450_427.out _).trans (hHeld.2.2.2.2.2.2.2))))))))⟩ (fun hHeld => ?_)
    clear hK K
    refine one_ (i := 3) (N := none) #[true, true, true, true] rfl rfl (by kernel_rfl) (by decide) (fun K hK => ?_)
    have hs147 : w142.cell? ⟨gb428, 0, none⟩ = some (.int .i64 0) := (blk_cell BK428.out 0).trans rfl
    have hfs147 := blk_frozen BK428.out 0
    have hns147_0 := NB427_428.out
    have hns147_2 := NB441_428.out
    have hns147_3 := NB450_428.out
    have hms147_0 := NB428_427.out
    have hms147_2 := NB428_441.out
    have hms147_3 := NB428_450.out
    have hs148 : w142.cell? ⟨gb428, 1, none⟩ = some (.int .i64 0) := (blk_cell BK428.out 1).trans rfl
    have hfs148 := blk_frozen BK428.out 1
    have hns148_0 := NB427_428.out
    have hns148_2 := NB441_428.out
    have hns148_3 := NB450_428.out
    have hms148_0 := NB428_427.out
    have hms148_2 := NB428_441.out
    have hms148_3 := NB428_450.out
    have hs149 : w142.cell? ⟨gb428, 2, none⟩ = some (.float .f64 0) := (blk_cell BK428.out 2).trans rfl
    have hfs149 := blk_frozen BK428.out 2
    have hns149_0 := NB427_428.out
    have hns149_2 := NB441_428.out
    have hns149_3 := NB450_428.out
    have hms149_0 := NB428_427.out
    have hms149_2 := NB428_441.out
    have hms149_3 := NB428_450.out
    have hs150 : w142.cell? ⟨gb428, 3, none⟩ = some (.slice none 0 0) := (blk_cell BK428.out 3).trans rfl
    have hfs150 := blk_frozen BK428.out 3
    have hns150_0 := NB427_428.out
    have hns150_2 := NB441_428.out
    have hns150_3 := NB450_428.out
    have hms150_0 := NB428_427.out
    have hms150_2 := NB428_441.out
    have hms150_3 := NB428_450.out
    refine skip_ (w1 := ?_) (by rfl) rfl ?_ ?_
    rotate_left
    ·go_simp
     rfl
    refine hK.out _ _ ⟨((cell_far (p := ⟨gb428, _, none⟩) NB441_428.out _).trans (((cell_far (p := ⟨gb428, _, none⟩) NB441_428.out _).trans (((cell_far (p := ⟨gb428, _, none⟩) NB441_428.out _).trans (((cell_far (p := ⟨gb428, _, none⟩) NB441_428.out _).trans (hHeld.1)))))))), ((cell_far (p := ⟨gb428, _, none⟩) NB441_428.out _).trans (((cell_far (p := ⟨gb428, _, none⟩) NB441_428.out _).trans (((cell_far (p := ⟨gb428, _, none⟩) NB441_428.out _).trans (((cell_far (p := ⟨gb428, _, none⟩) NB441_428.out _).trans (hHeld.2.1)))))))), ((cell_far (p := ⟨gb428, _, none⟩) NB441_428.out _).trans (((cell_far (p := ⟨gb428, _, none⟩) NB441_428.out _).trans (((cell_far (p := ⟨gb428, _, none⟩) NB441_428.out _).trans (((cell_far (p := ⟨gb428, _, none⟩) NB441_428.out _).trans (hHeld.2.2.1)))))))), ((cell_far (p := ⟨gb428, _, none⟩) NB441_428.out _).trans (((cell_far (p := ⟨gb428, _, none⟩) NB441_428.out _).trans (((cell_far (p := ⟨gb428, _, none⟩) NB441_428.out _).trans (((cell_far (p := ⟨gb428, _, none⟩) NB441_428.out _).trans (hHeld.2.2.2.1)))))))), ((cell_far (p := ⟨gb428, _, none⟩) NB450_428.out _).trans (((cell_far (p := ⟨gb428, _, none⟩) NB450_428.out _).trans (((cell_far (p := ⟨gb428, _, none⟩) NB450_428.out _).trans (((cell_far (p := ⟨gb428, _, none⟩) NB450_428.out _).trans (hHeld.2.2.2.2.1)))))))), ((cell_far (p := ⟨gb428, _, none⟩) NB450_428.out _).trans (((cell_far (p := ⟨gb428, _, none⟩) NB450_428.out _).trans (((cell_far (p := ⟨gb428, _, none⟩) NB450_428.out _).trans (((cell_far (p := ⟨gb428, _, none⟩) NB450_428.out _).trans (hHeld.2.2.2.2.2.1)))))))), ((cell_far (p := ⟨gb428, _, none⟩) NB450_428.out _).trans (((cell_far (p := ⟨gb428, _, none⟩) NB450_428.out _).trans (((cell_far (p := ⟨gb428, _, none⟩) NB450_428.out _).trans (((cell_far (p := ⟨gb428, _, none⟩) NB450_428.out _).trans (hHeld.2.2.2.2.2.2.1)))))))), ((cell_far (p := ⟨gb428, _, none⟩) NB450_428.out _).trans (((cell_far (p := ⟨gb428, _, none⟩) NB450_428.out _).trans (((cell_far (p := ⟨gb428, _, none⟩) NB450_428.out _).trans (((cell_far (p := ⟨gb428, _, none⟩) NB450_428.out _).trans (hHeld.2.2.2.2.2.2.2))))))))⟩ (fun hHeld => ?_)
    clear hK K
    refine done_ (by kernel_rfl) ?_
    try go_wp2
    refine bodyPost_ret (results_cc rfl _ _ gb427 gb428 25 25 #[.int .i64 t433, .int .i64 t434, .float .f64 b435, .slice Ao97 t436.length co97] #[.int .i64 t442, .int .i64 t443, .float .f64 b444, .slice Ao105 t445.length co105] (0, 0) (0, 0) _ _ rfl (bput BK427.out) Try.underlying25 rfl (by kernel_rfl) rfl (bput BK428.out) Try.underlying25 rfl (by kernel_rfl)) rfl ?_
    exact ⟨_, _, _, _, by first | rfl | (simp [errW_none, errW_some] <;> rfl) | (simp [*, errW_none, errW_some] <;> rfl), (Kd.R_mono (Kd.roff2 HO438.out BK427.out (by decide) BK428.out (by decide)) (fun _ hk => hk.2)), (Kd.R_mono (Kd.roff2 HO447.out BK427.out (by decide) BK428.out (by decide)) (fun _ hk => hk.2)), by repeat (first | (with_reducible first | exact HB.out | apply h1 | apply h2 | apply h3 | refine h4 ?_ (IsS83.ge HI432.out) | refine h4 ?_ GE427.out | refine h4 ?_ GE428.out | refine h4 ?_ GE441.out | refine h4 ?_ GE450.out) | exact HB.out), (by first | exact ⟨⟨rfl, LTb435.out⟩⟩ | exact ⟨⟨rfl, LTb444.out⟩⟩ | exact ⟨⟨by first | rfl | decide, by decide⟩⟩ | exact ⟨⟨rfl, fquo_lt (by assumption)⟩⟩), (by first | exact ⟨⟨rfl, LTb435.out⟩⟩ | exact ⟨⟨rfl, LTb444.out⟩⟩ | exact ⟨⟨by first | rfl | decide, by decide⟩⟩ | exact ⟨⟨rfl, fquo_lt (by assumption)⟩⟩)⟩
end Go.Proofs.Ytjjkhlphdbmdfaa.PFnKeys
