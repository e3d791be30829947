import Derived.Test.YtcjeokkhpjppaaaZFnSpans29
import Derived.Test.YtcjeokkhpjppaaaZFnSpans33
import Derived.Test.YtcjeokkhpjppaaaZFnSpans34
import Derived.Test.YtcjeokkhpjppaaaZFnSpans36
namespace Go.Proofs.Ytcjeokkhpjppaaa.PFnSpans
open Go.RowKit Go.Proofs.YtcjeokkhpjppaaaW.PrintWords Go.Proofs.YtcjeokkhpjppaaaW.PrintLast Go.Proofs.YtcjeokkhpjppaaaW.PrintMore
attribute [local go_sem] max2_int min2_int max_two min_two max_three min_three max_four min_four   -- for this text's walks alone
attribute [local go_sem high] fl_eql fl_neq fl_lss fl_leq fl_gtr fl_geq fl_add fl_sub fl_mul fl_quo fl_neg fl_ofInt fl_toInt fl_store sub_sign ext_bits fl_nan_quo fl_nan_add fl_nan_mul fl_nan_sub
open Go.Proofs.YtcjeokkhpjppaaaW.PrintWords renaming below_alloc → h1, pw_below_drewN → h2, below_drew1 → h3, below_set → h4, blk_drewN → b1, blk_drew → b2, blk_alloc → b3
set_option linter.unusedVariables false
set_option linter.unusedSimpArgs false
def spec_DrawInSpan.j0 : Nat → List Int → Int → Int → Int → Int → Nat → List Int → Int → Int → Nat → List Int → Int → Int → Nat → List Int → Option (Int × Int × Nat × List Int × Int × Int × Nat × List Int × Int × Int × Nat × List Int)
 | 0, _, _, _, _, _, _, _, _, _, _, _, _, _, _, _ => none
 | k + 1, x401000, x401001, x401002, x410000, x410001, x410002, x410003, x419000, x419001, x419002, x419003, x428000, x428001, x428002, x428003 => (spec_l1Once.f x401000 x401001 x401002 6).bind fun bt439 => (if bt439.1 = true then ((spec_l3copy.f x428000 x428001 x428002 x428003).bind fun bt442 => (some (bt442.1, bt442.2.1, bt442.2.2.1, bt442.2.2.2, x419000, x419001, x419002, x419003, x428000, x428001, x428002, x428003))) else (some (x410000, x410001, x410002, x410003, x419000, x419001, x419002, x419003, x428000, x428001, x428002, x428003)))
def spec_DrawInSpan.f (k : Nat) (l0 : List Int) : Option (Int × Int × Nat × List Int × Int × Int × Nat × List Int × Int × Int × Nat × List Int) := (spec_l1New.f k l0).bind fun bt397 => ((spec_l3key.f k bt397.1 bt397.2.1 bt397.2.2).bind fun bt401 => ((spec_l3key.f k bt397.1 bt401.2.2.2.2.1 bt401.2.2.2.2.2).bind fun bt410 => ((spec_l3key.f k bt397.1 bt410.2.2.2.2.1 bt410.2.2.2.2.2).bind fun bt419 => ((spec_l1Once.f bt397.1 bt419.2.2.2.2.1 bt419.2.2.2.2.2 6).bind fun bt428 => (if bt428.1 = true then ((spec_l3any.f k bt397.1 bt428.2.1 bt428.2.2).bind fun bt431 => (spec_DrawInSpan.j0 k bt397.1 bt431.2.2.2.2.1 bt431.2.2.2.2.2 bt401.1 bt401.2.1 bt401.2.2.1 bt401.2.2.2.1 bt410.1 bt410.2.1 bt410.2.2.1 bt410.2.2.2.1 bt431.1 bt431.2.1 bt431.2.2.1 bt431.2.2.2.1)) else (spec_DrawInSpan.j0 k bt397.1 bt428.2.1 bt428.2.2 bt401.1 bt401.2.1 bt401.2.2.1 bt401.2.2.2.1 bt410.1 bt410.2.1 bt410.2.2.1 bt410.2.2.2.1 bt419.1 bt419.2.1 bt419.2.2.1 bt419.2.2.2.1))))))
theorem spec_DrawInSpan.mono_l : ∀ k, (∀ y0 y1 y2 y3 y4 y5 y6 y7 y8 y9 y10 y11 y12 y13 y14, LeO (spec_DrawInSpan.j0 k y0 y1 y2 y3 y4 y5 y6 y7 y8 y9 y10 y11 y12 y13 y14) (spec_DrawInSpan.j0 (k + 1) y0 y1 y2 y3 y4 y5 y6 y7 y8 y9 y10 y11 y12 y13 y14))
 | 0 => fun _ _ _ _ _ _ _ _ _ _ _ _ _ _ _ r h => by simp [spec_DrawInSpan.j0] at h
 | k + 1 => by
  have ih0 := spec_DrawInSpan.mono_l k
  ·intro y0 y1 y2 y3 y4 y5 y6 y7 y8 y9 y10 y11 y12 y13 y14
   unfold spec_DrawInSpan.j0
   repeat' with_reducible first | exact ih0 _ _ _ _ _ _ _ _ _ _ _ _ _ _ _ | exact spec_l1New.mono _ _ | exact spec_l3any.mono _ _ _ _ | exact spec_l3key.mono _ _ _ _ | exact LeO.refl _ | exact LeO.none _ | refine LeO.ite ?_ ?_ | refine LeO.bind ?_ (fun _ => ?_)
theorem spec_DrawInSpan.mono : ∀ a0 k, LeO (spec_DrawInSpan.f k a0) (spec_DrawInSpan.f (k + 1) a0) := by
 intro a0 k
 have ih0 := spec_DrawInSpan.mono_l k
 unfold spec_DrawInSpan.f
 repeat' with_reducible first | exact ih0 _ _ _ _ _ _ _ _ _ _ _ _ _ _ _ | exact spec_l1New.mono _ _ | exact spec_l3any.mono _ _ _ _ | exact spec_l3key.mono _ _ _ _ | exact LeO.refl _ | exact LeO.none _ | refine LeO.ite ?_ ?_ | refine LeO.bind ?_ (fun _ => ?_)
set_option maxHeartbeats 8000000 in
set_option maxRecDepth 100000 in
theorem spec_DrawInSpan.callsC (k : Nat) (A0 : Option Addr) (c0 : Nat) (l0 : List Int) (r1 : Int) (r2 : Int) (r3 : Nat) (r4 : List Int) (r5 : Int) (r6 : Int) (r7 : Nat) (r8 : List Int) (r9 : Int) (r10 : Int) (r11 : Nat) (r12 : List Int) (w : World) (hr0 : Kd.C (Kd.int .u8) w A0 l0.length l0) (hc0 : l0.length ≤ c0) (h : spec_DrawInSpan.f k l0 = some (r1, r2, r3, r4, r5, r6, r7, r8, r9, r10, r11, r12)) :
  Calls Try.prog 24 #[.slice A0 l0.length c0] w fun e w' => ∃ b1_ : Nat, ∃ b2_ : Nat, ∃ b3_ : Nat, ∃ v3_ v7_ v11_ : Value, e = .returned (.tuple #[.agg #[.int .i64 r1, .int .i64 r2, .float .f64 b1_, v3_], .agg #[.int .i64 r5, .int .i64 r6, .float .f64 b2_, v7_], .agg #[.int .i64 r9, .int .i64 r10, .float .f64 b3_, v11_]]) ∧ Kd.R (Kd.int .u8) 5 w' w.heap.size (fun k_ => some k_ ≠ (v7_ : Value).ownBlock ∧ some k_ ≠ (v11_ : Value).ownBlock) v3_ r4 ∧ Kd.R (Kd.int .u8) 5 w' w.heap.size (fun k_ => some k_ ≠ (v3_ : Value).ownBlock ∧ some k_ ≠ (v11_ : Value).ownBlock) v7_ r8 ∧ Kd.R (Kd.int .u8) 5 w' w.heap.size (fun k_ => some k_ ≠ (v3_ : Value).ownBlock ∧ some k_ ≠ (v7_ : Value).ownBlock) v11_ r12 ∧ Below w.heap.size w w' ∧ Aside0 (cn b1_ = r3 ∧ b1_ < 2 ^ 64) ∧ Aside0 (cn b2_ = r7 ∧ b2_ < 2 ^ 64) ∧ Aside0 (cn b3_ = r11 ∧ b3_ < 2 ^ 64) := by
 have hu28 := Try.underlying28
 have HR0 := Aside0.mk hr0
 have HC0 := Aside0.mk hc0
 clear hr0 hc0
 have HB := Aside0.mk (Below.refl w.heap.size w)
 have H := h
 clear h
 unfold spec_DrawInSpan.f at H
 replace H := Option.bind_eq_some_iff.mp H
 obtain ⟨⟨t397, t398, t399⟩, A20, H⟩ := H
 (try dsimp only at H)
 have A2 := Aside0.mk A20
 clear A20
 replace H := Option.bind_eq_some_iff.mp H
 obtain ⟨⟨t401, t402, t403, t404, t407, t408⟩, A30, H⟩ := H
 (try dsimp only at H)
 have A3 := Aside0.mk A30
 clear A30
 replace H := Option.bind_eq_some_iff.mp H
 obtain ⟨⟨t410, t411, t412, t413, t416, t417⟩, A40, H⟩ := H
 (try dsimp only at H)
 have A4 := Aside0.mk A40
 clear A40
 replace H := Option.bind_eq_some_iff.mp H
 obtain ⟨⟨t419, t420, t421, t422, t425, t426⟩, A50, H⟩ := H
 (try dsimp only at H)
 have A5 := Aside0.mk A50
 clear A50
 replace H := Option.bind_eq_some_iff.mp H
 obtain ⟨⟨t428, t429, t430⟩, A60, H⟩ := H
 (try dsimp only at H)
 have A6 := Aside0.mk A60
 clear A60
 have HC7 := Aside0.mk H
 clear H
 go_enter Try.func24, Try.ntmps24
 go_upto_if 18 with (first | ((with_reducible refine gate_dst (N := 2) rfl ?_); refine box_event ?hg (N := 2) ?hd (cs := #[.int .i64 0, .int .i64 0, .float .f64 0, .slice none 0 0]) (t := 28) ?hr ?_; (case hd => rfl); (case hg => rfl); (case hr => first | (go_simp; done) | (go_simp; rfl)); intro gb394 hg w8 hbox hb; have n0_ := Aside0.mk (below_step (hup HB.out) hb); have n1_ := Aside0.mk (hbox); have n2_ := Geq.mk ((by rw [hg]; exact (below_size (hup HB.out)) : w.heap.size ≤ gb394)); have n3_ := Geq.mk ((by rw [hg]; exact (below_size (hup HB.out)) : w.heap.size ≤ gb394)); clear HB; have HB := n0_; have BK394 := n1_; have GW394 := n2_; have GE394 := n3_; clear n0_ n1_ n2_ n3_; clear hb hbox hg) | ((with_reducible refine gate_dst (N := 3) rfl ?_); refine box_event ?hg (N := 3) ?hd (cs := #[.int .i64 0, .int .i64 0, .float .f64 0, .slice none 0 0]) (t := 28) ?hr ?_; (case hd => rfl); (case hg => rfl); (case hr => first | (go_simp; done) | (go_simp; rfl)); intro gb395 hg w9 hbox hb; have n0_ := Aside0.mk (blk_below (bup BK394.out) hb); have n1_ := Aside0.mk (below_step (hset HB.out) hb); have n2_ := Aside0.mk (hbox); have n3_ := Geq.mk ((by rw [hg]; exact (below_size (hset HB.out)) : w.heap.size ≤ gb395)); have n4_ := Geq.mk ((by rw [hg]; exact (below_size (hset HB.out)) : w.heap.size ≤ gb395)); have n5_ := Neq.mk ((by rw [hg]; exact Nat.ne_of_lt (blk_lt (g := gb394) (o := .cells #[.int .i64 0, .int .i64 0, .float .f64 0, .slice none 0 0] 28 (0, 0)) (bup BK394.out)) : gb394 ≠ gb395)); have n6_ := Neq.mk ((by rw [hg]; exact Nat.ne_of_gt (blk_lt (g := gb394) (o := .cells #[.int .i64 0, .int .i64 0, .float .f64 0, .slice none 0 0] 28 (0, 0)) (bup BK394.out)) : gb395 ≠ gb394)); clear BK394; clear HB; have BK394 := n0_; have HB := n1_; have BK395 := n2_; have GW395 := n3_; have GE395 := n4_; have NB394_395 := n5_; have NB395_394 := n6_; clear n0_ n1_ n2_ n3_ n4_ n5_ n6_; clear hb hbox hg) | ((with_reducible refine gate_dst (N := 4) rfl ?_); refine box_event ?hg (N := 4) ?hd (cs := #[.int .i64 0, .int .i64 0, .float .f64 0, .slice none 0 0]) (t := 28) ?hr ?_; (case hd => rfl); (case hg => rfl); (case hr => first | (go_simp; done) | (go_simp; rfl)); intro gb396 hg w10 hbox hb; have n0_ := Aside0.mk (blk_below (bup BK394.out) hb); have n1_ := Aside0.mk (blk_below (bup BK395.out) hb); have n2_ := Aside0.mk (below_step (hset HB.out) hb); have n3_ := Aside0.mk (hbox); have n4_ := Geq.mk ((by rw [hg]; exact (below_size (hset HB.out)) : w.heap.size ≤ gb396)); have n5_ := Geq.mk ((by rw [hg]; exact (below_size (hset HB.out)) : w.heap.size ≤ gb396)); have n6_ := Neq.mk ((by rw [hg]; exact Nat.ne_of_lt (blk_lt (g := gb394) (o := .cells #[.int .i64 0, .int .i64 0, .float .f64 0, .slice none 0 0] 28 (0, 0)) (bup BK394.out)) : gb394 ≠ gb396)); have n7_ := Neq.mk ((by rw [hg]; exact Nat.ne_of_gt (blk_lt (g := gb394) (o := .cells #[.int .i64 0, .int .i64 0, .float .f64 0, .slice none 0 0] 28 (0, 0)) (bup BK394.out)) : gb396 ≠ gb394)); have n8_ := Neq.mk ((by rw [hg]; exact Nat.ne_of_lt (blk_lt (g := gb395) (o := .cells #[.int .i64 0, .int .i64 0, .float .f64 0, .slice none 0 0] 28 (0, 0)) (bup BK395.out)) : gb395 ≠ gb396)); have n9_ := Neq.mk ((by rw [hg]; exact Nat.ne_of_gt (blk_lt (g := gb395) (o := .cells #[.int .i64 0, .int .i64 0, .float .f64 0, .slice none 0 0] 28 (0, 0)) (bup BK395.out)) : gb396 ≠ gb395)); clear BK394; clear BK395; clear HB; have BK394 := n0_; have BK395 := n1_; have HB := n2_; have BK396 := n3_; have GW396 := n4_; have GE396 := n5_; have NB394_396 := n6_; have NB396_394 := n7_; have NB395_396 := n8_; have NB396_395 := n9_; clear n0_ n1_ n2_ n3_ n4_ n5_ n6_ n7_ n8_ n9_; clear hb hbox hg) | ((with_reducible refine gate_callee (f := 42) rfl ?_); refine goesL_ (some 10) rfl rfl Try.func42 (by kernel_rfl) rfl #[.slice A0 l0.length c0] rfl (by (try simp only [List.map_toArray, List.map_cons, List.map_nil]); first | done | rfl) ?_; (with_reducible refine (spec_l1New.calls k _ _ l0 t397 t398 t399 w _ ?side1 ?side2 ?side3 A2.out).mono ?_); (case side1 => with_reducible repeat (first | exact HB.out | refine h4 ?_ GE394.out | refine h4 ?_ GE395.out | refine h4 ?_ GE396.out | apply h1 | apply h2 | apply h3)); (case side2 => exact HR0.out); (case side3 => exact HC0.out); rintro e w11 ⟨g400, rfl, hi, hb, hb2⟩; refine ⟨_, rfl, ?_⟩; have n0_ := Aside0.mk (blk_below (bup BK394.out) hb2); have n1_ := Aside0.mk (blk_below (bup BK395.out) hb2); have n2_ := Aside0.mk (blk_below (bup BK396.out) hb2); have n3_ := Aside0.mk (hb); have n4_ := Aside0.mk (hi); have n5_ := Aside0.mk (IsS61.ne_blk hi (blk_below (bup BK394.out) hb2) (by decide)); have n6_ := Aside0.mk (Ne.symm (IsS61.ne_blk hi (blk_below (bup BK394.out) hb2) (by decide))); have n7_ := Aside0.mk (IsS61.ne_blk hi (blk_below (bup BK395.out) hb2) (by decide)); have n8_ := Aside0.mk (Ne.symm (IsS61.ne_blk hi (blk_below (bup BK395.out) hb2) (by decide))); have n9_ := Aside0.mk (IsS61.ne_blk hi (blk_below (bup BK396.out) hb2) (by decide)); have n10_ := Aside0.mk (Ne.symm (IsS61.ne_blk hi (blk_below (bup BK396.out) hb2) (by decide))); clear BK394; clear BK395; clear BK396; clear HB; have BK394 := n0_; have BK395 := n1_; have BK396 := n2_; have HB := n3_; have HI400 := n4_; have NB400_394 := n5_; have NB394_400 := n6_; have NB400_395 := n7_; have NB395_400 := n8_; have NB400_396 := n9_; have NB396_400 := n10_; clear n0_ n1_ n2_ n3_ n4_ n5_ n6_ n7_ n8_ n9_ n10_; (try clear hb); (try clear hb2); (try clear hk); (try clear hi)) | ((with_reducible refine gate_callee (f := 43) rfl ?_); refine goesL_ (some 12) rfl rfl Try.func43 (by kernel_rfl) rfl #[.pointer (some ⟨g400, 0, none⟩)] rfl (by (try simp only [List.map_toArray, List.map_cons, List.map_nil]); first | done | rfl) ?_; (with_reducible refine (spec_l3key.callsC k g400 t397 t398 t399 t401 t402 t403 t404 t407 t408 w _ ?side1 ?side2 A3.out).mono ?_); (case side1 => repeat (first | (with_reducible first | exact HI400.out | apply IsS61.alloc | apply IsS61.drewN | apply IsS61.drew | apply IsS61.set_1 | apply IsS61.set_2 | refine IsS61.far ?_ NB400_394.out _ | refine IsS61.far ?_ NB400_395.out _ | refine IsS61.far ?_ NB400_396.out _) | exact HI400.out)); (case side2 => repeat (first | (with_reducible first | exact HB.out | apply h1 | apply h2 | apply h3 | refine h4 ?_ (IsS61.ge HI400.out) | refine h4 ?_ GE394.out | refine h4 ?_ GE395.out | refine h4 ?_ GE396.out) | exact HB.out)); rintro e w12 ⟨b403, v405, rfl, ho0, hi, hb, hk, ⟨⟨hcnb403, hltb403⟩⟩⟩; refine ⟨_, rfl, ?_⟩; have LTb403 := Aside0.mk hltb403; clear hltb403; subst hcnb403; have n0_ := Aside0.mk (KeepBut.blk hk (g' := gb394) (o := .cells #[.int .i64 0, .int .i64 0, .float .f64 0, .slice none 0 0] 28 (0, 0)) (bup BK394.out) NB394_400.out (by simp)); have n1_ := Aside0.mk (KeepBut.blk hk (g' := gb395) (o := .cells #[.int .i64 0, .int .i64 0, .float .f64 0, .slice none 0 0] 28 (0, 0)) (bup BK395.out) NB395_400.out (by simp)); have n2_ := Aside0.mk (KeepBut.blk hk (g' := gb396) (o := .cells #[.int .i64 0, .int .i64 0, .float .f64 0, .slice none 0 0] 28 (0, 0)) (bup BK396.out) NB396_400.out (by simp)); have n3_ := Aside0.mk (Kd.R_lower ho0 (below_size (by repeat (first | (with_reducible first | exact HB.out | apply h1 | apply h2 | apply h3 | refine h4 ?_ (IsS61.ge HI400.out) | refine h4 ?_ GE394.out | refine h4 ?_ GE395.out | refine h4 ?_ GE396.out) | exact HB.out)))); have n4_ := Aside0.mk (hb); have n5_ := Aside0.mk (hi); clear BK394; clear BK395; clear BK396; clear HB; clear HI400; have BK394 := n0_; have BK395 := n1_; have BK396 := n2_; have HO406 := n3_; have HB := n4_; have HI400 := n5_; clear n0_ n1_ n2_ n3_ n4_ n5_; (try clear hb); (try clear hb2); (try clear hk); (try clear hi); (try clear ho0)) | ((with_reducible refine gate_dst (N := 6) rfl ?_); refine box_event ?hg (N := 6) ?hd (cs := #[.int .i64 0, .int .i64 0, .float .f64 0, .slice none 0 0]) (t := 28) ?hr ?_; (case hd => rfl); (case hg => rfl); (case hr => first | (go_simp; done) | (go_simp; rfl)); intro gb409 hg w13 hbox hb; have n0_ := Aside0.mk (Kd.R_below (Kd.rup HO406.out) hb); have n1_ := Aside0.mk (blk_below (bup BK394.out) hb); have n2_ := Aside0.mk (blk_below (bup BK395.out) hb); have n3_ := Aside0.mk (blk_below (bup BK396.out) hb); have n4_ := Aside0.mk (IsS61.below (by repeat (first | (with_reducible first | exact HI400.out | apply IsS61.alloc | apply IsS61.drewN | apply IsS61.drew | apply IsS61.set_1 | apply IsS61.set_2 | refine IsS61.far ?_ NB400_394.out _ | refine IsS61.far ?_ NB400_395.out _ | refine IsS61.far ?_ NB400_396.out _) | exact HI400.out)) hb); have n5_ := Aside0.mk (below_step (by repeat (first | (with_reducible first | exact HB.out | apply h1 | apply h2 | apply h3 | refine h4 ?_ (IsS61.ge HI400.out) | refine h4 ?_ GE394.out | refine h4 ?_ GE395.out | refine h4 ?_ GE396.out) | exact HB.out)) hb); have n6_ := Aside0.mk (hbox); have n7_ := Geq.mk ((by rw [hg]; exact (below_size (by repeat (first | (with_reducible first | exact HB.out | apply h1 | apply h2 | apply h3 | refine h4 ?_ (IsS61.ge HI400.out) | refine h4 ?_ GE394.out | refine h4 ?_ GE395.out | refine h4 ?_ GE396.out) | exact HB.out))) : w.heap.size ≤ gb409)); have n8_ := Geq.mk ((by rw [hg]; exact (below_size (by repeat (first | (with_reducible first | exact HB.out | apply h1 | apply h2 | apply h3 | refine h4 ?_ (IsS61.ge HI400.out) | refine h4 ?_ GE394.out | refine h4 ?_ GE395.out | refine h4 ?_ GE396.out) | exact HB.out))) : w.heap.size ≤ gb409)); have n9_ := Neq.mk ((by rw [hg]; exact Nat.ne_of_lt (blk_lt (g := gb394) (o := .cells #[.int .i64 0, .int .i64 0, .float .f64 0, .slice none 0 0] 28 (0, 0)) (bup BK394.out)) : gb394 ≠ gb409)); have n10_ := Neq.mk ((by rw [hg]; exact Nat.ne_of_gt (blk_lt (g := gb394) (o := .cells #[.int .i64 0, .int .i64 0, .float .f64 0, .slice none 0 0] 28 (0, 0)) (bup BK394.out)) : gb409 ≠ gb394)); have n11_ := Neq.mk ((by rw [hg]; exact Nat.ne_of_lt (blk_lt (g := gb395) (o := .cells #[.int .i64 0, .int .i64 0, .float .f64 0, .slice none 0 0] 28 (0, 0)) (bup BK395.out)) : gb395 ≠ gb409)); have n12_ := Neq.mk ((by rw [hg]; exact Nat.ne_of_gt (blk_lt (g := gb395) (o := .cells #[.int .i64 0, .int .i64 0, .float .f64 0, .slice none 0 0] 28 (0, 0)) (bup BK395.out)) : gb409 ≠ gb395)); have n13_ := Neq.mk ((by rw [hg]; exact Nat.ne_of_lt (blk_lt (g := gb396) (o := .cells #[.int .i64 0, .int .i64 0, .float .f64 0, .slice none 0 0] 28 (0, 0)) (bup BK396.out)) : gb396 ≠ gb409)); have n14_ := Neq.mk ((by rw [hg]; exact Nat.ne_of_gt (blk_lt (g := gb396) (o := .cells #[.int .i64 0, .int .i64 0, .float .f64 0, .slice none 0 0] 28 (0, 0)) (bup BK396.out)) : gb409 ≠ gb396)); have n15_ := Aside0.mk ((by rw [hg]; exact Nat.ne_of_lt (IsS61.lt (show IsS61 w _ g400 t397 t407 t408 from by repeat (first | (with_reducible first | exact HI400.out | apply IsS61.alloc | apply IsS61.drewN | apply IsS61.drew | apply IsS61.set_1 | apply IsS61.set_2 | refine IsS61.far ?_ NB400_394.out _ | refine IsS61.far ?_ NB400_395.out _ | refine IsS61.far ?_ NB400_396.out _) | exact HI400.out))) : g400 ≠ gb409)); have n16_ := Aside0.mk ((by rw [hg]; exact Nat.ne_of_gt (IsS61.lt (show IsS61 w _ g400 t397 t407 t408 from by repeat (first | (with_reducible first | exact HI400.out | apply IsS61.alloc | apply IsS61.drewN | apply IsS61.drew | apply IsS61.set_1 | apply IsS61.set_2 | refine IsS61.far ?_ NB400_394.out _ | refine IsS61.far ?_ NB400_395.out _ | refine IsS61.far ?_ NB400_396.out _) | exact HI400.out))) : gb409 ≠ g400)); clear HO406; clear BK394; clear BK395; clear BK396; clear HI400; clear HB; have HO406 := n0_; have BK394 := n1_; have BK395 := n2_; have BK396 := n3_; have HI400 := n4_; have HB := n5_; have BK409 := n6_; have GW409 := n7_; have GE409 := n8_; have NB394_409 := n9_; have NB409_394 := n10_; have NB395_409 := n11_; have NB409_395 := n12_; have NB396_409 := n13_; have NB409_396 := n14_; have NB400_409 := n15_; have NB409_400 := n16_; clear n0_ n1_ n2_ n3_ n4_ n5_ n6_ n7_ n8_ n9_ n10_ n11_ n12_ n13_ n14_ n15_ n16_; clear hb hbox hg; have hnb14 := NB409_394.out; have hnc14 := NB394_409.out; have hnb15 := NB409_395.out; have hnc15 := NB395_409.out; have hnb16 := NB409_396.out; have hnc16 := NB396_409.out; have hnb17 := NB409_400.out; have hnc17 := NB400_409.out; obtain ⟨hcz18_0, hcz18_1, hcz18_2, hcz18_3⟩ := blk_cells4 BK409.out; obtain ⟨hfz18_0, hfz18_1, hfz18_2, hfz18_3⟩ := blk_frozens4 BK409.out; obtain ⟨Ao19, co19, eo19⟩ := Kd.R_slice HO406.out; subst eo19) | ((with_reducible refine gate_callee (f := 43) rfl ?_); refine goesL_ (some 14) rfl rfl Try.func43 (by kernel_rfl) rfl #[.pointer (some ⟨g400, 0, none⟩)] rfl (by (try simp only [List.map_toArray, List.map_cons, List.map_nil]); first | done | rfl) ?_; (with_reducible refine (spec_l3key.callsC k g400 t397 t407 t408 t410 t411 t412 t413 t416 t417 w _ ?side1 ?side2 A4.out).mono ?_); (case side1 => repeat (first | (with_reducible first | exact HI400.out | apply IsS61.alloc | apply IsS61.drewN | apply IsS61.drew | apply IsS61.set_1 | apply IsS61.set_2 | refine IsS61.far ?_ NB400_394.out _ | refine IsS61.far ?_ NB400_395.out _ | refine IsS61.far ?_ NB400_396.out _ | refine IsS61.far ?_ NB400_409.out _) | exact HI400.out)); (case side2 => repeat (first | (with_reducible first | exact HB.out | apply h1 | apply h2 | apply h3 | refine h4 ?_ (IsS61.ge HI400.out) | refine h4 ?_ GE394.out | refine h4 ?_ GE395.out | refine h4 ?_ GE396.out | refine h4 ?_ GE409.out) | exact HB.out)); rintro e w20 ⟨b412, v414, rfl, ho0, hi, hb, hk, ⟨⟨hcnb412, hltb412⟩⟩⟩; refine ⟨_, rfl, ?_⟩; have LTb412 := Aside0.mk hltb412; clear hltb412; subst hcnb412; have n0_ := Aside0.mk (KeepBut.blk hk (g' := gb394) (o := .cells #[.int .i64 0, .int .i64 0, .float .f64 0, .slice none 0 0] 28 (0, 0)) (bput BK394.out) NB394_400.out (by simp)); have n1_ := Aside0.mk (KeepBut.blk hk (g' := gb395) (o := .cells #[.int .i64 0, .int .i64 0, .float .f64 0, .slice none 0 0] 28 (0, 0)) (bput BK395.out) NB395_400.out (by simp)); have n2_ := Aside0.mk (KeepBut.blk hk (g' := gb396) (o := .cells #[.int .i64 0, .int .i64 0, .float .f64 0, .slice none 0 0] 28 (0, 0)) (bput BK396.out) NB396_400.out (by simp)); have n3_ := Aside0.mk (Kd.R_mono (Kd.R_told (Kd.R_oldK (IsS61.apart (show IsS61 w _ g400 t397 t407 t408 from by repeat (first | (with_reducible first | exact HI400.out | apply IsS61.alloc | apply IsS61.drewN | apply IsS61.drew | apply IsS61.set_1 | apply IsS61.set_2 | refine IsS61.far ?_ NB400_394.out _ | refine IsS61.far ?_ NB400_395.out _ | refine IsS61.far ?_ NB400_396.out _ | refine IsS61.far ?_ NB400_409.out _) | exact HI400.out)) ((Kd.roff1 HO406.out BK409.out (by decide))) (by decide)) hk) (Kd.R_base ho0)) (fun _ h_ => h_.1)); have n4_ := Aside0.mk (KeepBut.blk hk (g' := gb409) (o := .cells #[.int .i64 t401, .int .i64 t402, .float .f64 b403, .slice Ao19 t404.length co19] 28 (0, 0)) (bput BK409.out) NB409_400.out (by simp)); have n5_ := Aside0.mk (Kd.R_lower (Kd.R_new' ho0 (Kd.R_lt ((Kd.roff1 HO406.out BK409.out (by decide))))) (below_size (by repeat (first | (with_reducible first | exact HB.out | apply h1 | apply h2 | apply h3 | refine h4 ?_ (IsS61.ge HI400.out) | refine h4 ?_ GE394.out | refine h4 ?_ GE395.out | refine h4 ?_ GE396.out | refine h4 ?_ GE409.out) | exact HB.out)))); have n6_ := Aside0.mk (hb); have n7_ := Aside0.mk (hi); clear BK394; clear BK395; clear BK396; clear HO406; clear BK409; clear HB; clear HI400; have BK394 := n0_; have BK395 := n1_; have BK396 := n2_; have HO406 := n3_; have BK409 := n4_; have HO415 := n5_; have HB := n6_; have HI400 := n7_; clear n0_ n1_ n2_ n3_ n4_ n5_ n6_ n7_; (try clear hb); (try clear hb2); (try clear hk); (try clear hi); (try clear ho0)) | ((with_reducible refine gate_dst (N := 7) rfl ?_); refine box_event ?hg (N := 7) ?hd (cs := #[.int .i64 0, .int .i64 0, .float .f64 0, .slice none 0 0]) (t := 28) ?hr ?_; (case hd => rfl); (case hg => rfl); (case hr => first | (go_simp; done) | (go_simp; rfl)); intro gb418 hg w21 hbox hb; have n0_ := Aside0.mk (Kd.R_below (Kd.rup HO406.out) hb); have n1_ := Aside0.mk (Kd.R_below (Kd.rup HO415.out) hb); have n2_ := Aside0.mk (blk_below (bup BK394.out) hb); have n3_ := Aside0.mk (blk_below (bup BK395.out) hb); have n4_ := Aside0.mk (blk_below (bup BK396.out) hb); have n5_ := Aside0.mk (IsS61.below (by repeat (first | (with_reducible first | exact HI400.out | apply IsS61.alloc | apply IsS61.drewN | apply IsS61.drew | apply IsS61.set_1 | apply IsS61.set_2 | refine IsS61.far ?_ NB400_394.out _ | refine IsS61.far ?_ NB400_395.out _ | refine IsS61.far ?_ NB400_396.out _ | refine IsS61.far ?_ NB400_409.out _) | exact HI400.out)) hb); have n6_ := Aside0.mk (blk_below (bup BK409.out) hb); have n7_ := Aside0.mk (below_step (by repeat (first | (with_reducible first | exact HB.out | apply h1 | apply h2 | apply h3 | refine h4 ?_ (IsS61.ge HI400.out) | refine h4 ?_ GE394.out | refine h4 ?_ GE395.out | refine h4 ?_ GE396.out | refine h4 ?_ GE409.out) | exact HB.out)) hb); have n8_ := Aside0.mk (hbox); have n9_ := Geq.mk ((by rw [hg]; exact (below_size (by repeat (first | (with_reducible first | exact HB.out | apply h1 | apply h2 | apply h3 | refine h4 ?_ (IsS61.ge HI400.out) | refine h4 ?_ GE394.out | refine h4 ?_ GE395.out | refine h4 ?_ GE396.out | refine h4 ?_ GE409.out) | exact HB.out))) : w.heap.size ≤ gb418)); have n10_ := Geq.mk ((by rw [hg]; exact (below_size (by repeat (first | (with_reducible first | exact HB.out | apply h1 | apply h2 | apply h3 | refine h4 ?_ (IsS61.ge HI400.out) | refine h4 ?_ GE394.out | refine h4 ?_ GE395.out | refine h4 ?_ GE396.out | refine h4 ?_ GE409.out) | exact HB.out))) : w.heap.size ≤ gb418)); have n11_ := Neq.mk ((by rw [hg]; exact Nat.ne_of_lt (blk_lt (g := gb394) (o := .cells #[.int .i64 0, .int .i64 0, .float .f64 0, .slice none 0 0] 28 (0, 0)) (bup BK394.out)) : gb394 ≠ gb418)); have n12_ := Neq.mk ((by rw [hg]; exact Nat.ne_of_gt (blk_lt (g := gb394) (o := .cells #[.int .i64 0, .int .i64 0, .float .f64 0, .slice none 0 0] 28 (0, 0)) (bup BK394.out)) : gb418 ≠ gb394)); have n13_ := Neq.mk ((by rw [hg]; exact Nat.ne_of_lt (blk_lt (g := gb395) (o := .cells #[.int .i64 0, .int .i64 0, .float .f64 0, .slice none 0 0] 28 (0, 0)) (bup BK395.out)) : gb395 ≠ gb418)); have n14_ := Neq.mk ((by rw [hg]; exact Nat.ne_of_gt (blk_lt (g := gb395) (o := .cells #[.int .i64 0, .int .i64 0, .float .f64 0, .slice none 0 0] 28 (0, 0)) (bup BK395.out)) : gb418 ≠ gb395)); have n15_ := Neq.mk ((by rw [hg]; exact Nat.ne_of_lt (blk_lt (g := gb396) (o := .cells #[.int .i64 0, .int .i64 0, .float .f64 0, .slice none 0 0] 28 (0, 0)) (bup BK396.out)) : gb396 ≠ gb418)); have n16_ := Neq.mk ((by rw [hg]; exact Nat.ne_of_gt (blk_lt (g := gb396) (o := .cells #[.int .i64 0, .int .i64 0, .float .f64 0, .slice none 0 0] 28 (0, 0)) (bup BK396.out)) : gb418 ≠ gb396)); have n17_ := Neq.mk ((by rw [hg]; exact Nat.ne_of_lt (blk_lt (g := gb409) (o := .cells #[.int .i64 t401, .int .i64 t402, .float .f64 b403, .slice Ao19 t404.length co19] 28 (0, 0)) (bup BK409.out)) : gb409 ≠ gb418)); have n18_ := Neq.mk ((by rw [hg]; exact Nat.ne_of_gt (blk_lt (g := gb409) (o := .cells #[.int .i64 t401, .int .i64 t402, .float .f64 b403, .slice Ao19 t404.length co19] 28 (0, 0)) (bup BK409.out)) : gb418 ≠ gb409)); have n19_ := Aside0.mk ((by rw [hg]; exact Nat.ne_of_lt (IsS61.lt (show IsS61 w _ g400 t397 t416 t417 from by repeat (first | (with_reducible first | exact HI400.out | apply IsS61.alloc | apply IsS61.drewN | apply IsS61.drew | apply IsS61.set_1 | apply IsS61.set_2 | refine IsS61.far ?_ NB400_394.out _ | refine IsS61.far ?_ NB400_395.out _ | refine IsS61.far ?_ NB400_396.out _ | refine IsS61.far ?_ NB400_409.out _) | exact HI400.out))) : g400 ≠ gb418)); have n20_ := Aside0.mk ((by rw [hg]; exact Nat.ne_of_gt (IsS61.lt (show IsS61 w _ g400 t397 t416 t417 from by repeat (first | (with_reducible first | exact HI400.out | apply IsS61.alloc | apply IsS61.drewN | apply IsS61.drew | apply IsS61.set_1 | apply IsS61.set_2 | refine IsS61.far ?_ NB400_394.out _ | refine IsS61.far ?_ NB400_395.out _ | refine IsS61.far ?_ NB400_396.out _ | refine IsS61.far ?_ NB400_409.out _) | exact HI400.out))) : gb418 ≠ g400)); clear HO406; clear HO415; clear BK394; clear BK395; clear BK396; clear HI400; clear BK409; clear HB; have HO406 := n0_; have HO415 := n1_; have BK394 := n2_; have BK395 := n3_; have BK396 := n4_; have HI400 := n5_; have BK409 := n6_; have HB := n7_; have BK418 := n8_; have GW418 := n9_; have GE418 := n10_; have NB394_418 := n11_; have NB418_394 := n12_; have NB395_418 := n13_; have NB418_395 := n14_; have NB396_418 := n15_; have NB418_396 := n16_; have NB409_418 := n17_; have NB418_409 := n18_; have NB400_418 := n19_; have NB418_400 := n20_; clear n0_ n1_ n2_ n3_ n4_ n5_ n6_ n7_ n8_ n9_ n10_ n11_ n12_ n13_ n14_ n15_ n16_ n17_ n18_ n19_ n20_; clear hb hbox hg; have hnb22 := NB418_394.out; have hnc22 := NB394_418.out; have hnb23 := NB418_395.out; have hnc23 := NB395_418.out; have hnb24 := NB418_396.out; have hnc24 := NB396_418.out; have hnb25 := NB418_409.out; have hnc25 := NB409_418.out; have hnb26 := NB418_400.out; have hnc26 := NB400_418.out; obtain ⟨hcz27_0, hcz27_1, hcz27_2, hcz27_3⟩ := blk_cells4 BK418.out; obtain ⟨hfz27_0, hfz27_1, hfz27_2, hfz27_3⟩ := blk_frozens4 BK418.out; obtain ⟨Ao28, co28, eo28⟩ := Kd.R_slice HO415.out; subst eo28) | ((with_reducible refine gate_callee (f := 43) rfl ?_); refine goesL_ (some 16) rfl rfl Try.func43 (by kernel_rfl) rfl #[.pointer (some ⟨g400, 0, none⟩)] rfl (by (try simp only [List.map_toArray, List.map_cons, List.map_nil]); first | done | rfl) ?_; (with_reducible refine (spec_l3key.callsC k g400 t397 t416 t417 t419 t420 t421 t422 t425 t426 w _ ?side1 ?side2 A5.out).mono ?_); (case side1 => repeat (first | (with_reducible first | exact HI400.out | apply IsS61.alloc | apply IsS61.drewN | apply IsS61.drew | apply IsS61.set_1 | apply IsS61.set_2 | refine IsS61.far ?_ NB400_394.out _ | refine IsS61.far ?_ NB400_395.out _ | refine IsS61.far ?_ NB400_396.out _ | refine IsS61.far ?_ NB400_409.out _ | refine IsS61.far ?_ NB400_418.out _) | exact HI400.out)); (case side2 => repeat (first | (with_reducible first | exact HB.out | apply h1 | apply h2 | apply h3 | refine h4 ?_ (IsS61.ge HI400.out) | refine h4 ?_ GE394.out | refine h4 ?_ GE395.out | refine h4 ?_ GE396.out | refine h4 ?_ GE409.out | refine h4 ?_ GE418.out) | exact HB.out)); rintro e w29 ⟨b421, v423, rfl, ho0, hi, hb, hk, ⟨⟨hcnb421, hltb421⟩⟩⟩; refine ⟨_, rfl, ?_⟩; have LTb421 := Aside0.mk hltb421; clear hltb421; subst hcnb421; have n0_ := Aside0.mk (KeepBut.blk hk (g' := gb394) (o := .cells #[.int .i64 0, .int .i64 0, .float .f64 0, .slice none 0 0] 28 (0, 0)) (bput BK394.out) NB394_400.out (by simp)); have n1_ := Aside0.mk (KeepBut.blk hk (g' := gb395) (o := .cells #[.int .i64 0, .int .i64 0, .float .f64 0, .slice none 0 0] 28 (0, 0)) (bput BK395.out) NB395_400.out (by simp)); have n2_ := Aside0.mk (KeepBut.blk hk (g' := gb396) (o := .cells #[.int .i64 0, .int .i64 0, .float .f64 0, .slice none 0 0] 28 (0, 0)) (bput BK396.out) NB396_400.out (by simp)); have n3_ := Aside0.mk (Kd.R_mono (Kd.R_told (Kd.R_oldK (IsS61.apart (show IsS61 w _ g400 t397 t416 t417 from by repeat (first | (with_reducible first | exact HI400.out | apply IsS61.alloc | apply IsS61.drewN | apply IsS61.drew | apply IsS61.set_1 | apply IsS61.set_2 | refine IsS61.far ?_ NB400_394.out _ | refine IsS61.far ?_ NB400_395.out _ | refine IsS61.far ?_ NB400_396.out _ | refine IsS61.far ?_ NB400_409.out _ | refine IsS61.far ?_ NB400_418.out _) | exact HI400.out)) ((Kd.roff1 HO406.out BK418.out (by decide))) (by decide)) hk) (Kd.R_base ho0)) (fun _ h_ => h_.1)); have n4_ := Aside0.mk (KeepBut.blk hk (g' := gb409) (o := .cells #[.int .i64 t401, .int .i64 t402, .float .f64 b403, .slice Ao19 t404.length co19] 28 (0, 0)) (bput BK409.out) NB409_400.out (by simp)); have n5_ := Aside0.mk (Kd.R_mono (Kd.R_told (Kd.R_oldK (IsS61.apart (show IsS61 w _ g400 t397 t416 t417 from by repeat (first | (with_reducible first | exact HI400.out | apply IsS61.alloc | apply IsS61.drewN | apply IsS61.drew | apply IsS61.set_1 | apply IsS61.set_2 | refine IsS61.far ?_ NB400_394.out _ | refine IsS61.far ?_ NB400_395.out _ | refine IsS61.far ?_ NB400_396.out _ | refine IsS61.far ?_ NB400_409.out _ | refine IsS61.far ?_ NB400_418.out _) | exact HI400.out)) ((Kd.roff1 HO415.out BK418.out (by decide))) (by decide)) hk) (Kd.R_base ho0)) (fun _ h_ => h_.1)); have n6_ := Aside0.mk (KeepBut.blk hk (g' := gb418) (o := .cells #[.int .i64 t410, .int .i64 t411, .float .f64 b412, .slice Ao28 t413.length co28] 28 (0, 0)) (bput BK418.out) NB418_400.out (by simp)); have n7_ := Aside0.mk (Kd.R_lower (Kd.R_new' (Kd.R_new' ho0 (Kd.R_lt ((Kd.roff1 HO406.out BK418.out (by decide))))) (Kd.R_lt ((Kd.roff1 HO415.out BK418.out (by decide))))) (below_size (by repeat (first | (with_reducible first | exact HB.out | apply h1 | apply h2 | apply h3 | refine h4 ?_ (IsS61.ge HI400.out) | refine h4 ?_ GE394.out | refine h4 ?_ GE395.out | refine h4 ?_ GE396.out | refine h4 ?_ GE409.out | refine h4 ?_ GE418.out) | exact HB.out)))); have n8_ := Aside0.mk (hb); have n9_ := Aside0.mk (hi); clear BK394; clear BK395; clear BK396; clear HO406; clear BK409; clear HO415; clear BK418; clear HB; clear HI400; have BK394 := n0_; have BK395 := n1_; have BK396 := n2_; have HO406 := n3_; have BK409 := n4_; have HO415 := n5_; have BK418 := n6_; have HO424 := n7_; have HB := n8_; have HI400 := n9_; clear n0_ n1_ n2_ n3_ n4_ n5_ n6_ n7_ n8_ n9_; (try clear hb); (try clear hb2); (try clear hk); (try clear hi); (try clear ho0)) | ((with_reducible refine gate_dst (N := 8) rfl ?_); refine box_event ?hg (N := 8) ?hd (cs := #[.int .i64 0, .int .i64 0, .float .f64 0, .slice none 0 0]) (t := 28) ?hr ?_; (case hd => rfl); (case hg => rfl); (case hr => first | (go_simp; done) | (go_simp; rfl)); intro gb427 hg w30 hbox hb; have n0_ := Aside0.mk (Kd.R_below (Kd.rup HO406.out) hb); have n1_ := Aside0.mk (Kd.R_below (Kd.rup HO415.out) hb); have n2_ := Aside0.mk (Kd.R_below (Kd.rup HO424.out) hb); have n3_ := Aside0.mk (blk_below (bup BK394.out) hb); have n4_ := Aside0.mk (blk_below (bup BK395.out) hb); have n5_ := Aside0.mk (blk_below (bup BK396.out) hb); have n6_ := Aside0.mk (IsS61.below (by repeat (first | (with_reducible first | exact HI400.out | apply IsS61.alloc | apply IsS61.drewN | apply IsS61.drew | apply IsS61.set_1 | apply IsS61.set_2 | refine IsS61.far ?_ NB400_394.out _ | refine IsS61.far ?_ NB400_395.out _ | refine IsS61.far ?_ NB400_396.out _ | refine IsS61.far ?_ NB400_409.out _ | refine IsS61.far ?_ NB400_418.out _) | exact HI400.out)) hb); have n7_ := Aside0.mk (blk_below (bup BK409.out) hb); have n8_ := Aside0.mk (blk_below (bup BK418.out) hb); have n9_ := Aside0.mk (below_step (by repeat (first | (with_reducible first | exact HB.out | apply h1 | apply h2 | apply h3 | refine h4 ?_ (IsS61.ge HI400.out) | refine h4 ?_ GE394.out | refine h4 ?_ GE395.out | refine h4 ?_ GE396.out | refine h4 ?_ GE409.out | refine h4 ?_ GE418.out) | exact HB.out)) hb); have n10_ := Aside0.mk (hbox); have n11_ := Geq.mk ((by rw [hg]; exact (below_size (by repeat (first | (with_reducible first | exact HB.out | apply h1 | apply h2 | apply h3 | refine h4 ?_ (IsS61.ge HI400.out) | refine h4 ?_ GE394.out | refine h4 ?_ GE395.out | refine h4 ?_ GE396.out | refine h4 ?_ GE409.out | refine h4 ?_ GE418.out) | exact HB.out))) : w.heap.size ≤ gb427)); have n12_ := Geq.mk ((by rw [hg]; exact (below_size (by repeat (first | (with_reducible first | exact HB.out | apply h1 | apply h2 | apply h3 | refine h4 ?_ (IsS61.ge HI400.out) | refine h4 ?_ GE394.out | refine h4 ?_ GE395.out | refine h4 ?_ GE396.out | refine h4 ?_ GE409.out | refine h4 ?_ GE418.out) | exact HB.out))) : w.heap.size ≤ gb427)); have n13_ := Neq.mk ((by rw [hg]; exact Nat.ne_of_lt (blk_lt (g := gb394) (o := .cells #[.int .i64 0, .int .i64 0, .float .f64 0, .slice none 0 0] 28 (0, 0)) (bup BK394.out)) : gb394 ≠ gb427)); have n14_ := Neq.mk ((by rw [hg]; exact Nat.ne_of_gt (blk_lt (g := gb394) (o := .cells #[.int .i64 0, .int .i64 0, .float .f64 0, .slice none 0 0] 28 (0, 0)) (bup BK394.out)) : gb427 ≠ gb394)); have n15_ := Neq.mk ((by rw [hg]; exact Nat.ne_of_lt (blk_lt (g := gb395) (o := .cells #[.int .i64 0, .int .i64 0, .float .f64 0, .slice none 0 0] 28 (0, 0)) (bup BK395.out)) : gb395 ≠ gb427)); have n16_ := Neq.mk ((by rw [hg]; exact Nat.ne_of_gt (blk_lt (g := gb395) (o := .cells #[.int .i64 0, .int .i64 0, .float .f64 0, .slice none 0 0] 28 (0, 0)) (bup BK395.out)) : gb427 ≠ gb395)); have n17_ := Neq.mk ((by rw [hg]; exact Nat.ne_of_lt (blk_lt (g := gb396) (o := .cells #[.int .i64 0, .int .i64 0, .float .f64 0, .slice none 0 0] 28 (0, 0)) (bup BK396.out)) : gb396 ≠ gb427)); have n18_ := Neq.mk ((by rw [hg]; exact Nat.ne_of_gt (blk_lt (g := gb396) (o := .cells #[.int .i64 0, .int .i64 0, .float .f64 0, .slice none 0 0] 28 (0, 0)) (bup BK396.out)) : gb427 ≠ gb396)); have n19_ := Neq.mk ((by rw [hg]; exact Nat.ne_of_lt (blk_lt (g := gb409) (o := .cells #[.int .i64 t401, .int .i64 t402, .float .f64 b403, .slice Ao19 t404.length co19] 28 (0, 0)) (bup BK409.out)) : gb409 ≠ gb427)); have n20_ := Neq.mk ((by rw [hg]; exact Nat.ne_of_gt (blk_lt (g := gb409) (o := .cells #[.int .i64 t401, .int .i64 t402, .float .f64 b403, .slice Ao19 t404.length co19] 28 (0, 0)) (bup BK409.out)) : gb427 ≠ gb409)); have n21_ := Neq.mk ((by rw [hg]; exact Nat.ne_of_lt (blk_lt (g := gb418) (o := .cells #[.int .i64 t410, .int .i64 t411, .float .f64 b412, .slice Ao28 t413.length co28] 28 (0, 0)) (bup BK418.out)) : gb418 ≠ gb427)); have n22_ := Neq.mk ((by rw [hg]; exact Nat.ne_of_gt (blk_lt (g := gb418) (o := .cells #[.int .i64 t410, .int .i64 t411, .float .f64 b412, .slice Ao28 t413.length co28] 28 (0, 0)) (bup BK418.out)) : gb427 ≠ gb418)); have n23_ := Aside0.mk ((by rw [hg]; exact Nat.ne_of_lt (IsS61.lt (show IsS61 w _ g400 t397 t425 t426 from by repeat (first | (with_reducible first | exact HI400.out | apply IsS61.alloc | apply IsS61.drewN | apply IsS61.drew | apply IsS61.set_1 | apply IsS61.set_2 | refine IsS61.far ?_ NB400_394.out _ | refine IsS61.far ?_ NB400_395.out _ | refine IsS61.far ?_ NB400_396.out _ | refine IsS61.far ?_ NB400_409.out _ | refine IsS61.far ?_ NB400_418.out _) | exact HI400.out))) : g400 ≠ gb427)); have n24_ := Aside0.mk ((by rw [hg]; exact Nat.ne_of_gt (IsS61.lt (show IsS61 w _ g400 t397 t425 t426 from by repeat (first | (with_reducible first | exact HI400.out | apply IsS61.alloc | apply IsS61.drewN | apply IsS61.drew | apply IsS61.set_1 | apply IsS61.set_2 | refine IsS61.far ?_ NB400_394.out _ | refine IsS61.far ?_ NB400_395.out _ | refine IsS61.far ?_ NB400_396.out _ | refine IsS61.far ?_ NB400_409.out _ | refine IsS61.far ?_ NB400_418.out _) | exact HI400.out))) : gb427 ≠ g400)); clear HO406; clear HO415; clear HO424; clear BK394; clear BK395; clear BK396; clear HI400; clear BK409; clear BK418; clear HB; have HO406 := n0_; have HO415 := n1_; have HO424 := n2_; have BK394 := n3_; have BK395 := n4_; have BK396 := n5_; have HI400 := n6_; have BK409 := n7_; have BK418 := n8_; have HB := n9_; have BK427 := n10_; have GW427 := n11_; have GE427 := n12_; have NB394_427 := n13_; have NB427_394 := n14_; have NB395_427 := n15_; have NB427_395 := n16_; have NB396_427 := n17_; have NB427_396 := n18_; have NB409_427 := n19_; have NB427_409 := n20_; have NB418_427 := n21_; have NB427_418 := n22_; have NB400_427 := n23_; have NB427_400 := n24_; clear n0_ n1_ n2_ n3_ n4_ n5_ n6_ n7_ n8_ n9_ n10_ n11_ n12_ n13_ n14_ n15_ n16_ n17_ n18_ n19_ n20_ n21_ n22_ n23_ n24_; clear hb hbox hg; have hnb31 := NB427_394.out; have hnc31 := NB394_427.out; have hnb32 := NB427_395.out; have hnc32 := NB395_427.out; have hnb33 := NB427_396.out; have hnc33 := NB396_427.out; have hnb34 := NB427_409.out; have hnc34 := NB409_427.out; have hnb35 := NB427_418.out; have hnc35 := NB418_427.out; have hnb36 := NB427_400.out; have hnc36 := NB400_427.out; obtain ⟨hcz37_0, hcz37_1, hcz37_2, hcz37_3⟩ := blk_cells4 BK427.out; obtain ⟨hfz37_0, hfz37_1, hfz37_2, hfz37_3⟩ := blk_frozens4 BK427.out; obtain ⟨Ao38, co38, eo38⟩ := Kd.R_slice HO424.out; subst eo38) | ((with_reducible refine gate_callee (f := 44) rfl ?_); refine goesL_ (some 18) rfl rfl Try.func44 (by kernel_rfl) rfl #[.pointer (some ⟨g400, 0, none⟩), .int .i64 6] rfl (by (try simp only [List.map_toArray, List.map_cons, List.map_nil]); first | done | rfl) ?_; (with_reducible refine (spec_l1Once.calls g400 t397 t425 t426 6 t428 t429 t430 w _ ?side1 ?side2 A6.out).mono ?_); (case side1 => repeat (first | (with_reducible first | exact HI400.out | apply IsS61.alloc | apply IsS61.drewN | apply IsS61.drew | apply IsS61.set_1 | apply IsS61.set_2 | refine IsS61.far ?_ NB400_394.out _ | refine IsS61.far ?_ NB400_395.out _ | refine IsS61.far ?_ NB400_396.out _ | refine IsS61.far ?_ NB400_409.out _ | refine IsS61.far ?_ NB400_418.out _ | refine IsS61.far ?_ NB400_427.out _) | exact HI400.out)); (case side2 => repeat (first | (with_reducible first | exact HB.out | apply h1 | apply h2 | apply h3 | refine h4 ?_ (IsS61.ge HI400.out) | refine h4 ?_ GE394.out | refine h4 ?_ GE395.out | refine h4 ?_ GE396.out | refine h4 ?_ GE409.out | refine h4 ?_ GE418.out | refine h4 ?_ GE427.out) | exact HB.out)); rintro e w39 ⟨rfl, hi, hb, hk⟩; refine ⟨_, rfl, ?_⟩; have n0_ := Aside0.mk (KeepBut.blk hk (g' := gb394) (o := .cells #[.int .i64 0, .int .i64 0, .float .f64 0, .slice none 0 0] 28 (0, 0)) (bput BK394.out) NB394_400.out (by simp)); have n1_ := Aside0.mk (KeepBut.blk hk (g' := gb395) (o := .cells #[.int .i64 0, .int .i64 0, .float .f64 0, .slice none 0 0] 28 (0, 0)) (bput BK395.out) NB395_400.out (by simp)); have n2_ := Aside0.mk (KeepBut.blk hk (g' := gb396) (o := .cells #[.int .i64 0, .int .i64 0, .float .f64 0, .slice none 0 0] 28 (0, 0)) (bput BK396.out) NB396_400.out (by simp)); have n3_ := Aside0.mk (Kd.R_mono (Kd.R_keep (IsS61.apart (show IsS61 w _ g400 t397 t425 t426 from by repeat (first | (with_reducible first | exact HI400.out | apply IsS61.alloc | apply IsS61.drewN | apply IsS61.drew | apply IsS61.set_1 | apply IsS61.set_2 | refine IsS61.far ?_ NB400_394.out _ | refine IsS61.far ?_ NB400_395.out _ | refine IsS61.far ?_ NB400_396.out _ | refine IsS61.far ?_ NB400_409.out _ | refine IsS61.far ?_ NB400_418.out _ | refine IsS61.far ?_ NB400_427.out _) | exact HI400.out)) ((Kd.roff1 HO406.out BK427.out (by decide))) (by decide)) hk (fun _ h => h.2)) (fun _ h => h.1)); have n4_ := Aside0.mk (KeepBut.blk hk (g' := gb409) (o := .cells #[.int .i64 t401, .int .i64 t402, .float .f64 b403, .slice Ao19 t404.length co19] 28 (0, 0)) (bput BK409.out) NB409_400.out (by simp)); have n5_ := Aside0.mk (Kd.R_mono (Kd.R_keep (IsS61.apart (show IsS61 w _ g400 t397 t425 t426 from by repeat (first | (with_reducible first | exact HI400.out | apply IsS61.alloc | apply IsS61.drewN | apply IsS61.drew | apply IsS61.set_1 | apply IsS61.set_2 | refine IsS61.far ?_ NB400_394.out _ | refine IsS61.far ?_ NB400_395.out _ | refine IsS61.far ?_ NB400_396.out _ | refine IsS61.far ?_ NB400_409.out _ | refine IsS61.far ?_ NB400_418.out _ | refine IsS61.far ?_ NB400_427.out _) | exact HI400.out)) ((Kd.roff1 HO415.out BK427.out (by decide))) (by decide)) hk (fun _ h => h.2)) (fun _ h => h.1)); have n6_ := Aside0.mk (KeepBut.blk hk (g' := gb418) (o := .cells #[.int .i64 t410, .int .i64 t411, .float .f64 b412, .slice Ao28 t413.length co28] 28 (0, 0)) (bput BK418.out) NB418_400.out (by simp)); have n7_ := Aside0.mk (Kd.R_mono (Kd.R_keep (IsS61.apart (show IsS61 w _ g400 t397 t425 t426 from by repeat (first | (with_reducible first | exact HI400.out | apply IsS61.alloc | apply IsS61.drewN | apply IsS61.drew | apply IsS61.set_1 | apply IsS61.set_2 | refine IsS61.far ?_ NB400_394.out _ | refine IsS61.far ?_ NB400_395.out _ | refine IsS61.far ?_ NB400_396.out _ | refine IsS61.far ?_ NB400_409.out _ | refine IsS61.far ?_ NB400_418.out _ | refine IsS61.far ?_ NB400_427.out _) | exact HI400.out)) ((Kd.roff1 HO424.out BK427.out (by decide))) (by decide)) hk (fun _ h => h.2)) (fun _ h => h.1)); have n8_ := Aside0.mk (KeepBut.blk hk (g' := gb427) (o := .cells #[.int .i64 t419, .int .i64 t420, .float .f64 b421, .slice Ao38 t422.length co38] 28 (0, 0)) (bput BK427.out) NB427_400.out (by simp)); have n9_ := Aside0.mk (hb); have n10_ := Aside0.mk (hi); clear BK394; clear BK395; clear BK396; clear HO406; clear BK409; clear HO415; clear BK418; clear HO424; clear BK427; clear HB; clear HI400; have BK394 := n0_; have BK395 := n1_; have BK396 := n2_; have HO406 := n3_; have BK409 := n4_; have HO415 := n5_; have BK418 := n6_; have HO424 := n7_; have BK427 := n8_; have HB := n9_; have HI400 := n10_; clear n0_ n1_ n2_ n3_ n4_ n5_ n6_ n7_ n8_ n9_ n10_; (try clear hb); (try clear hb2); (try clear hk); (try clear hi)))
 (try simp only [Act.put, List.setIfInBounds_toArray, List.set_cons_zero, List.set_cons_succ])
 go_cut [] (fun wc => ∃ (kq : Nat) (x401001_6 : Int) (x401002_6 : Int) (x428000_6 : Int) (x428001_6 : Int) (b428002_6 : Nat) (x428003_6 : List Int) (u428003 : Value), Aside0 (spec_DrawInSpan.j0 kq t397 x401001_6 x401002_6 t401 t402 (cn b403) t404 t410 t411 (cn b412) t413 x428000_6 x428001_6 (cn b428002_6) x428003_6 = some (r1, r2, r3, r4, r5, r6, r7, r8, r9, r10, r11, r12)) ∧ Aside0 (kq ≤ k) ∧ Aside0 (Kd.R (Kd.int .u8) 5 wc w.heap.size (fun k_ => some k_ ≠ ((.slice Ao28 t413.length co28) : Value).ownBlock ∧ some k_ ≠ (u428003 : Value).ownBlock) (.slice Ao19 t404.length co19) t404) ∧ Aside0 (Kd.R (Kd.int .u8) 5 wc w.heap.size (fun k_ => some k_ ≠ ((.slice Ao19 t404.length co19) : Value).ownBlock ∧ some k_ ≠ (u428003 : Value).ownBlock) (.slice Ao28 t413.length co28) t413) ∧ Aside0 (Kd.R (Kd.int .u8) 5 wc w.heap.size (fun k_ => some k_ ≠ ((.slice Ao19 t404.length co19) : Value).ownBlock ∧ some k_ ≠ ((.slice Ao28 t413.length co28) : Value).ownBlock) u428003 x428003_6) ∧ Aside0 (wc.heap[gb394]? = some (.cells #[.int .i64 0, .int .i64 0, .float .f64 0, (.slice none 0 0)] 28 (0, 0))) ∧ Aside0 (wc.heap[gb395]? = some (.cells #[.int .i64 0, .int .i64 0, .float .f64 0, (.slice none 0 0)] 28 (0, 0))) ∧ Aside0 (wc.heap[gb396]? = some (.cells #[.int .i64 0, .int .i64 0, .float .f64 0, (.slice none 0 0)] 28 (0, 0))) ∧ Aside0 (wc.heap[gb409]? = some (.cells #[.int .i64 t401, .int .i64 t402, .float .f64 b403, (.slice Ao19 t404.length co19)] 28 (0, 0))) ∧ Aside0 (wc.heap[gb418]? = some (.cells #[.int .i64 t410, .int .i64 t411, .float .f64 b412, (.slice Ao28 t413.length co28)] 28 (0, 0))) ∧ Aside0 (wc.heap[gb427]? = some (.cells #[.int .i64 x428000_6, .int .i64 x428001_6, .float .f64 b428002_6, u428003] 28 (0, 0))) ∧ Aside0 (IsS61 w wc g400 t397 x401001_6 x401002_6) ∧ Aside0 (Below w.heap.size w wc) ∧ Aside0 (b428002_6 < 2 ^ 64))
 case first =>
  have H := HC7.out
  clear HC7
  by_cases c40 : t428 = true
  ·subst c40
   rw [if_pos rfl] at H
   (try dsimp only at H)
   replace H := Option.bind_eq_some_iff.mp H
   obtain ⟨⟨t431, t432, t433, t434, t437, t438⟩, A410, H⟩ := H
   (try dsimp only at H)
   have A41 := Aside0.mk A410
   clear A410
   have H' := Aside0.mk H
   clear H
   go_wp2_with (first | ((with_reducible refine gate_callee (f := 45) rfl ?_); refine goesL_ (some 20) rfl rfl Try.func45 (by kernel_rfl) rfl #[.pointer (some ⟨g400, 0, none⟩)] rfl (by (try simp only [List.map_toArray, List.map_cons, List.map_nil]); first | done | rfl) ?_; (with_reducible refine (spec_l3any.callsC k g400 t397 t429 t430 t431 t432 t433 t434 t437 t438 w _ ?side1 ?side2 A41.out).mono ?_); (case side1 => repeat (first | (with_reducible first | exact HI400.out | apply IsS61.alloc | apply IsS61.drewN | apply IsS61.drew | apply IsS61.set_1 | apply IsS61.set_2 | refine IsS61.far ?_ NB400_394.out _ | refine IsS61.far ?_ NB400_395.out _ | refine IsS61.far ?_ NB400_396.out _ | refine IsS61.far ?_ NB400_409.out _ | refine IsS61.far ?_ NB400_418.out _ | refine IsS61.far ?_ NB400_427.out _) | exact HI400.out)); (case side2 => repeat (first | (with_reducible first | exact HB.out | apply h1 | apply h2 | apply h3 | refine h4 ?_ (IsS61.ge HI400.out) | refine h4 ?_ GE394.out | refine h4 ?_ GE395.out | refine h4 ?_ GE396.out | refine h4 ?_ GE409.out | refine h4 ?_ GE418.out | refine h4 ?_ GE427.out) | exact HB.out)); rintro e w42 ⟨b433, v435, rfl, ho0, hi, hb, hk, ⟨⟨hcnb433, hltb433⟩⟩⟩; refine ⟨_, rfl, ?_⟩; have LTb433 := Aside0.mk hltb433; clear hltb433; subst hcnb433; have n0_ := Aside0.mk (KeepBut.blk hk (g' := gb394) (o := .cells #[.int .i64 0, .int .i64 0, .float .f64 0, .slice none 0 0] 28 (0, 0)) (bup BK394.out) NB394_400.out (by simp)); have n1_ := Aside0.mk (KeepBut.blk hk (g' := gb395) (o := .cells #[.int .i64 0, .int .i64 0, .float .f64 0, .slice none 0 0] 28 (0, 0)) (bup BK395.out) NB395_400.out (by simp)); have n2_ := Aside0.mk (KeepBut.blk hk (g' := gb396) (o := .cells #[.int .i64 0, .int .i64 0, .float .f64 0, .slice none 0 0] 28 (0, 0)) (bup BK396.out) NB396_400.out (by simp)); have n3_ := Aside0.mk (Kd.R_mono (Kd.R_told (Kd.R_oldK (IsS61.apart (show IsS61 w _ g400 t397 t429 t430 from by repeat (first | (with_reducible first | exact HI400.out | apply IsS61.alloc | apply IsS61.drewN | apply IsS61.drew | apply IsS61.set_1 | apply IsS61.set_2 | refine IsS61.far ?_ NB400_394.out _ | refine IsS61.far ?_ NB400_395.out _ | refine IsS61.far ?_ NB400_396.out _ | refine IsS61.far ?_ NB400_409.out _ | refine IsS61.far ?_ NB400_418.out _ | refine IsS61.far ?_ NB400_427.out _) | exact HI400.out)) (Kd.rup HO406.out) (by decide)) hk) (Kd.R_base ho0)) (fun _ h_ => h_.1)); have n4_ := Aside0.mk (KeepBut.blk hk (g' := gb409) (o := .cells #[.int .i64 t401, .int .i64 t402, .float .f64 b403, .slice Ao19 t404.length co19] 28 (0, 0)) (bup BK409.out) NB409_400.out (by simp)); have n5_ := Aside0.mk (Kd.R_mono (Kd.R_told (Kd.R_oldK (IsS61.apart (show IsS61 w _ g400 t397 t429 t430 from by repeat (first | (with_reducible first | exact HI400.out | apply IsS61.alloc | apply IsS61.drewN | apply IsS61.drew | apply IsS61.set_1 | apply IsS61.set_2 | refine IsS61.far ?_ NB400_394.out _ | refine IsS61.far ?_ NB400_395.out _ | refine IsS61.far ?_ NB400_396.out _ | refine IsS61.far ?_ NB400_409.out _ | refine IsS61.far ?_ NB400_418.out _ | refine IsS61.far ?_ NB400_427.out _) | exact HI400.out)) (Kd.rup HO415.out) (by decide)) hk) (Kd.R_base ho0)) (fun _ h_ => h_.1)); have n6_ := Aside0.mk (KeepBut.blk hk (g' := gb418) (o := .cells #[.int .i64 t410, .int .i64 t411, .float .f64 b412, .slice Ao28 t413.length co28] 28 (0, 0)) (bup BK418.out) NB418_400.out (by simp)); have n7_ := Aside0.mk (Kd.R_mono (Kd.R_told (Kd.R_oldK (IsS61.apart (show IsS61 w _ g400 t397 t429 t430 from by repeat (first | (with_reducible first | exact HI400.out | apply IsS61.alloc | apply IsS61.drewN | apply IsS61.drew | apply IsS61.set_1 | apply IsS61.set_2 | refine IsS61.far ?_ NB400_394.out _ | refine IsS61.far ?_ NB400_395.out _ | refine IsS61.far ?_ NB400_396.out _ | refine IsS61.far ?_ NB400_409.out _ | refine IsS61.far ?_ NB400_418.out _ | refine IsS61.far ?_ NB400_427.out _) | exact HI400.out)) (Kd.rup HO424.out) (by decide)) hk) (Kd.R_base ho0)) (fun _ h_ => h_.1)); have n8_ := Aside0.mk (KeepBut.blk hk (g' := gb427) (o := .cells #[.int .i64 t419, .int .i64 t420, .float .f64 b421, .slice Ao38 t422.length co38] 28 (0, 0)) (bup BK427.out) NB427_400.out (by simp)); have n9_ := Aside0.mk (Kd.R_lower (Kd.R_new' (Kd.R_new' (Kd.R_new' ho0 (Kd.R_lt (Kd.rup HO406.out))) (Kd.R_lt (Kd.rup HO415.out))) (Kd.R_lt (Kd.rup HO424.out))) (below_size (by repeat (first | (with_reducible first | exact HB.out | apply h1 | apply h2 | apply h3 | refine h4 ?_ (IsS61.ge HI400.out) | refine h4 ?_ GE394.out | refine h4 ?_ GE395.out | refine h4 ?_ GE396.out | refine h4 ?_ GE409.out | refine h4 ?_ GE418.out | refine h4 ?_ GE427.out) | exact HB.out)))); have n10_ := Aside0.mk (hb); have n11_ := Aside0.mk (hi); clear BK394; clear BK395; clear BK396; clear HO406; clear BK409; clear HO415; clear BK418; clear HO424; clear BK427; clear HB; clear HI400; have BK394 := n0_; have BK395 := n1_; have BK396 := n2_; have HO406 := n3_; have BK409 := n4_; have HO415 := n5_; have BK418 := n6_; have HO424 := n7_; have BK427 := n8_; have HO436 := n9_; have HB := n10_; have HI400 := n11_; clear n0_ n1_ n2_ n3_ n4_ n5_ n6_ n7_ n8_ n9_ n10_ n11_; (try clear hb); (try clear hb2); (try clear hk); (try clear hi); (try clear ho0); have hnb43 := NB427_394.out; have hnc43 := NB394_427.out; have hnb44 := NB427_395.out; have hnc44 := NB395_427.out; have hnb45 := NB427_396.out; have hnc45 := NB396_427.out; have hnb46 := NB427_409.out; have hnc46 := NB409_427.out; have hnb47 := NB427_418.out; have hnc47 := NB418_427.out; have hnb48 := NB427_400.out; have hnc48 := NB400_427.out; obtain ⟨hcz49_0, hcz49_1, hcz49_2, hcz49_3⟩ := blk_cells4 BK427.out; obtain ⟨hfz49_0, hfz49_1, hfz49_2, hfz49_3⟩ := blk_frozens4 BK427.out; obtain ⟨Ao50, co50, eo50⟩ := Kd.R_slice HO436.out; subst eo50))
   go_meet
   case rel => exact ⟨_, (t437), (t438), (t431), (t432), (b433), (t434), (.slice Ao50 t434.length co50), H', ⟨by first | omega | exact Nat.le_refl _⟩, ⟨by exact Kd.rup (Kd.R_mono (Kd.R_far (p := ⟨gb427, 3, none⟩) (Kd.R_far (p := ⟨gb427, 2, none⟩) (Kd.R_far (p := ⟨gb427, 1, none⟩) (Kd.R_far (p := ⟨gb427, 0, none⟩) (Kd.R_types HO406.out BK427.out (by decide)) (fun _ hk => hk.2) (.int .i64 t431)) (fun _ hk => hk.2) (.int .i64 t432)) (fun _ hk => hk.2) (.float .f64 b433)) (fun _ hk => hk.2) (.slice Ao50 t434.length co50)) (fun _ hk => ⟨hk.1.1.1.2, hk.1.2⟩))⟩, ⟨by exact Kd.rup (Kd.R_mono (Kd.R_far (p := ⟨gb427, 3, none⟩) (Kd.R_far (p := ⟨gb427, 2, none⟩) (Kd.R_far (p := ⟨gb427, 1, none⟩) (Kd.R_far (p := ⟨gb427, 0, none⟩) (Kd.R_types HO415.out BK427.out (by decide)) (fun _ hk => hk.2) (.int .i64 t431)) (fun _ hk => hk.2) (.int .i64 t432)) (fun _ hk => hk.2) (.float .f64 b433)) (fun _ hk => hk.2) (.slice Ao50 t434.length co50)) (fun _ hk => ⟨hk.1.1.1.2, hk.1.2⟩))⟩, ⟨by exact Kd.rup (Kd.R_mono (Kd.R_far (p := ⟨gb427, 3, none⟩) (Kd.R_far (p := ⟨gb427, 2, none⟩) (Kd.R_far (p := ⟨gb427, 1, none⟩) (Kd.R_far (p := ⟨gb427, 0, none⟩) (Kd.R_types HO436.out BK427.out (by decide)) (fun _ hk => hk.2) (.int .i64 t431)) (fun _ hk => hk.2) (.int .i64 t432)) (fun _ hk => hk.2) (.float .f64 b433)) (fun _ hk => hk.2) (.slice Ao50 t434.length co50)) (fun _ hk => ⟨hk.1.1.1.2, hk.1.1.2⟩))⟩, ⟨bput BK394.out⟩, ⟨bput BK395.out⟩, ⟨bput BK396.out⟩, ⟨bput BK409.out⟩, ⟨bput BK418.out⟩, ⟨bput BK427.out⟩, ⟨by repeat (first | (with_reducible first | exact HI400.out | apply IsS61.alloc | apply IsS61.drewN | apply IsS61.drew | apply IsS61.set_1 | apply IsS61.set_2 | refine IsS61.far ?_ NB400_394.out _ | refine IsS61.far ?_ NB400_395.out _ | refine IsS61.far ?_ NB400_396.out _ | refine IsS61.far ?_ NB400_409.out _ | refine IsS61.far ?_ NB400_418.out _ | refine IsS61.far ?_ NB400_427.out _) | exact HI400.out)⟩, ⟨by repeat (first | (with_reducible first | exact HB.out | apply h1 | apply h2 | apply h3 | refine h4 ?_ (IsS61.ge HI400.out) | refine h4 ?_ GE394.out | refine h4 ?_ GE395.out | refine h4 ?_ GE396.out | refine h4 ?_ GE409.out | refine h4 ?_ GE418.out | refine h4 ?_ GE427.out) | exact HB.out)⟩, LTb433⟩
  ·replace c40 := Bool.eq_false_iff.mpr c40
   subst c40
   rw [if_neg (show ¬ (false = true) by decide)] at H
   (try dsimp only at H)
   have H' := Aside0.mk H
   clear H
   go_wp2
   go_meet
   case rel => exact ⟨_, (t429), (t430), (t419), (t420), (b421), (t422), (.slice Ao38 t422.length co38), H', ⟨by first | omega | exact Nat.le_refl _⟩, ⟨by exact Kd.rup (Kd.R_mono HO406.out (fun _ hk => ⟨hk.1.2, hk.2⟩))⟩, ⟨by exact Kd.rup (Kd.R_mono HO415.out (fun _ hk => ⟨hk.1.2, hk.2⟩))⟩, ⟨by exact Kd.rup (Kd.R_mono HO424.out (fun _ hk => ⟨hk.1.2, hk.2⟩))⟩, ⟨by exact bup BK394.out⟩, ⟨by exact bup BK395.out⟩, ⟨by exact bup BK396.out⟩, ⟨by exact bup BK409.out⟩, ⟨by exact bup BK418.out⟩, ⟨by exact bup BK427.out⟩, ⟨by repeat (first | (with_reducible first | exact HI400.out | apply IsS61.alloc | apply IsS61.drewN | apply IsS61.drew | apply IsS61.set_1 | apply IsS61.set_2 | refine IsS61.far ?_ NB400_394.out _ | refine IsS61.far ?_ NB400_395.out _ | refine IsS61.far ?_ NB400_396.out _ | refine IsS61.far ?_ NB400_409.out _ | refine IsS61.far ?_ NB400_418.out _ | refine IsS61.far ?_ NB400_427.out _) | exact HI400.out)⟩, ⟨by repeat (first | (with_reducible first | exact HB.out | apply h1 | apply h2 | apply h3 | refine h4 ?_ (IsS61.ge HI400.out) | refine h4 ?_ GE394.out | refine h4 ?_ GE395.out | refine h4 ?_ GE396.out | refine h4 ?_ GE409.out | refine h4 ?_ GE418.out | refine h4 ?_ GE427.out) | exact HB.out)⟩, LTb421⟩
 case rest =>
  clear HC7
  try clear c1
  try clear c2
  try clear p2
  try clear c3
  try clear c4
  try clear c14
  try clear c15
  try clear c16
  try clear c17
  try clear c22
  try clear c23
  try clear c24
  try clear c25
  try clear c26
  try clear c31
  try clear c32
  try clear c33
  try clear c34
  try clear c35
  try clear c36
  try clear c40
  try clear c42
  try clear c43
  try clear c44
  try clear c45
  try clear c46
  try clear c47
  try clear c48
  try clear hcz18_0
  try clear hcz18_1
  try clear hcz18_2
  try clear hcz18_3
  try clear hcz27_0
  try clear hcz27_1
  try clear hcz27_2
  try clear hcz27_3
  try clear hcz37_0
  try clear hcz37_1
  try clear hcz37_2
  try clear hcz37_3
  try clear hcz49_0
  try clear hcz49_1
  try clear hcz49_2
  try clear hcz49_3
  try clear hfz18_0
  try clear hfz18_1
  try clear hfz18_2
  try clear hfz18_3
  try clear hfz27_0
  try clear hfz27_1
  try clear hfz27_2
  try clear hfz27_3
  try clear hfz37_0
  try clear hfz37_1
  try clear hfz37_2
  try clear hfz37_3
  try clear hfz49_0
  try clear hfz49_1
  try clear hfz49_2
  try clear hfz49_3
  obtain ⟨kq, x401001_6, x401002_6, x428000_6, x428001_6, b428002_6, x428003_6, u428003, HA, HJ6, HO_410003, HO_419003, HO_428003, BK394, BK395, BK396, BK409, BK418, BK427, HI400, HB, LTb428002_6⟩ := hcut
  cases kq with
  | zero => exact absurd HA.out (by simp [spec_DrawInSpan.j0])
  | succ kj6 =>
   have H := HA.out
   clear HA
   simp only [spec_DrawInSpan.j0] at H
   replace H := Option.bind_eq_some_iff.mp H
   obtain ⟨⟨t439, t440, t441⟩, A510, H⟩ := H
   (try dsimp only at H)
   have A51 := Aside0.mk A510
   clear A510
   repeat (first | ((fail_if_success (with_reducible refine gate_callee (f := 44) rfl ?_)); first | go_values | go_skip | go_guarded | go_step | go_upon | go_back | (simp only [Int.not_lt, Int.not_le] at *; go_simp)))
   (with_reducible refine gate_callee (f := 44) rfl ?_); refine goesL_ (some 22) rfl rfl Try.func44 (by kernel_rfl) rfl #[.pointer (some ⟨g400, 0, none⟩), .int .i64 6] rfl (by (try simp only [List.map_toArray, List.map_cons, List.map_nil]); first | done | rfl) ?_; (with_reducible refine (spec_l1Once.calls g400 t397 x401001_6 x401002_6 6 t439 t440 t441 w _ ?side1 ?side2 A51.out).mono ?_); (case side1 => repeat (first | (with_reducible first | exact HI400.out | apply IsS61.alloc | apply IsS61.drewN | apply IsS61.drew | apply IsS61.set_1 | apply IsS61.set_2 | refine IsS61.far ?_ NB400_394.out _ | refine IsS61.far ?_ NB400_395.out _ | refine IsS61.far ?_ NB400_396.out _ | refine IsS61.far ?_ NB400_409.out _ | refine IsS61.far ?_ NB400_418.out _ | refine IsS61.far ?_ NB400_427.out _) | exact HI400.out)); (case side2 => repeat (first | (with_reducible first | exact HB.out | apply h1 | apply h2 | apply h3 | refine h4 ?_ (IsS61.ge HI400.out) | refine h4 ?_ GE394.out | refine h4 ?_ GE395.out | refine h4 ?_ GE396.out | refine h4 ?_ GE409.out | refine h4 ?_ GE418.out | refine h4 ?_ GE427.out) | exact HB.out)); rintro e w54 ⟨rfl, hi, hb, hk⟩; refine ⟨_, rfl, ?_⟩; have n0_ := Aside0.mk (Kd.R_mono (Kd.R_keep (IsS61.apart (show IsS61 w _ g400 t397 x401001_6 x401002_6 from by repeat (first | (with_reducible first | exact HI400.out | apply IsS61.alloc | apply IsS61.drewN | apply IsS61.drew | apply IsS61.set_1 | apply IsS61.set_2 | refine IsS61.far ?_ NB400_394.out _ | refine IsS61.far ?_ NB400_395.out _ | refine IsS61.far ?_ NB400_396.out _ | refine IsS61.far ?_ NB400_409.out _ | refine IsS61.far ?_ NB400_418.out _ | refine IsS61.far ?_ NB400_427.out _) | exact HI400.out)) (Kd.rup HO_410003.out) (by decide)) hk (fun _ h => h.2)) (fun _ h => h.1)); have n1_ := Aside0.mk (Kd.R_mono (Kd.R_keep (IsS61.apart (show IsS61 w _ g400 t397 x401001_6 x401002_6 from by repeat (first | (with_reducible first | exact HI400.out | apply IsS61.alloc | apply IsS61.drewN | apply IsS61.drew | apply IsS61.set_1 | apply IsS61.set_2 | refine IsS61.far ?_ NB400_394.out _ | refine IsS61.far ?_ NB400_395.out _ | refine IsS61.far ?_ NB400_396.out _ | refine IsS61.far ?_ NB400_409.out _ | refine IsS61.far ?_ NB400_418.out _ | refine IsS61.far ?_ NB400_427.out _) | exact HI400.out)) (Kd.rup HO_419003.out) (by decide)) hk (fun _ h => h.2)) (fun _ h => h.1)); have n2_ := Aside0.mk (Kd.R_mono (Kd.R_keep (IsS61.apart (show IsS61 w _ g400 t397 x401001_6 x401002_6 from by repeat (first | (with_reducible first | exact HI400.out | apply IsS61.alloc | apply IsS61.drewN | apply IsS61.drew | apply IsS61.set_1 | apply IsS61.set_2 | refine IsS61.far ?_ NB400_394.out _ | refine IsS61.far ?_ NB400_395.out _ | refine IsS61.far ?_ NB400_396.out _ | refine IsS61.far ?_ NB400_409.out _ | refine IsS61.far ?_ NB400_418.out _ | refine IsS61.far ?_ NB400_427.out _) | exact HI400.out)) (Kd.rup HO_428003.out) (by decide)) hk (fun _ h => h.2)) (fun _ h => h.1)); have n3_ := Aside0.mk (KeepBut.blk hk (g' := gb394) (o := .cells #[.int .i64 0, .int .i64 0, .float .f64 0, .slice none 0 0] 28 (0, 0)) (bup BK394.out) NB394_400.out (by simp)); have n4_ := Aside0.mk (KeepBut.blk hk (g' := gb395) (o := .cells #[.int .i64 0, .int .i64 0, .float .f64 0, .slice none 0 0] 28 (0, 0)) (bup BK395.out) NB395_400.out (by simp)); have n5_ := Aside0.mk (KeepBut.blk hk (g' := gb396) (o := .cells #[.int .i64 0, .int .i64 0, .float .f64 0, .slice none 0 0] 28 (0, 0)) (bup BK396.out) NB396_400.out (by simp)); have n6_ := Aside0.mk (KeepBut.blk hk (g' := gb409) (o := .cells #[.int .i64 t401, .int .i64 t402, .float .f64 b403, .slice Ao19 t404.length co19] 28 (0, 0)) (bup BK409.out) NB409_400.out (by simp)); have n7_ := Aside0.mk (KeepBut.blk hk (g' := gb418) (o := .cells #[.int .i64 t410, .int .i64 t411, .float .f64 b412, .slice Ao28 t413.length co28] 28 (0, 0)) (bup BK418.out) NB418_400.out (by simp)); have n8_ := Aside0.mk (KeepBut.blk hk (g' := gb427) (o := .cells #[.int .i64 x428000_6, .int .i64 x428001_6, .float .f64 b428002_6, u428003] 28 (0, 0)) (bup BK427.out) NB427_400.out (by simp)); have n9_ := Aside0.mk (hb); have n10_ := Aside0.mk (hi); clear HO_410003; clear HO_419003; clear HO_428003; clear BK394; clear BK395; clear BK396; clear BK409; clear BK418; clear BK427; clear HB; clear HI400; have HO_410003 := n0_; have HO_419003 := n1_; have HO_428003 := n2_; have BK394 := n3_; have BK395 := n4_; have BK396 := n5_; have BK409 := n6_; have BK418 := n7_; have BK427 := n8_; have HB := n9_; have HI400 := n10_; clear n0_ n1_ n2_ n3_ n4_ n5_ n6_ n7_ n8_ n9_ n10_; (try clear hb); (try clear hb2); (try clear hk)
   by_cases c52 : t439 = true
   ·subst c52
    rw [if_pos rfl] at H
    (try dsimp only at H)
    replace H := Option.bind_eq_some_iff.mp H
    obtain ⟨⟨t442, t443, t444, t445⟩, A530, H⟩ := H
    (try dsimp only at H)
    have A53 := Aside0.mk A530
    clear A530
    simp only [Option.some.injEq, Prod.mk.injEq] at H
    obtain ⟨rfl, rfl, rfl, rfl, rfl, rfl, rfl, rfl, rfl, rfl, rfl, rfl⟩ := H
    (try clear hi); have hnb55 := NB427_394.out; have hnc55 := NB394_427.out; have hnb56 := NB427_395.out; have hnc56 := NB395_427.out; have hnb57 := NB427_396.out; have hnc57 := NB396_427.out; have hnb58 := NB427_409.out; have hnc58 := NB409_427.out; have hnb59 := NB427_418.out; have hnc59 := NB418_427.out; have hnb60 := NB427_400.out; have hnc60 := NB400_427.out; obtain ⟨hcz61_0, hcz61_1, hcz61_2, hcz61_3⟩ := blk_cells4 BK427.out; obtain ⟨hfz61_0, hfz61_1, hfz61_2, hfz61_3⟩ := blk_frozens4 BK427.out; obtain ⟨Ao62, co62, eo62⟩ := Kd.R_slice HO_428003.out; subst eo62
    try go_wp2_with (first | ((with_reducible refine gate_callee (f := 46) rfl ?_); refine goesL_ (some 24) rfl rfl Try.func46 (by kernel_rfl) rfl #[.agg #[.int .i64 x428000_6, .int .i64 x428001_6, .float .f64 b428002_6, .slice Ao62 x428003_6.length co62]] rfl (by (try simp only [List.map_toArray, List.map_cons, List.map_nil]); first | done | rfl) ?_; (with_reducible refine (spec_l3copy.callsC x428000_6 x428001_6 b428002_6 _ _ x428003_6 t442 t443 t444 t445 _ ?side1 ?side2 LTb428002_6.out A53.out).mono ?_); (case side1 => repeat (first | exact (Kd.R_reads' HO_428003.out).2.2 | (with_reducible refine Kd.C_alloc ?_ _) | (with_reducible refine Kd.C_drewN ?_ _) | (with_reducible refine Kd.C_drew ?_))); (case side2 => exact (Kd.R_reads' HO_428003.out).2.1); rintro e w63 ⟨b444, v446, rfl, ho0, hb, ⟨⟨hcnb444, hltb444⟩⟩⟩; refine ⟨_, rfl, ?_⟩; have LTb444 := Aside0.mk hltb444; clear hltb444; subst hcnb444; have n0_ := Aside0.mk (Kd.R_elder' (Kd.rup HO_410003.out) (Kd.R_base ho0) hb); have n1_ := Aside0.mk (Kd.R_elder' (Kd.rup HO_419003.out) (Kd.R_base ho0) hb); have n2_ := Aside0.mk (Kd.R_elder' (Kd.rup HO_428003.out) (Kd.R_base ho0) hb); have n3_ := Aside0.mk (Kd.R_lower (Kd.R_new' (Kd.R_new' (Kd.R_new' ho0 (Kd.R_lt (Kd.rup HO_410003.out))) (Kd.R_lt (Kd.rup HO_419003.out))) (Kd.R_lt (Kd.rup HO_428003.out))) (below_size (by repeat (first | (with_reducible first | exact HB.out | apply h1 | apply h2 | apply h3 | refine h4 ?_ (IsS61.ge HI400.out) | refine h4 ?_ GE394.out | refine h4 ?_ GE395.out | refine h4 ?_ GE396.out | refine h4 ?_ GE409.out | refine h4 ?_ GE418.out | refine h4 ?_ GE427.out) | exact HB.out)))); have n4_ := Aside0.mk (blk_below (bup BK394.out) hb); have n5_ := Aside0.mk (blk_below (bup BK395.out) hb); have n6_ := Aside0.mk (blk_below (bup BK396.out) hb); have n7_ := Aside0.mk (blk_below (bup BK409.out) hb); have n8_ := Aside0.mk (blk_below (bup BK418.out) hb); have n9_ := Aside0.mk (blk_below (bup BK427.out) hb); have n10_ := Aside0.mk (IsS61.below (by repeat (first | (with_reducible first | exact HI400.out | apply IsS61.alloc | apply IsS61.drewN | apply IsS61.drew | apply IsS61.set_1 | apply IsS61.set_2 | refine IsS61.far ?_ NB400_394.out _ | refine IsS61.far ?_ NB400_395.out _ | refine IsS61.far ?_ NB400_396.out _ | refine IsS61.far ?_ NB400_409.out _ | refine IsS61.far ?_ NB400_418.out _ | refine IsS61.far ?_ NB400_427.out _) | exact HI400.out)) hb); have n11_ := Aside0.mk (below_step (by repeat (first | (with_reducible first | exact HB.out | apply h1 | apply h2 | apply h3 | refine h4 ?_ (IsS61.ge HI400.out) | refine h4 ?_ GE394.out | refine h4 ?_ GE395.out | refine h4 ?_ GE396.out | refine h4 ?_ GE409.out | refine h4 ?_ GE418.out | refine h4 ?_ GE427.out) | exact HB.out)) hb); clear HO_410003; clear HO_419003; clear HO_428003; clear BK394; clear BK395; clear BK396; clear BK409; clear BK418; clear BK427; clear HI400; clear HB; have HO_410003 := n0_; have HO_419003 := n1_; have HO_428003 := n2_; have HO447 := n3_; have BK394 := n4_; have BK395 := n5_; have BK396 := n6_; have BK409 := n7_; have BK418 := n8_; have BK427 := n9_; have HI400 := n10_; have HB := n11_; clear n0_ n1_ n2_ n3_ n4_ n5_ n6_ n7_ n8_ n9_ n10_ n11_; (try clear hb); (try clear hb2); (try clear hk); (try clear hi); (try clear ho0); have hnb64 := NB409_394.out; have hnc64 := NB394_409.out; have hnb65 := NB409_395.out; have hnc65 := NB395_409.out; have hnb66 := NB409_396.out; have hnc66 := NB396_409.out; have hnb67 := NB409_418.out; have hnc67 := NB418_409.out; have hnb68 := NB409_400.out; have hnc68 := NB400_409.out; obtain ⟨hcz69_0, hcz69_1, hcz69_2, hcz69_3⟩ := blk_cells4 BK409.out; obtain ⟨hfz69_0, hfz69_1, hfz69_2, hfz69_3⟩ := blk_frozens4 BK409.out; obtain ⟨Ao70, co70, eo70⟩ := Kd.R_slice HO447.out; subst eo70))
    have n0_ : Aside0 (Kd.R (Kd.int .u8) 5 ((((w63.setCell ⟨gb409, 0, none⟩ (.int .i64 t442)).setCell ⟨gb409, 1, none⟩ (.int .i64 t443)).setCell ⟨gb409, 2, none⟩ (.float .f64 b444)).setCell ⟨gb409, 3, none⟩ (.slice Ao70 t445.length co70)) w.heap.size (fun k_ => some k_ ≠ (.slice Ao28 t413.length co28 : Value).ownBlock ∧ some k_ ≠ (.slice Ao62 x428003_6.length co62 : Value).ownBlock ∧ some k_ ≠ (.slice Ao70 t445.length co70 : Value).ownBlock) (.slice Ao19 t404.length co19) t404) := ⟨by exact Kd.rup (Kd.R_mono (Kd.R_far (p := ⟨gb409, 3, none⟩) (Kd.R_far (p := ⟨gb409, 2, none⟩) (Kd.R_far (p := ⟨gb409, 1, none⟩) (Kd.R_far (p := ⟨gb409, 0, none⟩) (Kd.R_types HO_410003.out BK409.out (by decide)) (fun _ hk => hk.2) (.int .i64 t442)) (fun _ hk => hk.2) (.int .i64 t443)) (fun _ hk => hk.2) (.float .f64 b444)) (fun _ hk => hk.2) (.slice Ao70 t445.length co70)) (fun _ hk => ⟨hk.1.1.1, ⟨hk.1.1.2, hk.1.2⟩⟩))⟩
    have n1_ : Aside0 (Kd.R (Kd.int .u8) 5 ((((w63.setCell ⟨gb409, 0, none⟩ (.int .i64 t442)).setCell ⟨gb409, 1, none⟩ (.int .i64 t443)).setCell ⟨gb409, 2, none⟩ (.float .f64 b444)).setCell ⟨gb409, 3, none⟩ (.slice Ao70 t445.length co70)) w.heap.size (fun k_ => some k_ ≠ (.slice Ao19 t404.length co19 : Value).ownBlock ∧ some k_ ≠ (.slice Ao62 x428003_6.length co62 : Value).ownBlock ∧ some k_ ≠ (.slice Ao70 t445.length co70 : Value).ownBlock) (.slice Ao28 t413.length co28) t413) := ⟨by exact Kd.rup (Kd.R_mono (Kd.R_far (p := ⟨gb409, 3, none⟩) (Kd.R_far (p := ⟨gb409, 2, none⟩) (Kd.R_far (p := ⟨gb409, 1, none⟩) (Kd.R_far (p := ⟨gb409, 0, none⟩) (Kd.R_types HO_419003.out BK409.out (by decide)) (fun _ hk => hk.2) (.int .i64 t442)) (fun _ hk => hk.2) (.int .i64 t443)) (fun _ hk => hk.2) (.float .f64 b444)) (fun _ hk => hk.2) (.slice Ao70 t445.length co70)) (fun _ hk => ⟨hk.1.1.1, ⟨hk.1.1.2, hk.1.2⟩⟩))⟩
    have n2_ : Aside0 (Kd.R (Kd.int .u8) 5 ((((w63.setCell ⟨gb409, 0, none⟩ (.int .i64 t442)).setCell ⟨gb409, 1, none⟩ (.int .i64 t443)).setCell ⟨gb409, 2, none⟩ (.float .f64 b444)).setCell ⟨gb409, 3, none⟩ (.slice Ao70 t445.length co70)) w.heap.size (fun k_ => some k_ ≠ (.slice Ao19 t404.length co19 : Value).ownBlock ∧ some k_ ≠ (.slice Ao28 t413.length co28 : Value).ownBlock ∧ some k_ ≠ (.slice Ao70 t445.length co70 : Value).ownBlock) (.slice Ao62 x428003_6.length co62) x428003_6) := ⟨by exact Kd.rup (Kd.R_mono (Kd.R_far (p := ⟨gb409, 3, none⟩) (Kd.R_far (p := ⟨gb409, 2, none⟩) (Kd.R_far (p := ⟨gb409, 1, none⟩) (Kd.R_far (p := ⟨gb409, 0, none⟩) (Kd.R_types HO_428003.out BK409.out (by decide)) (fun _ hk => hk.2) (.int .i64 t442)) (fun _ hk => hk.2) (.int .i64 t443)) (fun _ hk => hk.2) (.float .f64 b444)) (fun _ hk => hk.2) (.slice Ao70 t445.length co70)) (fun _ hk => ⟨hk.1.1.1, ⟨hk.1.1.2, hk.1.2⟩⟩))⟩
    have n3_ : Aside0 (Kd.R (Kd.int .u8) 5 ((((w63.setCell ⟨gb409, 0, none⟩ (.int .i64 t442)).setCell ⟨gb409, 1, none⟩ (.int .i64 t443)).setCell ⟨gb409, 2, none⟩ (.float .f64 b444)).setCell ⟨gb409, 3, none⟩ (.slice Ao70 t445.length co70)) w.heap.size (fun k_ => some k_ ≠ (.slice Ao19 t404.length co19 : Value).ownBlock ∧ some k_ ≠ (.slice Ao28 t413.length co28 : Value).ownBlock ∧ some k_ ≠ (.slice Ao62 x428003_6.length co62 : Value).ownBlock) (.slice Ao70 t445.length co70) t445) := ⟨by exact Kd.rup (Kd.R_mono (Kd.R_far (p := ⟨gb409, 3, none⟩) (Kd.R_far (p := ⟨gb409, 2, none⟩) (Kd.R_far (p := ⟨gb409, 1, none⟩) (Kd.R_far (p := ⟨gb409, 0, none⟩) (Kd.R_types HO447.out BK409.out (by decide)) (fun _ hk => hk.2) (.int .i64 t442)) (fun _ hk => hk.2) (.int .i64 t443)) (fun _ hk => hk.2) (.float .f64 b444)) (fun _ hk => hk.2) (.slice Ao70 t445.length co70)) (fun _ hk => ⟨hk.1.1.1.2, ⟨hk.1.1.2, hk.1.2⟩⟩))⟩
    have n4_ : Aside0 (((((w63.setCell ⟨gb409, 0, none⟩ (.int .i64 t442)).setCell ⟨gb409, 1, none⟩ (.int .i64 t443)).setCell ⟨gb409, 2, none⟩ (.float .f64 b444)).setCell ⟨gb409, 3, none⟩ (.slice Ao70 t445.length co70)).heap[gb394]? = some (.cells #[.int .i64 0, .int .i64 0, .float .f64 0, .slice none 0 0] 28 (0, 0))) := ⟨bput BK394.out⟩
    have n5_ : Aside0 (((((w63.setCell ⟨gb409, 0, none⟩ (.int .i64 t442)).setCell ⟨gb409, 1, none⟩ (.int .i64 t443)).setCell ⟨gb409, 2, none⟩ (.float .f64 b444)).setCell ⟨gb409, 3, none⟩ (.slice Ao70 t445.length co70)).heap[gb395]? = some (.cells #[.int .i64 0, .int .i64 0, .float .f64 0, .slice none 0 0] 28 (0, 0))) := ⟨bput BK395.out⟩
    have n6_ : Aside0 (((((w63.setCell ⟨gb409, 0, none⟩ (.int .i64 t442)).setCell ⟨gb409, 1, none⟩ (.int .i64 t443)).setCell ⟨gb409, 2, none⟩ (.float .f64 b444)).setCell ⟨gb409, 3, none⟩ (.slice Ao70 t445.length co70)).heap[gb396]? = some (.cells #[.int .i64 0, .int .i64 0, .float .f64 0, .slice none 0 0] 28 (0, 0))) := ⟨bput BK396.out⟩
    have n7_ : Aside0 (((((w63.setCell ⟨gb409, 0, none⟩ (.int .i64 t442)).setCell ⟨gb409, 1, none⟩ (.int .i64 t443)).setCell ⟨gb409, 2, none⟩ (.float .f64 b444)).setCell ⟨gb409, 3, none⟩ (.slice Ao70 t445.length co70)).heap[gb409]? = some (.cells #[.int .i64 t442, .int .i64 t443, .float .f64 b444, .slice Ao70 t445.length co70] 28 (0, 0))) := ⟨bput BK409.out⟩
    have n8_ : Aside0 (((((w63.setCell ⟨gb409, 0, none⟩ (.int .i64 t442)).setCell ⟨gb409, 1, none⟩ (.int .i64 t443)).setCell ⟨gb409, 2, none⟩ (.float .f64 b444)).setCell ⟨gb409, 3, none⟩ (.slice Ao70 t445.length co70)).heap[gb418]? = some (.cells #[.int .i64 t410, .int .i64 t411, .float .f64 b412, .slice Ao28 t413.length co28] 28 (0, 0))) := ⟨bput BK418.out⟩
    have n9_ : Aside0 (((((w63.setCell ⟨gb409, 0, none⟩ (.int .i64 t442)).setCell ⟨gb409, 1, none⟩ (.int .i64 t443)).setCell ⟨gb409, 2, none⟩ (.float .f64 b444)).setCell ⟨gb409, 3, none⟩ (.slice Ao70 t445.length co70)).heap[gb427]? = some (.cells #[.int .i64 x428000_6, .int .i64 x428001_6, .float .f64 b428002_6, .slice Ao62 x428003_6.length co62] 28 (0, 0))) := ⟨bput BK427.out⟩
    have n10_ : Aside0 (IsS61 w ((((w63.setCell ⟨gb409, 0, none⟩ (.int .i64 t442)).setCell ⟨gb409, 1, none⟩ (.int .i64 t443)).setCell ⟨gb409, 2, none⟩ (.float .f64 b444)).setCell ⟨gb409, 3, none⟩ (.slice Ao70 t445.length co70)) g400 t397 t440 t441) := ⟨by repeat (first | (with_reducible first | exact HI400.out | apply IsS61.alloc | apply IsS61.drewN | apply IsS61.drew | apply IsS61.set_1 | apply IsS61.set_2 | refine IsS61.far ?_ NB400_394.out _ | refine IsS61.far ?_ NB400_395.out _ | refine IsS61.far ?_ NB400_396.out _ | refine IsS61.far ?_ NB400_409.out _ | refine IsS61.far ?_ NB400_418.out _ | refine IsS61.far ?_ NB400_427.out _) | exact HI400.out)⟩
    have n11_ : Aside0 (Below w.heap.size w ((((w63.setCell ⟨gb409, 0, none⟩ (.int .i64 t442)).setCell ⟨gb409, 1, none⟩ (.int .i64 t443)).setCell ⟨gb409, 2, none⟩ (.float .f64 b444)).setCell ⟨gb409, 3, none⟩ (.slice Ao70 t445.length co70))) := ⟨by repeat (first | (with_reducible first | exact HB.out | apply h1 | apply h2 | apply h3 | refine h4 ?_ (IsS61.ge HI400.out) | refine h4 ?_ GE394.out | refine h4 ?_ GE395.out | refine h4 ?_ GE396.out | refine h4 ?_ GE409.out | refine h4 ?_ GE418.out | refine h4 ?_ GE427.out) | exact HB.out)⟩
    (try clear HO_410003)
    (try clear HO_419003)
    (try clear HO_428003)
    (try clear HO447)
    (try clear BK394)
    (try clear BK395)
    (try clear BK396)
    (try clear BK409)
    (try clear BK418)
    (try clear BK427)
    (try clear HI400)
    (try clear HB)
    generalize ((((w63.setCell ⟨gb409, 0, none⟩ (.int .i64 t442)).setCell ⟨gb409, 1, none⟩ (.int .i64 t443)).setCell ⟨gb409, 2, none⟩ (.float .f64 b444)).setCell ⟨gb409, 3, none⟩ (.slice Ao70 t445.length co70)) = w71 at n0_ n1_ n2_ n3_ n4_ n5_ n6_ n7_ n8_ n9_ n10_ n11_ ⊢
    have HO_410003 := n0_
    have HO_419003 := n1_
    have HO_428003 := n2_
    have HO447 := n3_
    have BK394 := n4_
    have BK395 := n5_
    have BK396 := n6_
    have BK409 := n7_
    have BK418 := n8_
    have BK427 := n9_
    have HI400 := n10_
    have HB := n11_
    clear n0_ n1_ n2_ n3_ n4_ n5_ n6_ n7_ n8_ n9_ n10_ n11_
    have n0_ := Aside0.mk (Kd.R_drew HO_410003.out)
    have n1_ := Aside0.mk (Kd.R_drew HO_419003.out)
    have n2_ := Aside0.mk (Kd.R_drew HO_428003.out)
    have n3_ := Aside0.mk (Kd.R_drew HO447.out)
    have n4_ := Aside0.mk (blk_drew BK394.out)
    have n5_ := Aside0.mk (blk_drew BK395.out)
    have n6_ := Aside0.mk (blk_drew BK396.out)
    have n7_ := Aside0.mk (blk_drew BK409.out)
    have n8_ := Aside0.mk (blk_drew BK418.out)
    have n9_ := Aside0.mk (blk_drew BK427.out)
    have n10_ := Aside0.mk (IsS61.drew HI400.out)
    have n11_ := Aside0.mk (below_drew1 HB.out)
    clear HO_410003
    clear HO_419003
    clear HO_428003
    clear HO447
    clear BK394
    clear BK395
    clear BK396
    clear BK409
    clear BK418
    clear BK427
    clear HI400
    clear HB
    have HO_410003 := n0_
    have HO_419003 := n1_
    have HO_428003 := n2_
    have HO447 := n3_
    have BK394 := n4_
    have BK395 := n5_
    have BK396 := n6_
    have BK409 := n7_
    have BK418 := n8_
    have BK427 := n9_
    have HI400 := n10_
    have HB := n11_
    clear n0_ n1_ n2_ n3_ n4_ n5_ n6_ n7_ n8_ n9_ n10_ n11_
    refine start_ (n := 6) (S := fun w' => w'.cell? ⟨gb409, 0, none⟩ = some (.int .i64 t442) ∧ w'.cell? ⟨gb409, 1, none⟩ = some (.int .i64 t443) ∧ w'.cell? ⟨gb409, 2, none⟩ = some (.float .f64 b444) ∧ w'.cell? ⟨gb409, 3, none⟩ = some (.slice Ao70 t445.length co70) ∧ w'.cell? ⟨gb418, 0, none⟩ = some (.int .i64 t410) ∧ w'.cell? ⟨gb418, 1, none⟩ = some (.int .i64 t411) ∧ w'.cell? ⟨gb418, 2, none⟩ = some (.float .f64 b412) ∧ w'.cell? ⟨gb418, 3, none⟩ = some (.slice Ao28 t413.length co28) ∧ w'.cell? ⟨gb427, 0, none⟩ = some (.int .i64 x428000_6) ∧ w'.cell? ⟨gb427, 1, none⟩ = some (.int .i64 x428001_6) ∧ w'.cell? ⟨gb427, 2, none⟩ = some (.float .f64 b428002_6) ∧ w'.cell? ⟨gb427, 3, none⟩ = some (.slice Ao62 x428003_6.length co62)) (ds := []) #[false, false, false, false, false, false] (by kernel_rfl) rfl rfl ⟨(blk_cell BK409.out 0).trans rfl, (blk_cell BK409.out 1).trans rfl, (blk_cell BK409.out 2).trans rfl, (blk_cell BK409.out 3).trans rfl, (blk_cell BK418.out 0).trans rfl, (blk_cell BK418.out 1).trans rfl, (blk_cell BK418.out 2).trans rfl, (blk_cell BK418.out 3).trans rfl, (blk_cell BK427.out 0).trans rfl, (blk_cell BK427.out 1).trans rfl, (blk_cell BK427.out 2).trans rfl, (blk_cell BK427.out 3).trans rfl⟩ (fun hHeld => ?_)
    generalize w71.drew = w72 at HO_410003 HO_419003 HO_428003 HO447 BK394 BK395 BK396 BK409 BK418 BK427 HI400 HB hHeld ⊢
    refine take_ (i := 0) (N := some 25) (v := ?_) (a' := ?_) #[true, false, false, false, false, false] rfl rfl (by kernel_rfl) (fun _ _ _ h => h) (Or.inl ⟨by rfl, ?_⟩) hHeld ?_ ?_
    rotate_left
    ·rintro w' ⟨s0, s1, s2, s3, s4, s5, s6, s7, s8, s9, s10, s11⟩
     go_simp
     with_reducible rfl
    rotate_left
    ·simp only [Act.put, List.setIfInBounds_toArray, List.set_cons_zero, List.set_cons_succ, i64_w, i32_w]
     rfl
    refine take_ (i := 1) (N := some 26) (v := ?_) (a' := ?_) #[true, true, false, false, false, false] rfl rfl (by kernel_rfl) (fun _ _ _ h => h) (Or.inl ⟨by rfl, ?_⟩) hHeld ?_ ?_
    rotate_left
    ·rintro w' ⟨s0, s1, s2, s3, s4, s5, s6, s7, s8, s9, s10, s11⟩
     go_simp
     with_reducible rfl
    rotate_left
    ·simp only [Act.put, List.setIfInBounds_toArray, List.set_cons_zero, List.set_cons_succ, i64_w, i32_w]
     rfl
    refine take_ (i := 2) (N := some 27) (v := ?_) (a' := ?_) #[true, true, true, false, false, false] rfl rfl (by kernel_rfl) (fun _ _ _ h => h) (Or.inl ⟨by rfl, ?_⟩) hHeld ?_ ?_
    rotate_left
    ·rintro w' ⟨s0, s1, s2, s3, s4, s5, s6, s7, s8, s9, s10, s11⟩
     go_simp
     with_reducible rfl
    rotate_left
    ·simp only [Act.put, List.setIfInBounds_toArray, List.set_cons_zero, List.set_cons_succ, i64_w, i32_w]
     rfl
    refine one_ (i := 3) (N := none) #[true, true, true, true, false, false] rfl rfl (by kernel_rfl) (by decide) (fun K hK => ?_)
    have hs73 : w72.cell? ⟨gb394, 0, none⟩ = some (.int .i64 0) := (blk_cell BK394.out 0).trans rfl
    have hfs73 := blk_frozen BK394.out 0
    have hns73_1 := NB395_394.out
    have hns73_2 := NB396_394.out
    have hns73_3 := NB409_394.out
    have hns73_4 := NB418_394.out
    have hns73_5 := NB427_394.out
    have hms73_1 := NB394_395.out
    have hms73_2 := NB394_396.out
    have hms73_3 := NB394_409.out
    have hms73_4 := NB394_418.out
    have hms73_5 := NB394_427.out
    have hs74 : w72.cell? ⟨gb394, 1, none⟩ = some (.int .i64 0) := (blk_cell BK394.out 1).trans rfl
    have hfs74 := blk_frozen BK394.out 1
    have hns74_1 := NB395_394.out
    have hns74_2 := NB396_394.out
    have hns74_3 := NB409_394.out
    have hns74_4 := NB418_394.out
    have hns74_5 := NB427_394.out
    have hms74_1 := NB394_395.out
    have hms74_2 := NB394_396.out
    have hms74_3 := NB394_409.out
    have hms74_4 := NB394_418.out
    have hms74_5 := NB394_427.out
    have hs75 : w72.cell? ⟨gb394, 2, none⟩ = some (.float .f64 0) := (blk_cell BK394.out 2).trans rfl
    have hfs75 := blk_frozen BK394.out 2
    have hns75_1 := NB395_394.out
    have hns75_2 := NB396_394.out
    have hns75_3 := NB409_394.out
    have hns75_4 := NB418_394.out
    have hns75_5 := NB427_394.out
    have hms75_1 := NB394_395.out
    have hms75_2 := NB394_396.out
    have hms75_3 := NB394_409.out
    have hms75_4 := NB394_418.out
    have hms75_5 := NB394_427.out
    have hs76 : w72.cell? ⟨gb394, 3, none⟩ = some (.slice none 0 0) := (blk_cell BK394.out 3).trans rfl
    have hfs76 := blk_frozen BK394.out 3
    have hns76_1 := NB395_394.out
    have hns76_2 := NB396_394.out
    have hns76_3 := NB409_394.out
    have hns76_4 := NB418_394.out
    have hns76_5 := NB427_394.out
    have hms76_1 := NB394_395.out
    have hms76_2 := NB394_396.out
    have hms76_3 := NB394_409.out
    have hms76_4 := NB394_418.out
    have hms76_5 := NB394_427.out
    refine skip_ (w1 := ?_) ?hw_ ?hN_ ?_ ?_
    case hN_ => rfl
    case hw_ => rfl
    rotate_left
    ·go_simp
     rfl
    refine hK.out _ _ ⟨((cell_far (p := ⟨gb394, _, none⟩) NB409_394.out _).trans (((cell_far (p := ⟨gb394, _, none⟩) NB409_394.out _).trans (((cell_far (p := ⟨gb394, _, none⟩) NB409_394.out _).trans (((cell_far (p := ⟨gb394, _, none⟩) NB409_394.out _).trans (hHeld.1)))))))), ((cell_far (p := ⟨gb394, _, none⟩) NB409_394.out _).trans (((cell_far (p := ⟨gb394, _, none⟩) NB409_394.out _).trans (((cell_far (p := ⟨gb394, _, none⟩) NB409_394.out _).trans (((cell_far (p := ⟨gb394, _, none⟩) NB409_394.out _).trans (hHeld.2.1)))))))), ((cell_far (p := ⟨gb394, _, none⟩) NB409_394.out _).trans (((cell_far (p := ⟨gb394, _, none⟩) NB409_394.out _).trans (((cell_far (p := ⟨gb394, _, none⟩) NB409_394.out _).trans (((cell_far (p := ⟨gb394, _, none⟩) NB409_394.out _).trans (hHeld.2.2.1)))))))), ((cell_far (p := ⟨gb394, _, none⟩) NB409_394.out _).trans (((cell_far (p := ⟨gb394, _, none⟩) NB409_394.out _).trans (((cell_far (p := ⟨gb394, _, none⟩) NB409_394.out _).trans (((cell_far (p := ⟨gb394, _, none⟩) NB409_394.out _).trans (hHeld.2.2.2.1)))))))), ((cell_far (p := ⟨gb394, _, none⟩) NB418_394.out _).trans (((cell_far (p := ⟨gb394, _, none⟩) NB418_394.out _).trans (((cell_far (p := ⟨gb394, _, none⟩) NB418_394.out _).trans (((cell_far (p := ⟨gb394, _, none⟩) NB418_394.out _).trans (hHeld.2.2.2.2.1)))))))), ((cell_far (p := ⟨gb394, _, none⟩) NB418_394.out _).trans (((cell_far (p := ⟨gb394, _, none⟩) NB418_394.out _).trans (((cell_far (p := ⟨gb394, _, none⟩) NB418_394.out _).trans (((cell_far (p := ⟨gb394, _, none⟩) NB418_394.out _).trans (hHeld.2.2.2.2.2.1)))))))), ((cell_far (p := ⟨gb394, _, none⟩) NB418_394.out _).trans (((cell_far (p := ⟨gb394, _, none⟩) NB418_394.out _).trans (((cell_far (p := ⟨gb394, _, none⟩) NB418_394.out _).trans (((cell_far (p := ⟨gb394, _, none⟩) NB418_394.out _).trans (hHeld.2.2.2.2.2.2.1)))))))), ((cell_far (p := ⟨gb394, _, none⟩) NB418_394.out _).trans (((cell_far (p := ⟨gb394, _, none⟩) NB418_394.out _).trans (((cell_far (p := ⟨gb394, _, none⟩) NB418_394.out _).trans (((cell_far (p := ⟨gb394, _, none⟩) NB418_394.out _).trans (hHeld.2.2.2.2.2.2.2.1)))))))), ((cell_far (p := ⟨gb394, _, none⟩) NB427_394.out _).trans (((cell_far (p := ⟨gb394, _, none⟩) NB427_394.out _).trans (((cell_far (p := ⟨gb394, _, none⟩) NB427_394.out _).trans (((cell_far (p := ⟨gb394, _, none⟩) NB427_394.out _).trans (hHeld.2.2.2.2.2.2.2.2.1)))))))), ((cell_far (p := ⟨gb394, _, none⟩) NB427_394.out _).trans (((cell_far (p := ⟨gb394, _, none⟩) NB427_394.out _).trans (((cell_far (p := ⟨gb394, _, none⟩) NB427_394.out _).trans (((cell_far (p := ⟨gb394, _, none⟩) NB427_394.out _).trans (hHeld.2.2.2.2.2.2.2.2.2.1)))))))), ((cell_far (p := ⟨gb394, _, none⟩) NB427_394.out _).trans (((cell_far (p := ⟨gb394, _, none⟩) NB427_394.out _).trans (((cell_far (p := ⟨gb394, _, none⟩) NB427_394.out _).trans (((cell_far (p := ⟨gb394, _, none⟩) NB427_394.out _).trans (hHeld.2.2.2.2.2.2.2.2.2.2.1)))))))), ((cell_far (p := ⟨gb394, _, none⟩) NB427_394.out _).trans (((cell_far (p := ⟨gb394, _, none⟩) NB427_394.out _).trans (((cell_far (p := ⟨gb394, _, none⟩) NB427_394.out _).trans (((cell_far (p := ⟨gb394, _, none⟩) NB427_394.out _).trans (hHeld.2.2.2.2.2.2.2.2.2.2.2))))))))⟩ (fun hHeld => ?_)
    clear hK K
    refine one_ (i := 4) (N := none) #[true, true, true, true, true, false] rfl rfl (by kernel_rfl) (by decide) (fun K hK => ?_)
    have hs77 : w72.cell? ⟨gb395, 0, none⟩ = some (.int .i64 0) := (blk_cell BK395.out 0).trans rfl
    have hfs77 := blk_frozen BK395.out 0
    have hns77_0 := NB394_395.out
    have hns77_2 := NB396_395.out
    have hns77_3 := NB409_395.out
    have hns77_4 := NB418_395.out
    have hns77_5 := NB427_395.out
    have hms77_0 := NB395_394.out
    have hms77_2 := NB395_396.out
    have hms77_3 := NB395_409.out
    have hms77_4 := NB395_418.out
    have hms77_5 := NB395_427.out
    have hs78 : w72.cell? ⟨gb395, 1, none⟩ = some (.int .i64 0) := (blk_cell BK395.out 1).trans rfl
    have hfs78 := blk_frozen BK395.out 1
    have hns78_0 := NB394_395.out
    have hns78_2 := NB396_395.out
    have hns78_3 := NB409_395.out
    have hns78_4 := NB418_395.out
    have hns78_5 := NB427_395.out
    have hms78_0 := NB395_394.out
    have hms78_2 := NB395_396.out
    have hms78_3 := NB395_409.out
    have hms78_4 := NB395_418.out
    have hms78_5 := NB395_427.out
    have hs79 : w72.cell? ⟨gb395, 2, none⟩ = some (.float .f64 0) := (blk_cell BK395.out 2).trans rfl
    have hfs79 := blk_frozen BK395.out 2
    have hns79_0 := NB394_395.out
    have hns79_2 := NB396_395.out
    have hns79_3 := NB409_395.out
    have hns79_4 := NB418_395.out
    have hns79_5 := NB427_395.out
    have hms79_0 := NB395_394.out
    have hms79_2 := NB395_396.out
    have hms79_3 := NB395_409.out
    have hms79_4 := NB395_418.out
    have hms79_5 := NB395_427.out
    have hs80 : w72.cell? ⟨gb395, 3, none⟩ = some (.slice none 0 0) := (blk_cell BK395.out 3).trans rfl
    have hfs80 := blk_frozen BK395.out 3
    have hns80_0 := NB394_395.out
    have hns80_2 := NB396_395.out
    have hns80_3 := NB409_395.out
    have hns80_4 := NB418_395.out
    have hns80_5 := NB427_395.out
    have hms80_0 := NB395_394.out
    have hms80_2 := NB395_396.out
    have hms80_3 := NB395_409.out
    have hms80_4 := NB395_418.out
    have hms80_5 := NB395_427.out
    refine skip_ (w1 := ?_) ?hw_ ?hN_ ?_ ?_
    case hN_ => rfl
    case hw_ => rfl
    rotate_left
    ·go_simp
     rfl
    refine hK.out _ _ ⟨((cell_far (p := ⟨gb395, _, none⟩) NB409_395.out _).trans (((cell_far (p := ⟨gb395, _, none⟩) NB409_395.out _).trans (((cell_far (p := ⟨gb395, _, none⟩) NB409_395.out _).trans (((cell_far (p := ⟨gb395, _, none⟩) NB409_395.out _).trans (hHeld.1)))))))), ((cell_far (p := ⟨gb395, _, none⟩) NB409_395.out _).trans (((cell_far (p := ⟨gb395, _, none⟩) NB409_395.out _).trans (((cell_far (p := ⟨gb395, _, none⟩) NB409_395.out _).trans (((cell_far (p := ⟨gb395, _, none⟩) NB409_395.out _).trans (hHeld.2.1)))))))), ((cell_far (p := ⟨gb395, _, none⟩) NB409_395.out _).trans (((cell_far (p := ⟨gb395, _, none⟩) NB409_395.out _).trans (((cell_far (p := ⟨gb395, _, none⟩) NB409_395.out _).trans (((cell_far (p := ⟨gb395, _, none⟩) NB409_395.out _).trans (hHeld.2.2.1)))))))), ((cell_far (p := ⟨gb395, _, none⟩) NB409_395.out _).trans (((cell_far (p := ⟨gb395, _, none⟩) NB409_395.out _).trans (((cell_far (p := ⟨gb395, _, none⟩) NB409_395.out _).trans (((cell_far (p := ⟨gb395, _, none⟩) NB409_395.out _).trans (hHeld.2.2.2.1)))))))), ((cell_far (p := ⟨gb395, _, none⟩) NB418_395.out _).trans (((cell_far (p := ⟨gb395, _, none⟩) NB418_395.out _).trans (((cell_far (p := ⟨gb395, _, none⟩) NB418_395.out _).trans (((cell_far (p := ⟨gb395, _, none⟩) NB418_395.out _).trans (hHeld.2.2.2.2.1)))))))), ((cell_far (p := ⟨gb395, _, none⟩) NB418_395.out _).trans (((cell_far (p := ⟨gb395, _, none⟩) NB418_395.out _).trans (((cell_far (p := ⟨gb395, _, none⟩) NB418_395.out _).trans (((cell_far (p := ⟨gb395, _, none⟩) NB418_395.out _).trans (hHeld.2.2.2.2.2.1)))))))), ((cell_far (p := ⟨gb395, _, none⟩) NB418_395.out _).trans (((cell_far (p := ⟨gb395, _, none⟩) NB418_395.out _).trans (((cell_far (p := ⟨gb395, _, none⟩) NB418_395.out _).trans (((cell_far (p := ⟨gb395, _, none⟩) NB418_395.out _).trans (hHeld.2.2.2.2.2.2.1)))))))), ((cell_far (p := ⟨gb395, _, none⟩) NB418_395.out _).trans (((cell_far (p := ⟨gb395, _, none⟩) NB418_395.out _).trans (((cell_far (p := ⟨gb395, _, none⟩) NB418_395.out _).trans (((cell_far (p := ⟨gb395, _, none⟩) NB418_395.out _).trans (hHeld.2.2.2.2.2.2.2.1)))))))), ((cell_far (p := ⟨gb395, _, none⟩) NB427_395.out _).trans (((cell_far (p := ⟨gb395, _, none⟩) NB427_395.out _).trans (((cell_far (p := ⟨gb395, _, none⟩) NB427_395.out _).trans (((cell_far (p := ⟨gb395, _, none⟩) NB427_395.out _).trans (hHeld.2.2.2.2.2.2.2.2.1)))))))), ((cell_far (p := ⟨gb395, _, none⟩) NB427_395.out _).trans (((cell_far (p := ⟨gb395, _, none⟩) NB427_395.out _).trans (((cell_far (p := ⟨gb395, _, none⟩) NB427_395.out _).trans (((cell_far (p := ⟨gb395, _, none⟩) NB427_395.out _).trans (hHeld.2.2.2.2.2.2.2.2.2.1)))))))), ((cell_far (p := ⟨gb395, _, none⟩) NB427_395.out _).trans (((cell_far (p := ⟨gb395, _, none⟩) NB427_395.out _).trans (((cell_far (p := ⟨gb395, _, none⟩) NB427_395.out _).trans (((cell_far (p := ⟨gb395, _, none⟩) NB427_395.out _).trans (hHeld.2.2.2.2.2.2.2.2.2.2.1)))))))), ((cell_far (p := ⟨gb395, _, none⟩) NB427_395.out _).trans (((cell_far (p := ⟨gb395, _, none⟩) NB427_395.out _).trans (((cell_far (p := ⟨gb395, _, none⟩) NB427_395.out _).trans (((cell_far (p := ⟨gb395, _, none⟩) NB427_395.out _).trans (hHeld.2.2.2.2.2.2.2.2.2.2.2))))))))⟩ (fun hHeld => ?_)
    clear hK K
    refine one_ (i := 5) (N := none) #[true, true, true, true, true, true] rfl rfl (by kernel_rfl) (by decide) (fun K hK => ?_)
    have hs81 : w72.cell? ⟨gb396, 0, none⟩ = some (.int .i64 0) := (blk_cell BK396.out 0).trans rfl
    have hfs81 := blk_frozen BK396.out 0
    have hns81_0 := NB394_396.out
    have hns81_1 := NB395_396.out
    have hns81_3 := NB409_396.out
    have hns81_4 := NB418_396.out
    have hns81_5 := NB427_396.out
    have hms81_0 := NB396_394.out
    have hms81_1 := NB396_395.out
    have hms81_3 := NB396_409.out
    have hms81_4 := NB396_418.out
    have hms81_5 := NB396_427.out
    have hs82 : w72.cell? ⟨gb396, 1, none⟩ = some (.int .i64 0) := (blk_cell BK396.out 1).trans rfl
    have hfs82 := blk_frozen BK396.out 1
    have hns82_0 := NB394_396.out
    have hns82_1 := NB395_396.out
    have hns82_3 := NB409_396.out
    have hns82_4 := NB418_396.out
    have hns82_5 := NB427_396.out
    have hms82_0 := NB396_394.out
    have hms82_1 := NB396_395.out
    have hms82_3 := NB396_409.out
    have hms82_4 := NB396_418.out
    have hms82_5 := NB396_427.out
    have hs83 : w72.cell? ⟨gb396, 2, none⟩ = some (.float .f64 0) := (blk_cell BK396.out 2).trans rfl
    have hfs83 := blk_frozen BK396.out 2
    have hns83_0 := NB394_396.out
    have hns83_1 := NB395_396.out
    have hns83_3 := NB409_396.out
    have hns83_4 := NB418_396.out
    have hns83_5 := NB427_396.out
    have hms83_0 := NB396_394.out
    have hms83_1 := NB396_395.out
    have hms83_3 := NB396_409.out
    have hms83_4 := NB396_418.out
    have hms83_5 := NB396_427.out
    have hs84 : w72.cell? ⟨gb396, 3, none⟩ = some (.slice none 0 0) := (blk_cell BK396.out 3).trans rfl
    have hfs84 := blk_frozen BK396.out 3
    have hns84_0 := NB394_396.out
    have hns84_1 := NB395_396.out
    have hns84_3 := NB409_396.out
    have hns84_4 := NB418_396.out
    have hns84_5 := NB427_396.out
    have hms84_0 := NB396_394.out
    have hms84_1 := NB396_395.out
    have hms84_3 := NB396_409.out
    have hms84_4 := NB396_418.out
    have hms84_5 := NB396_427.out
    refine skip_ (w1 := ?_) ?hw_ ?hN_ ?_ ?_
    case hN_ => rfl
    case hw_ => rfl
    rotate_left
    ·go_simp
     rfl
    refine hK.out _ _ ⟨((cell_far (p := ⟨gb396, _, none⟩) NB409_396.out _).trans (((cell_far (p := ⟨gb396, _, none⟩) NB409_396.out _).trans (((cell_far (p := ⟨gb396, _, none⟩) NB409_396.out _).trans (((cell_far (p := ⟨gb396, _, none⟩) NB409_396.out _).trans (hHeld.1)))))))), ((cell_far (p := ⟨gb396, _, none⟩) NB409_396.out _).trans (((cell_far (p := ⟨gb396, _, none⟩) NB409_396.out _).trans (((cell_far (p := ⟨gb396, _, none⟩) NB409_396.out _).trans (((cell_far (p := ⟨gb396, _, none⟩) NB409_396.out _).trans (hHeld.2.1)))))))), ((cell_far (p := ⟨gb396, _, none⟩) NB409_396.out _).trans (((cell_far (p := ⟨gb396, _, none⟩) NB409_396.out _).trans (((cell_far (p := ⟨gb396, _, none⟩) NB409_396.out _).trans (((cell_far (p := ⟨gb396, _, none⟩) NB409_396.out _).trans (hHeld.2.2.1)))))))), ((cell_far (p := ⟨gb396, _, none⟩) NB409_396.out _).trans (((cell_far (p := ⟨gb396, _, none⟩) NB409_396.out _).trans (((cell_far (p := ⟨gb396, _, none⟩) NB409_396.out _).trans (((cell_far (p := ⟨gb396, _, none⟩) NB409_396.out _).trans (hHeld.2.2.2.1)))))))), ((cell_far (p := ⟨gb396, _, none⟩) NB418_396.out _).trans (((cell_far (p := ⟨gb396, _, none⟩) NB418_396.out _).trans (((cell_far (p := ⟨gb396, _, none⟩) NB418_396.out _).trans (((cell_far (p := ⟨gb396, _, none⟩) NB418_396.out _).trans (hHeld.2.2.2.2.1)))))))), ((cell_far (p := ⟨gb396, _, none⟩) NB418_396.out _).trans (((cell_far (p := ⟨gb396, _, none⟩) NB418_396.out _).trans (((cell_far (p := ⟨gb396, _, none⟩) NB418_396.out _).trans (((cell_far (p := ⟨gb396, _, none⟩) NB418_396.out _).trans (hHeld.2.2.2.2.2.1)))))))), ((cell_far (p := ⟨gb396, _, none⟩) NB418_396.out _).trans (((cell_far (p := ⟨gb396, _, none⟩) NB418_396.out _).trans (((cell_far (p := ⟨gb396, _, none⟩) NB418_396.out _).trans (((cell_far (p := ⟨gb396, _, none⟩) NB418_396.out _).trans (hHeld.2.2.2.2.2.2.1)))))))), ((cell_far (p := ⟨gb396, _, none⟩) NB418_396.out _).trans (((cell_far (p := ⟨gb396, _, none⟩) NB418_396.out _).trans (((cell_far (p := ⟨gb396, _, none⟩) NB418_396.out _).trans (((cell_far (p := ⟨gb396, _, none⟩) NB418_396.out _).trans (hHeld.2.2.2.2.2.2.2.1)))))))), ((cell_far (p := ⟨gb396, _, none⟩) NB427_396.out _).trans (((cell_far (p := ⟨gb396, _, none⟩) NB427_396.out _).trans (((cell_far (p := ⟨gb396, _, none⟩) NB427_396.out _).trans (((cell_far (p := ⟨gb396, _, none⟩) NB427_396.out _).trans (hHeld.2.2.2.2.2.2.2.2.1)))))))), ((cell_far (p := ⟨gb396, _, none⟩) NB427_396.out _).trans (((cell_far (p := ⟨gb396, _, none⟩) NB427_396.out _).trans (((cell_far (p := ⟨gb396, _, none⟩) NB427_396.out _).trans (((cell_far (p := ⟨gb396, _, none⟩) NB427_396.out _).trans (hHeld.2.2.2.2.2.2.2.2.2.1)))))))), ((cell_far (p := ⟨gb396, _, none⟩) NB427_396.out _).trans (((cell_far (p := ⟨gb396, _, none⟩) NB427_396.out _).trans (((cell_far (p := ⟨gb396, _, none⟩) NB427_396.out _).trans (((cell_far (p := ⟨gb396, _, none⟩) NB427_396.out _).trans (hHeld.2.2.2.2.2.2.2.2.2.2.1)))))))), ((cell_far (p := ⟨gb396, _, none⟩) NB427_396.out _).trans (((cell_far (p := ⟨gb396, _, none⟩) NB427_396.out _).trans (((cell_far (p := ⟨gb396, _, none⟩) NB427_396.out _).trans (((cell_far (p := ⟨gb396, _, none⟩) NB427_396.out _).trans (hHeld.2.2.2.2.2.2.2.2.2.2.2))))))))⟩ (fun hHeld => ?_)
    clear hK K
    refine done_ (by kernel_rfl) ?_
    try go_wp2
    refine bodyPost_ret (results_list (rs := [.cell 2 28, .cell 3 28, .cell 4 28]) rfl (by simp) (.cell gb394 28 #[.int .i64 t442, .int .i64 t443, .float .f64 b444, .slice Ao70 t445.length co70] (0, 0) _ rfl (bput BK394.out) Try.underlying28 rfl (by kernel_rfl) (.cell gb395 28 #[.int .i64 t410, .int .i64 t411, .float .f64 b412, .slice Ao28 t413.length co28] (0, 0) _ rfl (bput BK395.out) Try.underlying28 rfl (by kernel_rfl) (.cell gb396 28 #[.int .i64 x428000_6, .int .i64 x428001_6, .float .f64 b428002_6, .slice Ao62 x428003_6.length co62] (0, 0) _ rfl (bput BK396.out) Try.underlying28 rfl (by kernel_rfl) .nil)))) rfl ?_
    exact ⟨_, _, _, _, _, _, by first | rfl | (simp [errW_none, errW_some] <;> rfl) | (simp [*, errW_none, errW_some] <;> rfl), by exact Kd.rup (Kd.R_mono (Kd.R_far (p := ⟨gb396, 3, none⟩) (Kd.R_far (p := ⟨gb396, 2, none⟩) (Kd.R_far (p := ⟨gb396, 1, none⟩) (Kd.R_far (p := ⟨gb396, 0, none⟩) (Kd.R_far (p := ⟨gb395, 3, none⟩) (Kd.R_far (p := ⟨gb395, 2, none⟩) (Kd.R_far (p := ⟨gb395, 1, none⟩) (Kd.R_far (p := ⟨gb395, 0, none⟩) (Kd.R_far (p := ⟨gb394, 3, none⟩) (Kd.R_far (p := ⟨gb394, 2, none⟩) (Kd.R_far (p := ⟨gb394, 1, none⟩) (Kd.R_far (p := ⟨gb394, 0, none⟩) (Kd.R_types (Kd.R_types (Kd.R_types HO447.out BK394.out (by decide)) BK395.out (by decide)) BK396.out (by decide)) (fun _ hk => hk.1.1.2) (.int .i64 t442)) (fun _ hk => hk.1.1.2) (.int .i64 t443)) (fun _ hk => hk.1.1.2) (.float .f64 b444)) (fun _ hk => hk.1.1.2) (.slice Ao70 t445.length co70)) (fun _ hk => hk.1.2) (.int .i64 t410)) (fun _ hk => hk.1.2) (.int .i64 t411)) (fun _ hk => hk.1.2) (.float .f64 b412)) (fun _ hk => hk.1.2) (.slice Ao28 t413.length co28)) (fun _ hk => hk.2) (.int .i64 x428000_6)) (fun _ hk => hk.2) (.int .i64 x428001_6)) (fun _ hk => hk.2) (.float .f64 b428002_6)) (fun _ hk => hk.2) (.slice Ao62 x428003_6.length co62)) (fun _ hk => ⟨hk.1.1.1.2.1, hk.1.1.1.2.2⟩)), by exact Kd.rup (Kd.R_mono (Kd.R_far (p := ⟨gb396, 3, none⟩) (Kd.R_far (p := ⟨gb396, 2, none⟩) (Kd.R_far (p := ⟨gb396, 1, none⟩) (Kd.R_far (p := ⟨gb396, 0, none⟩) (Kd.R_far (p := ⟨gb395, 3, none⟩) (Kd.R_far (p := ⟨gb395, 2, none⟩) (Kd.R_far (p := ⟨gb395, 1, none⟩) (Kd.R_far (p := ⟨gb395, 0, none⟩) (Kd.R_far (p := ⟨gb394, 3, none⟩) (Kd.R_far (p := ⟨gb394, 2, none⟩) (Kd.R_far (p := ⟨gb394, 1, none⟩) (Kd.R_far (p := ⟨gb394, 0, none⟩) (Kd.R_types (Kd.R_types (Kd.R_types HO_419003.out BK394.out (by decide)) BK395.out (by decide)) BK396.out (by decide)) (fun _ hk => hk.1.1.2) (.int .i64 t442)) (fun _ hk => hk.1.1.2) (.int .i64 t443)) (fun _ hk => hk.1.1.2) (.float .f64 b444)) (fun _ hk => hk.1.1.2) (.slice Ao70 t445.length co70)) (fun _ hk => hk.1.2) (.int .i64 t410)) (fun _ hk => hk.1.2) (.int .i64 t411)) (fun _ hk => hk.1.2) (.float .f64 b412)) (fun _ hk => hk.1.2) (.slice Ao28 t413.length co28)) (fun _ hk => hk.2) (.int .i64 x428000_6)) (fun _ hk => hk.2) (.int .i64 x428001_6)) (fun _ hk => hk.2) (.float .f64 b428002_6)) (fun _ hk => hk.2) (.slice Ao62 x428003_6.length co62)) (fun _ hk => ⟨hk.1.1.1.2.2, hk.1.1.1.2.1⟩)), by exact Kd.rup (Kd.R_mono (Kd.R_far (p := ⟨gb396, 3, none⟩) (Kd.R_far (p := ⟨gb396, 2, none⟩) (Kd.R_far (p := ⟨gb396, 1, none⟩) (Kd.R_far (p := ⟨gb396, 0, none⟩) (Kd.R_far (p := ⟨gb395, 3, none⟩) (Kd.R_far (p := ⟨gb395, 2, none⟩) (Kd.R_far (p := ⟨gb395, 1, none⟩) (Kd.R_far (p := ⟨gb395, 0, none⟩) (Kd.R_far (p := ⟨gb394, 3, none⟩) (Kd.R_far (p := ⟨gb394, 2, none⟩) (Kd.R_far (p := ⟨gb394, 1, none⟩) (Kd.R_far (p := ⟨gb394, 0, none⟩) (Kd.R_types (Kd.R_types (Kd.R_types HO_428003.out BK394.out (by decide)) BK395.out (by decide)) BK396.out (by decide)) (fun _ hk => hk.1.1.2) (.int .i64 t442)) (fun _ hk => hk.1.1.2) (.int .i64 t443)) (fun _ hk => hk.1.1.2) (.float .f64 b444)) (fun _ hk => hk.1.1.2) (.slice Ao70 t445.length co70)) (fun _ hk => hk.1.2) (.int .i64 t410)) (fun _ hk => hk.1.2) (.int .i64 t411)) (fun _ hk => hk.1.2) (.float .f64 b412)) (fun _ hk => hk.1.2) (.slice Ao28 t413.length co28)) (fun _ hk => hk.2) (.int .i64 x428000_6)) (fun _ hk => hk.2) (.int .i64 x428001_6)) (fun _ hk => hk.2) (.float .f64 b428002_6)) (fun _ hk => hk.2) (.slice Ao62 x428003_6.length co62)) (fun _ hk => ⟨hk.1.1.1.2.2, hk.1.1.1.2.1⟩)), by repeat (first | (with_reducible first | exact HB.out | apply h1 | apply h2 | apply h3 | refine h4 ?_ (IsS61.ge HI400.out) | refine h4 ?_ GE394.out | refine h4 ?_ GE395.out | refine h4 ?_ GE396.out | refine h4 ?_ GE409.out | refine h4 ?_ GE418.out | refine h4 ?_ GE427.out) | exact HB.out), (by first | exact ⟨⟨rfl, LTb403.out⟩⟩ | exact ⟨⟨rfl, LTb412.out⟩⟩ | exact ⟨⟨rfl, LTb421.out⟩⟩ | exact ⟨⟨rfl, LTb428002_6.out⟩⟩ | exact ⟨⟨rfl, LTb444.out⟩⟩ | exact ⟨⟨by first | rfl | decide, by decide⟩⟩ | exact ⟨⟨rfl, fquo_lt (by assumption)⟩⟩), (by first | exact ⟨⟨rfl, LTb403.out⟩⟩ | exact ⟨⟨rfl, LTb412.out⟩⟩ | exact ⟨⟨rfl, LTb421.out⟩⟩ | exact ⟨⟨rfl, LTb428002_6.out⟩⟩ | exact ⟨⟨rfl, LTb444.out⟩⟩ | exact ⟨⟨by first | rfl | decide, by decide⟩⟩ | exact ⟨⟨rfl, fquo_lt (by assumption)⟩⟩), (by first | exact ⟨⟨rfl, LTb403.out⟩⟩ | exact ⟨⟨rfl, LTb412.out⟩⟩ | exact ⟨⟨rfl, LTb421.out⟩⟩ | exact ⟨⟨rfl, LTb428002_6.out⟩⟩ | exact ⟨⟨rfl, LTb444.out⟩⟩ | exact ⟨⟨by first | rfl | decide, by decide⟩⟩ | exact ⟨⟨rfl, fquo_lt (by assumption)⟩⟩)⟩
   ·replace c52 := Bool.eq_false_iff.mpr c52
    subst c52
    rw [if_neg (show ¬ (false = true) by decide)] at H
    (try dsimp only at H)
    simp only [Option.some.injEq, Prod.mk.injEq] at H
    obtain ⟨rfl, rfl, rfl, rfl, rfl, rfl, rfl, rfl, rfl, rfl, rfl, rfl⟩ := H
    (try clear hi)
    try go_wp2
    have n0_ := Aside0.mk (Kd.R_drew HO_410003.out)
    have n1_ := Aside0.mk (Kd.R_drew HO_419003.out)
    have n2_ := Aside0.mk (Kd.R_drew HO_428003.out)
    have n3_ := Aside0.mk (blk_drew BK394.out)
    have n4_ := Aside0.mk (blk_drew BK395.out)
    have n5_ := Aside0.mk (blk_drew BK396.out)
    have n6_ := Aside0.mk (blk_drew BK409.out)
    have n7_ := Aside0.mk (blk_drew BK418.out)
    have n8_ := Aside0.mk (blk_drew BK427.out)
    have n9_ := Aside0.mk (IsS61.drew HI400.out)
    have n10_ := Aside0.mk (below_drew1 HB.out)
    clear HO_410003
    clear HO_419003
    clear HO_428003
    clear BK394
    clear BK395
    clear BK396
    clear BK409
    clear BK418
    clear BK427
    clear HI400
    clear HB
    have HO_410003 := n0_
    have HO_419003 := n1_
    have HO_428003 := n2_
    have BK394 := n3_
    have BK395 := n4_
    have BK396 := n5_
    have BK409 := n6_
    have BK418 := n7_
    have BK427 := n8_
    have HI400 := n9_
    have HB := n10_
    clear n0_ n1_ n2_ n3_ n4_ n5_ n6_ n7_ n8_ n9_ n10_
    obtain ⟨Ao98, co98, eo98⟩ := Kd.R_slice HO_428003.out
    (first | subst eo98 | (injection eo98 with f1_ f2_ f3_; have f4_ := f1_.symm; have f5_ := f3_.symm; clear f1_ f2_ f3_; subst f4_; subst f5_))
    refine start_ (n := 6) (S := fun w' => w'.cell? ⟨gb409, 0, none⟩ = some (.int .i64 t401) ∧ w'.cell? ⟨gb409, 1, none⟩ = some (.int .i64 t402) ∧ w'.cell? ⟨gb409, 2, none⟩ = some (.float .f64 b403) ∧ w'.cell? ⟨gb409, 3, none⟩ = some (.slice Ao19 t404.length co19) ∧ w'.cell? ⟨gb418, 0, none⟩ = some (.int .i64 t410) ∧ w'.cell? ⟨gb418, 1, none⟩ = some (.int .i64 t411) ∧ w'.cell? ⟨gb418, 2, none⟩ = some (.float .f64 b412) ∧ w'.cell? ⟨gb418, 3, none⟩ = some (.slice Ao28 t413.length co28) ∧ w'.cell? ⟨gb427, 0, none⟩ = some (.int .i64 x428000_6) ∧ w'.cell? ⟨gb427, 1, none⟩ = some (.int .i64 x428001_6) ∧ w'.cell? ⟨gb427, 2, none⟩ = some (.float .f64 b428002_6) ∧ w'.cell? ⟨gb427, 3, none⟩ = some (.slice Ao98 x428003_6.length co98)) (ds := []) #[false, false, false, false, false, false] (by kernel_rfl) rfl rfl ⟨(blk_cell BK409.out 0).trans rfl, (blk_cell BK409.out 1).trans rfl, (blk_cell BK409.out 2).trans rfl, (blk_cell BK409.out 3).trans rfl, (blk_cell BK418.out 0).trans rfl, (blk_cell BK418.out 1).trans rfl, (blk_cell BK418.out 2).trans rfl, (blk_cell BK418.out 3).trans rfl, (blk_cell BK427.out 0).trans rfl, (blk_cell BK427.out 1).trans rfl, (blk_cell BK427.out 2).trans rfl, (blk_cell BK427.out 3).trans rfl⟩ (fun hHeld => ?_)
    generalize w54.drew = w86 at HO_410003 HO_419003 HO_428003 BK394 BK395 BK396 BK409 BK418 BK427 HI400 HB hHeld ⊢
    refine take_ (i := 0) (N := some 25) (v := ?_) (a' := ?_) #[true, false, false, false, false, false] rfl rfl (by kernel_rfl) (fun _ _ _ h => h) (Or.inl ⟨by rfl, ?_⟩) hHeld ?_ ?_
    rotate_left
    ·rintro w' ⟨s0, s1, s2, s3, s4, s5, s6, s7, s8, s9, s10, s11⟩
     go_simp
     with_reducible rfl
    rotate_left
    ·simp only [Act.put, List.setIfInBounds_toArray, List.set_cons_zero, List.set_cons_succ, i64_w, i32_w]
     rfl
    refine take_ (i := 1) (N := some 26) (v := ?_) (a' := ?_) #[true, true, false, false, false, false] rfl rfl (by kernel_rfl) (fun _ _ _ h => h) (Or.inl ⟨by rfl, ?_⟩) hHeld ?_ ?_
    rotate_left
    ·rintro w' ⟨s0, s1, s2, s3, s4, s5, s6, s7, s8, s9, s10, s11⟩
     go_simp
     with_reducible rfl
    rotate_left
    ·simp only [Act.put, List.setIfInBounds_toArray, List.set_cons_zero, List.set_cons_succ, i64_w, i32_w]
     rfl
    refine take_ (i := 2) (N := some 27) (v := ?_) (a' := ?_) #[true, true, true, false, false, false] rfl rfl (by kernel_rfl) (fun _ _ _ h => h) (Or.inl ⟨by rfl, ?_⟩) hHeld ?_ ?_
    rotate_left
    ·rintro w' ⟨s0, s1, s2, s3, s4, s5, s6, s7, s8, s9, s10, s11⟩
     go_simp
     with_reducible rfl
    rotate_left
    ·simp only [Act.put, List.setIfInBounds_toArray, List.set_cons_zero, List.set_cons_succ, i64_w, i32_w]
     rfl
    refine one_ (i := 3) (N := none) #[true, true, true, true, false, false] rfl rfl (by kernel_rfl) (by decide) (fun K hK => ?_)
    have hs87 : w86.cell? ⟨gb394, 0, none⟩ = some (.int .i64 0) := (blk_cell BK394.out 0).trans rfl
    have hfs87 := blk_frozen BK394.out 0
    have hns87_1 := NB395_394.out
    have hns87_2 := NB396_394.out
    have hns87_3 := NB409_394.out
    have hns87_4 := NB418_394.out
    have hns87_5 := NB427_394.out
    have hms87_1 := NB394_395.out
    have hms87_2 := NB394_396.out
    have hms87_3 := NB394_409.out
    have hms87_4 := NB394_418.out
    have hms87_5 := NB394_427.out
    have hs88 : w86.cell? ⟨gb394, 1, none⟩ = some (.int .i64 0) := (blk_cell BK394.out 1).trans rfl
    have hfs88 := blk_frozen BK394.out 1
    have hns88_1 := NB395_394.out
    have hns88_2 := NB396_394.out
    have hns88_3 := NB409_394.out
    have hns88_4 := NB418_394.out
    have hns88_5 := NB427_394.out
    have hms88_1 := NB394_395.out
    have hms88_2 := NB394_396.out
    have hms88_3 := NB394_409.out
    have hms88_4 := NB394_418.out
    have hms88_5 := NB394_427.out
    have hs89 : w86.cell? ⟨gb394, 2, none⟩ = some (.float .f64 0) := (blk_cell BK394.out 2).trans rfl
    have hfs89 := blk_frozen BK394.out 2
    have hns89_1 := NB395_394.out
    have hns89_2 := NB396_394.out
    have hns89_3 := NB409_394.out
    have hns89_4 := NB418_394.out
    have hns89_5 := NB427_394.out
    have hms89_1 := NB394_395.out
    have hms89_2 := NB394_396.out
    have hms89_3 := NB394_409.out
    have hms89_4 := NB394_418.out
    have hms89_5 := NB394_427.out
    have hs90 : w86.cell? ⟨gb394, 3, none⟩ = some (.slice none 0 0) := (blk_cell BK394.out 3).trans rfl
    have hfs90 := blk_frozen BK394.out 3
    have hns90_1 := NB395_394.out
    have hns90_2 := NB396_394.out
    have hns90_3 := NB409_394.out
    have hns90_4 := NB418_394.out
    have hns90_5 := NB427_394.out
    have hms90_1 := NB394_395.out
    have hms90_2 := NB394_396.out
    have hms90_3 := NB394_409.out
    have hms90_4 := NB394_418.out
    have hms90_5 := NB394_427.out
    refine skip_ (w1 := ?_) ?hw_ ?hN_ ?_ ?_
    case hN_ => rfl
    case hw_ => rfl
    rotate_left
    ·go_simp
     rfl
    refine hK.out _ _ ⟨((cell_far (p := ⟨gb394, _, none⟩) NB409_394.out _).trans (((cell_far (p := ⟨gb394, _, none⟩) NB409_394.out _).trans (((cell_far (p := ⟨gb394, _, none⟩) NB409_394.out _).trans (((cell_far (p := ⟨gb394, _, none⟩) NB409_394.out _).trans (hHeld.1)))))))), ((cell_far (p := ⟨gb394, _, none⟩) NB409_394.out _).trans (((cell_far (p := ⟨gb394, _, none⟩) NB409_394.out _).trans (((cell_far (p := ⟨gb394, _, none⟩) NB409_394.out _).trans (((cell_far (p := ⟨gb394, _, none⟩) NB409_394.out _).trans (hHeld.2.1)))))))), ((cell_far (p := ⟨gb394, _, none⟩) NB409_394.out _).trans (((cell_far (p := ⟨gb394, _, none⟩) NB409_394.out _).trans (((cell_far (p := ⟨gb394, _, none⟩) NB409_394.out _).trans (((cell_far (p := ⟨gb394, _, none⟩) NB409_394.out _).trans (hHeld.2.2.1)))))))), ((cell_far (p := ⟨gb394, _, none⟩) NB409_394.out _).trans (((cell_far (p := ⟨gb394, _, none⟩) NB409_394.out _).trans (((cell_far (p := ⟨gb394, _, none⟩) NB409_394.out _).trans (((cell_far (p := ⟨gb394, _, none⟩) NB409_394.out _).trans (hHeld.2.2.2.1)))))))), ((cell_far (p := ⟨gb394, _, none⟩) NB418_394.out _).trans (((cell_far (p := ⟨gb394, _, none⟩) NB418_394.out _).trans (((cell_far (p := ⟨gb394, _, none⟩) NB418_394.out _).trans (((cell_far (p := ⟨gb394, _, none⟩) NB418_394.out _).trans (hHeld.2.2.2.2.1)))))))), ((cell_far (p := ⟨gb394, _, none⟩) NB418_394.out _).trans (((cell_far (p := ⟨gb394, _, none⟩) NB418_394.out _).trans (((cell_far (p := ⟨gb394, _, none⟩) NB418_394.out _).trans (((cell_far (p := ⟨gb394, _, none⟩) NB418_394.out _).trans (hHeld.2.2.2.2.2.1)))))))), ((cell_far (p := ⟨gb394, _, none⟩) NB418_394.out _).trans (((cell_far (p := ⟨gb394, _, none⟩) NB418_394.out _).trans (((cell_far (p := ⟨gb394, _, none⟩) NB418_394.out _).trans (((cell_far (p := ⟨gb394, _, none⟩) NB418_394.out _).trans (hHeld.2.2.2.2.2.2.1)))))))), ((cell_far (p := ⟨gb394, _, none⟩) NB418_394.out _).trans (((cell_far (p := ⟨gb394, _, none⟩) NB418_394.out _).trans (((cell_far (p := ⟨gb394, _, none⟩) NB418_394.out _).trans (((cell_far (p := ⟨gb394, _, none⟩) NB418_394.out _).trans (hHeld.2.2.2.2.2.2.2.1)))))))), ((cell_far (p := ⟨gb394, _, none⟩) NB427_394.out _).trans (((cell_far (p := ⟨gb394, _, none⟩) NB427_394.out _).trans (((cell_far (p := ⟨gb394, _, none⟩) NB427_394.out _).trans (((cell_far (p := ⟨gb394, _, none⟩) NB427_394.out _).trans (hHeld.2.2.2.2.2.2.2.2.1)))))))), ((cell_far (p := ⟨gb394, _, none⟩) NB427_394.out _).trans (((cell_far (p := ⟨gb394, _, none⟩) NB427_394.out _).trans (((cell_far (p := ⟨gb394, _, none⟩) NB427_394.out _).trans (((cell_far (p := ⟨gb394, _, none⟩) NB427_394.out _).trans (hHeld.2.2.2.2.2.2.2.2.2.1)))))))), ((cell_far (p := ⟨gb394, _, none⟩) NB427_394.out _).trans (((cell_far (p := ⟨gb394, _, none⟩) NB427_394.out _).trans (((cell_far (p := ⟨gb394, _, none⟩) NB427_394.out _).trans (((cell_far (p := ⟨gb394, _, none⟩) NB427_394.out _).trans (hHeld.2.2.2.2.2.2.2.2.2.2.1)))))))), ((cell_far (p := ⟨gb394, _, none⟩) NB427_394.out _).trans (((cell_far (p := ⟨gb394, _, none⟩) NB427_394.out _).trans (((cell_far (p := ⟨gb394, _, none⟩) NB427_394.out _).trans (((cell_far (p := ⟨gb394, _, none⟩) NB427_394.out _).trans (hHeld.2.2.2.2.2.2.2.2.2.2.2))))))))⟩ (fun hHeld => ?_)
    clear hK K
    refine one_ (i := 4) (N := none) #[true, true, true, true, true, false] rfl rfl (by kernel_rfl) (by decide) (fun K hK => ?_)
    have hs91 : w86.cell? ⟨gb395, 0, none⟩ = some (.int .i64 0) := (blk_cell BK395.out 0).trans rfl
    have hfs91 := blk_frozen BK395.out 0
    have hns91_0 := NB394_395.out
    have hns91_2 := NB396_395.out
    have hns91_3 := NB409_395.out
    have hns91_4 := NB418_395.out
    have hns91_5 := NB427_395.out
    have hms91_0 := NB395_394.out
    have hms91_2 := NB395_396.out
    have hms91_3 := NB395_409.out
    have hms91_4 := NB395_418.out
    have hms91_5 := NB395_427.out
    have hs92 : w86.cell? ⟨gb395, 1, none⟩ = some (.int .i64 0) := (blk_cell BK395.out 1).trans rfl
    have hfs92 := blk_frozen BK395.out 1
    have hns92_0 := NB394_395.out
    have hns92_2 := NB396_395.out
    have hns92_3 := NB409_395.out
    have hns92_4 := NB418_395.out
    have hns92_5 := NB427_395.out
    have hms92_0 := NB395_394.out
    have hms92_2 := NB395_396.out
    have hms92_3 := NB395_409.out
    have hms92_4 := NB395_418.out
    have hms92_5 := NB395_427.out
    have hs93 : w86.cell? ⟨gb395, 2, none⟩ = some (.float .f64 0) := (blk_cell BK395.out 2).trans rfl
    have hfs93 := blk_frozen BK395.out 2
    have hns93_0 := NB394_395.out
    have hns93_2 := NB396_395.out
    have hns93_3 := NB409_395.out
    have hns93_4 := NB418_395.out
    have hns93_5 := NB427_395.out
    have hms93_0 := NB395_394.out
    have hms93_2 := NB395_396.out
    have hms93_3 := NB395_409.out
    have hms93_4 := NB395_418.out
    have hms93_5 := NB395_427.out
    have hs94 : w86.cell? ⟨gb395, 3, none⟩ = some (.slice none 0 0) := (blk_cell BK395.out 3).trans rfl
    have hfs94 := blk_frozen BK395.out 3
    have hns94_0 := NB394_395.out
    have hns94_2 := NB396_395.out
    have hns94_3 := NB409_395.out
    have hns94_4 := NB418_395.out
    have hns94_5 := NB427_395.out
    have hms94_0 := NB395_394.out
    have hms94_2 := NB395_396.out
    have hms94_3 := NB395_409.out
    have hms94_4 := NB395_418.out
    have hms94_5 := NB395_427.out
    refine skip_ (w1 := ?_) ?hw_ ?hN_ ?_ ?_
    case hN_ => rfl
    case hw_ => rfl
    rotate_left
    ·go_simp
     rfl
    refine hK.out _ _ ⟨((cell_far (p := ⟨gb395, _, none⟩) NB409_395.out _).trans (((cell_far (p := ⟨gb395, _, none⟩) NB409_395.out _).trans (((cell_far (p := ⟨gb395, _, none⟩) NB409_395.out _).trans (((cell_far (p := ⟨gb395, _, none⟩) NB409_395.out _).trans (hHeld.1)))))))), ((cell_far (p := ⟨gb395, _, none⟩) NB409_395.out _).trans (((cell_far (p := ⟨gb395, _, none⟩) NB409_395.out _).trans (((cell_far (p := ⟨gb395, _, none⟩) NB409_395.out _).trans (((cell_far (p := ⟨gb395, _, none⟩) NB409_395.out _).trans (hHeld.2.1)))))))), ((cell_far (p := ⟨gb395, _, none⟩) NB409_395.out _).trans (((cell_far (p := ⟨gb395, _, none⟩) NB409_395.out _).trans (((cell_far (p := ⟨gb395, _, none⟩) NB409_395.out _).trans (((cell_far (p := ⟨gb395, _, none⟩) NB409_395.out _).trans (hHeld.2.2.1)))))))), ((cell_far (p := ⟨gb395, _, none⟩) NB409_395.out _).trans (((cell_far (p := ⟨gb395, _, none⟩) NB409_395.out _).trans (((cell_far (p := ⟨gb395, _, none⟩) NB409_395.out _).trans (((cell_far (p := ⟨gb395, _, none⟩) NB409_395.out _).trans (hHeld.2.2.2.1)))))))), ((cell_far (p := ⟨gb395, _, none⟩) NB418_395.out _).trans (((cell_far (p := ⟨gb395, _, none⟩) NB418_395.out _).trans (((cell_far (p := ⟨gb395, _, none⟩) NB418_395.out _).trans (((cell_far (p := ⟨gb395, _, none⟩) NB418_395.out _).trans (hHeld.2.2.2.2.1)))))))), ((cell_far (p := ⟨gb395, _, none⟩) NB418_395.out _).trans (((cell_far (p := ⟨gb395, _, none⟩) NB418_395.out _).trans (((cell_far (p := ⟨gb395, _, none⟩) NB418_395.out _).trans (((cell_far (p := ⟨gb395, _, none⟩) NB418_395.out _).trans (hHeld.2.2.2.2.2.1)))))))), ((cell_far (p := ⟨gb395, _, none⟩) NB418_395.out _).trans (((cell_far (p := ⟨gb395, _, none⟩) NB418_395.out _).trans (((cell_far (p := ⟨gb395, _, none⟩) NB418_395.out _).trans (((cell_far (p := ⟨gb395, _, none⟩) NB418_395.out _).trans (hHeld.2.2.2.2.2.2.1)))))))), ((cell_far (p := ⟨gb395, _, none⟩) NB418_395.out _).trans (((cell_far (p := ⟨gb395, _, none⟩) NB418_395.out _).trans (((cell_far (p := ⟨gb395, _, none⟩) NB418_395.out _).trans (((cell_far (p := ⟨gb395, _, none⟩) NB418_395.out _).trans (hHeld.2.2.2.2.2.2.2.1)))))))), ((cell_far (p := ⟨gb395, _, none⟩) NB427_395.out _).trans (((cell_far (p := ⟨gb395, _, none⟩) NB427_395.out _).trans (((cell_far (p := ⟨gb395, _, none⟩) NB427_395.out _).trans (((cell_far (p := ⟨gb395, _, none⟩) NB427_395.out _).trans (hHeld.2.2.2.2.2.2.2.2.1)))))))), ((cell_far (p := ⟨gb395, _, none⟩) NB427_395.out _).trans (((cell_far (p := ⟨gb395, _, none⟩) NB427_395.out _).trans (((cell_far (p := ⟨gb395, _, none⟩) NB427_395.out _).trans (((cell_far (p := ⟨gb395, _, none⟩) NB427_395.out _).trans (hHeld.2.2.2.2.2.2.2.2.2.1)))))))), ((cell_far (p := ⟨gb395, _, none⟩) NB427_395.out _).trans (((cell_far (p := ⟨gb395, _, none⟩) NB427_395.out _).trans (((cell_far (p := ⟨gb395, _, none⟩) NB427_395.out _).trans (((cell_far (p := ⟨gb395, _, none⟩) NB427_395.out _).trans (hHeld.2.2.2.2.2.2.2.2.2.2.1)))))))), ((cell_far (p := ⟨gb395, _, none⟩) NB427_395.out _).trans (((cell_far (p := ⟨gb395, _, none⟩) NB427_395.out _).trans (((cell_far (p := ⟨gb395, _, none⟩) NB427_395.out _).trans (((cell_far (p := ⟨gb395, _, none⟩) NB427_395.out _).trans (hHeld.2.2.2.2.2.2.2.2.2.2.2))))))))⟩ (fun hHeld => ?_)
    clear hK K
    refine one_ (i := 5) (N := none) #[true, true, true, true, true, true] rfl rfl (by kernel_rfl) (by decide) (fun K hK => ?_)
    have hs95 : w86.cell? ⟨gb396, 0, none⟩ = some (.int .i64 0) := (blk_cell BK396.out 0).trans rfl
    have hfs95 := blk_frozen BK396.out 0
    have hns95_0 := NB394_396.out
    have hns95_1 := NB395_396.out
    have hns95_3 := NB409_396.out
    have hns95_4 := NB418_396.out
    have hns95_5 := NB427_396.out
    have hms95_0 := NB396_394.out
    have hms95_1 := NB396_395.out
    have hms95_3 := NB396_409.out
    have hms95_4 := NB396_418.out
    have hms95_5 := NB396_427.out
    have hs96 : w86.cell? ⟨gb396, 1, none⟩ = some (.int .i64 0) := (blk_cell BK396.out 1).trans rfl
    have hfs96 := blk_frozen BK396.out 1
    have hns96_0 := NB394_396.out
    have hns96_1 := NB395_396.out
    have hns96_3 := NB409_396.out
    have hns96_4 := NB418_396.out
    have hns96_5 := NB427_396.out
    have hms96_0 := NB396_394.out
    have hms96_1 := NB396_395.out
    have hms96_3 := NB396_409.out
    have hms96_4 := NB396_418.out
    have hms96_5 := NB396_427.out
    have hs97 : w86.cell? ⟨gb396, 2, none⟩ = some (.float .f64 0) := (blk_cell BK396.out 2).trans rfl
    have hfs97 := blk_frozen BK396.out 2
    have hns97_0 := NB394_396.out
    have hns97_1 := NB395_396.out
    have hns97_3 := NB409_396.out
    have hns97_4 := NB418_396.out
    have hns97_5 := NB427_396.out
    have hms97_0 := NB396_394.out
    have hms97_1 := NB396_395.out
    have hms97_3 := NB396_409.out
    have hms97_4 := NB396_418.out
    have hms97_5 := NB396_427.out
    have hs99 : w86.cell? ⟨gb396, 3, none⟩ = some (.slice none 0 0) := (blk_cell BK396.out 3).trans rfl
    have hfs99 := blk_frozen BK396.out 3
    have hns99_0 := NB394_396.out
    have hns99_1 := NB395_396.out
    have hns99_3 := NB409_396.out
    have hns99_4 := NB418_396.out
    have hns99_5 := NB427_396.out
    have hms99_0 := NB396_394.out
    have hms99_1 := NB396_395.out
    have hms99_3 := NB396_409.out
    have hms99_4 := NB396_418.out
    have hms99_5 := NB396_427.out
    refine skip_ (w1 := ?_) ?hw_ ?hN_ ?_ ?_
    case hN_ => rfl
    case hw_ => rfl
    rotate_left
    ·go_simp
     rfl
    refine hK.out _ _ ⟨((cell_far (p := ⟨gb396, _, none⟩) NB409_396.out _).trans (((cell_far (p := ⟨gb396, _, none⟩) NB409_396.out _).trans (((cell_far (p := ⟨gb396, _, none⟩) NB409_396.out _).trans (((cell_far (p := ⟨gb396, _, none⟩) NB409_396.out _).trans (hHeld.1)))))))), ((cell_far (p := ⟨gb396, _, none⟩) NB409_396.out _).trans (((cell_far (p := ⟨gb396, _, none⟩) NB409_396.out _).trans (((cell_far (p := ⟨gb396, _, none⟩) NB409_396.out _).trans (((cell_far (p := ⟨gb396, _, none⟩) NB409_396.out _).trans (hHeld.2.1)))))))), ((cell_far (p := ⟨gb396, _, none⟩) NB409_396.out _).trans (((cell_far (p := ⟨gb396, _, none⟩) NB409_396.out _).trans (((cell_far (p := ⟨gb396, _, none⟩) NB409_396.out _).trans (((cell_far (p := ⟨gb396, _, none⟩) NB409_396.out _).trans (hHeld.2.2.1)))))))), ((cell_far (p := ⟨gb396, _, none⟩) NB409_396.out _).trans (((cell_far (p := ⟨gb396, _, none⟩) NB409_396.out _).trans (((cell_far (p := ⟨gb396, _, none⟩) NB409_396.out _).trans (((cell_far (p := ⟨gb396, _, none⟩) NB409_396.out _).trans (hHeld.2.2.2.1)))))))), ((cell_far (p := ⟨gb396, _, none⟩) NB418_396.out _).trans (((cell_far (p := ⟨gb396, _, none⟩) NB418_396.out _).trans (((cell_far (p := ⟨gb396, _, none⟩) NB418_396.out _).trans (((cell_far (p := ⟨gb396, _, none⟩) NB418_396.out _).trans (hHeld.2.2.2.2.1)))))))), ((cell_far (p := ⟨gb396, _, none⟩) NB418_396.out _).trans (((cell_far (p := ⟨gb396, _, none⟩) NB418_396.out _).trans (((cell_far (p := ⟨gb396, _, none⟩) NB418_396.out _).trans (((cell_far (p := ⟨gb396, _, none⟩) NB418_396.out _).trans (hHeld.2.2.2.2.2.1)))))))), ((cell_far (p := ⟨gb396, _, none⟩) NB418_396.out _).trans (((cell_far (p := ⟨gb396, _, none⟩) NB418_396.out _).trans (((cell_far (p := ⟨gb396, _, none⟩) NB418_396.out _).trans (((cell_far (p := ⟨gb396, _, none⟩) NB418_396.out _).trans (hHeld.2.2.2.2.2.2.1)))))))), ((cell_far (p := ⟨gb396, _, none⟩) NB418_396.out _).trans (((cell_far (p := ⟨gb396, _, none⟩) NB418_396.out _).trans (((cell_far (p := ⟨gb396, _, none⟩) NB418_396.out _).trans (((cell_far (p := ⟨gb396, _, none⟩) NB418_396.out _).trans (hHeld.2.2.2.2.2.2.2.1)))))))), ((cell_far (p := ⟨gb396, _, none⟩) NB427_396.out _).trans (((cell_far (p := ⟨gb396, _, none⟩) NB427_396.out _).trans (((cell_far (p := ⟨gb396, _, none⟩) NB427_396.out _).trans (((cell_far (p := ⟨gb396, _, none⟩) NB427_396.out _).trans (hHeld.2.2.2.2.2.2.2.2.1)))))))), ((cell_far (p := ⟨gb396, _, none⟩) NB427_396.out _).trans (((cell_far (p := ⟨gb396, _, none⟩) NB427_396.out _).trans (((cell_far (p := ⟨gb396, _, none⟩) NB427_396.out _).trans (((cell_far (p := ⟨gb396, _, none⟩) NB427_396.out _).trans (hHeld.2.2.2.2.2.2.2.2.2.1)))))))), ((cell_far (p := ⟨gb396, _, none⟩) NB427_396.out _).trans (((cell_far (p := ⟨gb396, _, none⟩) NB427_396.out _).trans (((cell_far (p := ⟨gb396, _, none⟩) NB427_396.out _).trans (((cell_far (p := ⟨gb396, _, none⟩) NB427_396.out _).trans (hHeld.2.2.2.2.2.2.2.2.2.2.1)))))))), ((cell_far (p := ⟨gb396, _, none⟩) NB427_396.out _).trans (((cell_far (p := ⟨gb396, _, none⟩) NB427_396.out _).trans (((cell_far (p := ⟨gb396, _, none⟩) NB427_396.out _).trans (((cell_far (p := ⟨gb396, _, none⟩) NB427_396.out _).trans (hHeld.2.2.2.2.2.2.2.2.2.2.2))))))))⟩ (fun hHeld => ?_)
    clear hK K
    refine done_ (by kernel_rfl) ?_
    try go_wp2
    refine bodyPost_ret (results_list (rs := [.cell 2 28, .cell 3 28, .cell 4 28]) rfl (by simp) (.cell gb394 28 #[.int .i64 t401, .int .i64 t402, .float .f64 b403, .slice Ao19 t404.length co19] (0, 0) _ rfl (bput BK394.out) Try.underlying28 rfl (by kernel_rfl) (.cell gb395 28 #[.int .i64 t410, .int .i64 t411, .float .f64 b412, .slice Ao28 t413.length co28] (0, 0) _ rfl (bput BK395.out) Try.underlying28 rfl (by kernel_rfl) (.cell gb396 28 #[.int .i64 x428000_6, .int .i64 x428001_6, .float .f64 b428002_6, .slice Ao98 x428003_6.length co98] (0, 0) _ rfl (bput BK396.out) Try.underlying28 rfl (by kernel_rfl) .nil)))) rfl ?_
    exact ⟨_, _, _, _, _, _, by first | rfl | (simp [errW_none, errW_some] <;> rfl) | (simp [*, errW_none, errW_some] <;> rfl), by exact Kd.rup (Kd.R_mono (Kd.R_far (p := ⟨gb396, 3, none⟩) (Kd.R_far (p := ⟨gb396, 2, none⟩) (Kd.R_far (p := ⟨gb396, 1, none⟩) (Kd.R_far (p := ⟨gb396, 0, none⟩) (Kd.R_far (p := ⟨gb395, 3, none⟩) (Kd.R_far (p := ⟨gb395, 2, none⟩) (Kd.R_far (p := ⟨gb395, 1, none⟩) (Kd.R_far (p := ⟨gb395, 0, none⟩) (Kd.R_far (p := ⟨gb394, 3, none⟩) (Kd.R_far (p := ⟨gb394, 2, none⟩) (Kd.R_far (p := ⟨gb394, 1, none⟩) (Kd.R_far (p := ⟨gb394, 0, none⟩) (Kd.R_types (Kd.R_types (Kd.R_types HO_410003.out BK394.out (by decide)) BK395.out (by decide)) BK396.out (by decide)) (fun _ hk => hk.1.1.2) (.int .i64 t401)) (fun _ hk => hk.1.1.2) (.int .i64 t402)) (fun _ hk => hk.1.1.2) (.float .f64 b403)) (fun _ hk => hk.1.1.2) (.slice Ao19 t404.length co19)) (fun _ hk => hk.1.2) (.int .i64 t410)) (fun _ hk => hk.1.2) (.int .i64 t411)) (fun _ hk => hk.1.2) (.float .f64 b412)) (fun _ hk => hk.1.2) (.slice Ao28 t413.length co28)) (fun _ hk => hk.2) (.int .i64 x428000_6)) (fun _ hk => hk.2) (.int .i64 x428001_6)) (fun _ hk => hk.2) (.float .f64 b428002_6)) (fun _ hk => hk.2) (.slice Ao98 x428003_6.length co98)) (fun _ hk => ⟨hk.1.1.1.1, hk.1.1.1.2⟩)), by exact Kd.rup (Kd.R_mono (Kd.R_far (p := ⟨gb396, 3, none⟩) (Kd.R_far (p := ⟨gb396, 2, none⟩) (Kd.R_far (p := ⟨gb396, 1, none⟩) (Kd.R_far (p := ⟨gb396, 0, none⟩) (Kd.R_far (p := ⟨gb395, 3, none⟩) (Kd.R_far (p := ⟨gb395, 2, none⟩) (Kd.R_far (p := ⟨gb395, 1, none⟩) (Kd.R_far (p := ⟨gb395, 0, none⟩) (Kd.R_far (p := ⟨gb394, 3, none⟩) (Kd.R_far (p := ⟨gb394, 2, none⟩) (Kd.R_far (p := ⟨gb394, 1, none⟩) (Kd.R_far (p := ⟨gb394, 0, none⟩) (Kd.R_types (Kd.R_types (Kd.R_types HO_419003.out BK394.out (by decide)) BK395.out (by decide)) BK396.out (by decide)) (fun _ hk => hk.1.1.2) (.int .i64 t401)) (fun _ hk => hk.1.1.2) (.int .i64 t402)) (fun _ hk => hk.1.1.2) (.float .f64 b403)) (fun _ hk => hk.1.1.2) (.slice Ao19 t404.length co19)) (fun _ hk => hk.1.2) (.int .i64 t410)) (fun _ hk => hk.1.2) (.int .i64 t411)) (fun _ hk => hk.1.2) (.float .f64 b412)) (fun _ hk => hk.1.2) (.slice Ao28 t413.length co28)) (fun _ hk => hk.2) (.int .i64 x428000_6)) (fun _ hk => hk.2) (.int .i64 x428001_6)) (fun _ hk => hk.2) (.float .f64 b428002_6)) (fun _ hk => hk.2) (.slice Ao98 x428003_6.length co98)) (fun _ hk => ⟨hk.1.1.1.1, hk.1.1.1.2⟩)), by exact Kd.rup (Kd.R_mono (Kd.R_far (p := ⟨gb396, 3, none⟩) (Kd.R_far (p := ⟨gb396, 2, none⟩) (Kd.R_far (p := ⟨gb396, 1, none⟩) (Kd.R_far (p := ⟨gb396, 0, none⟩) (Kd.R_far (p := ⟨gb395, 3, none⟩) (Kd.R_far (p := ⟨gb395, 2, none⟩) (Kd.R_far (p := ⟨gb395, 1, none⟩) (Kd.R_far (p := ⟨gb395, 0, none⟩) (Kd.R_far (p := ⟨gb394, 3, none⟩) (Kd.R_far (p := ⟨gb394, 2, none⟩) (Kd.R_far (p := ⟨gb394, 1, none⟩) (Kd.R_far (p := ⟨gb394, 0, none⟩) (Kd.R_types (Kd.R_types (Kd.R_types HO_428003.out BK394.out (by decide)) BK395.out (by decide)) BK396.out (by decide)) (fun _ hk => hk.1.1.2) (.int .i64 t401)) (fun _ hk => hk.1.1.2) (.int .i64 t402)) (fun _ hk => hk.1.1.2) (.float .f64 b403)) (fun _ hk => hk.1.1.2) (.slice Ao19 t404.length co19)) (fun _ hk => hk.1.2) (.int .i64 t410)) (fun _ hk => hk.1.2) (.int .i64 t411)) (fun _ hk => hk.1.2) (.float .f64 b412)) (fun _ hk => hk.1.2) (.slice Ao28 t413.length co28)) (fun _ hk => hk.2) (.int .i64 x428000_6)) (fun _ hk => hk.2) (.int .i64 x428001_6)) (fun _ hk => hk.2) (.float .f64 b428002_6)) (fun _ hk => hk.2) (.slice Ao98 x428003_6.length co98)) (fun _ hk => ⟨hk.1.1.1.1, hk.1.1.1.2⟩)), by repeat (first | (with_reducible first | exact HB.out | apply h1 | apply h2 | apply h3 | refine h4 ?_ (IsS61.ge HI400.out) | refine h4 ?_ GE394.out | refine h4 ?_ GE395.out | refine h4 ?_ GE396.out | refine h4 ?_ GE409.out | refine h4 ?_ GE418.out | refine h4 ?_ GE427.out) | exact HB.out), (by first | exact ⟨⟨rfl, LTb403.out⟩⟩ | exact ⟨⟨rfl, LTb412.out⟩⟩ | exact ⟨⟨rfl, LTb421.out⟩⟩ | exact ⟨⟨rfl, LTb428002_6.out⟩⟩ | exact ⟨⟨by first | rfl | decide, by decide⟩⟩ | exact ⟨⟨rfl, fquo_lt (by assumption)⟩⟩), (by first | exact ⟨⟨rfl, LTb403.out⟩⟩ | exact ⟨⟨rfl, LTb412.out⟩⟩ | exact ⟨⟨rfl, LTb421.out⟩⟩ | exact ⟨⟨rfl, LTb428002_6.out⟩⟩ | exact ⟨⟨by first | rfl | decide, by decide⟩⟩ | exact ⟨⟨rfl, fquo_lt (by assumption)⟩⟩), (by first | exact ⟨⟨rfl, LTb403.out⟩⟩ | exact ⟨⟨rfl, LTb412.out⟩⟩ | exact ⟨⟨rfl, LTb421.out⟩⟩ | exact ⟨⟨rfl, LTb428002_6.out⟩⟩ | exact ⟨⟨by first | rfl | decide, by decide⟩⟩ | exact ⟨⟨rfl, fquo_lt (by assumption)⟩⟩)⟩
end Go.Proofs.Ytcjeokkhpjppaaa.PFnSpans
