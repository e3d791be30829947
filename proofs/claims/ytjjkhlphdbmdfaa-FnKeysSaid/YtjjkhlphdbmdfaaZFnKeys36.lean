import Derived.Test.YtjjkhlphdbmdfaaZFnKeys29
import Derived.Test.YtjjkhlphdbmdfaaZFnKeys32
import Derived.Test.YtjjkhlphdbmdfaaZFnKeys33
import Derived.Test.YtjjkhlphdbmdfaaZFnKeys34
import Derived.Test.YtjjkhlphdbmdfaaZFnKeys35
namespace Go.Proofs.Ytjjkhlphdbmdfaa.PFnKeys
open Go.RowKit Go.Proofs.YtjjkhlphdbmdfaaW.PrintWords Go.Proofs.YtjjkhlphdbmdfaaW.PrintLast Go.Proofs.YtjjkhlphdbmdfaaW.PrintMore
attribute [local go_sem] max2_int min2_int max_two min_two max_three min_three max_four min_four   -- for this text's walks alone
attribute [local go_sem high] fl_eql fl_neq fl_lss fl_leq fl_gtr fl_geq fl_add fl_sub fl_mul fl_quo fl_neg fl_ofInt fl_toInt fl_store sub_sign ext_bits ext_from fl_nan_quo fl_nan_add fl_nan_mul fl_nan_sub
open Go.Proofs.YtjjkhlphdbmdfaaW.PrintWords renaming below_alloc → h1, pw_below_drewN → h2, below_drew1 → h3, below_set → h4, blk_drewN → b1, blk_drew → b2, blk_alloc → b3
set_option linter.unusedVariables false
set_option linter.unusedSimpArgs false
mutual
def spec_l3any.j0 : Nat → List Int → Int → Int → Int → Int → Nat → List Int → Option (Int × Int × Nat × List Int × Int × Int)
 | 0, _, _, _, _, _, _, _ => none
 | k + 1, x1000, x1001, x1002, x393000, x393001, x393002, x393003 => (spec_l1Below.f x1000 x1001 x1002 14).bind fun bt404 => (if bt404.1 = 0 then ((spec_l1Below.f x1000 bt404.2.1 bt404.2.2 7).bind fun bt407 => (some (wrap64 (bt407.1 - 1), x393001, x393002, x393003, bt407.2.1, bt407.2.2))) else (if bt404.1 = 1 then (some (x393000, wrap64 (x393001 + 1), x393002, x393003, bt404.2.1, bt404.2.2)) else (if bt404.1 = 2 then ((spec_l2float.f k x1000 bt404.2.1 bt404.2.2).bind fun bt410 => (some (x393000, x393001, bt410.1, x393003, bt410.2.1, bt410.2.2))) else (if bt404.1 = 3 then ((spec_l1some.f k x1000 bt404.2.1 bt404.2.2 3).bind fun bt413 => (if x393003.length + bt413.1.length < 140737488355328 then (some (x393000, x393001, x393002, (x393003 ++ bt413.1), bt413.2.1, bt413.2.2)) else (none))) else (if bt404.1 = 4 then (spec_l3any.l0 k x1000 bt404.2.1 bt404.2.2 x393000 x393001 x393002 x393003) else (if bt404.1 = 5 then (some (2, 0, fneg 0, ([] : List Int), bt404.2.1, bt404.2.2)) else (some (x393000, x393001, x393002, x393003, bt404.2.1, bt404.2.2))))))))
def spec_l3any.l0 : Nat → List Int → Int → Int → Int → Int → Nat → List Int → Option (Int × Int × Nat × List Int × Int × Int)
 | 0, _, _, _, _, _, _, _ => none
 | k + 1, x1000, x1001, x1002, x393000, x393001, x393002, x393003 => (spec_l1Below.f x1000 x1001 x1002 2).bind fun bt421 => (if (x393003.length : Int) < (wrap64 (40 + bt421.1)) then (if x393003.length < 140737488355328 then (spec_l3any.l0 k x1000 bt421.2.1 bt421.2.2 x393000 x393001 x393002 (x393003 ++ [120])) else (none)) else (some (3, 0, 0, x393003, bt421.2.1, bt421.2.2)))
end
def spec_l3any.f (k : Nat) (s0_0 : List Int) (s0_1 : Int) (s0_2 : Int) : Option (Int × Int × Nat × List Int × Int × Int) := (spec_l3value.f k s0_0 s0_1 s0_2).bind fun bt384 => ((spec_l1Once.f s0_0 bt384.2.2.2.2.1 bt384.2.2.2.2.2 2).bind fun bt393 => (if bt393.1 = true then ((spec_l3key.f k s0_0 bt393.2.1 bt393.2.2).bind fun bt396 => (spec_l3any.j0 k s0_0 bt396.2.2.2.2.1 bt396.2.2.2.2.2 bt396.1 bt396.2.1 bt396.2.2.1 bt396.2.2.2.1)) else (spec_l3any.j0 k s0_0 bt393.2.1 bt393.2.2 bt384.1 bt384.2.1 bt384.2.2.1 bt384.2.2.2.1)))
theorem spec_l3any.mono_l : ∀ k, (∀ y0 y1 y2 y3 y4 y5 y6, LeO (spec_l3any.j0 k y0 y1 y2 y3 y4 y5 y6) (spec_l3any.j0 (k + 1) y0 y1 y2 y3 y4 y5 y6)) ∧ (∀ y0 y1 y2 y3 y4 y5 y6, LeO (spec_l3any.l0 k y0 y1 y2 y3 y4 y5 y6) (spec_l3any.l0 (k + 1) y0 y1 y2 y3 y4 y5 y6))
 | 0 => ⟨fun _ _ _ _ _ _ _ r h => by simp [spec_l3any.j0] at h, fun _ _ _ _ _ _ _ r h => by simp [spec_l3any.l0] at h⟩
 | k + 1 => by
  obtain ⟨ih0, ih1⟩ := spec_l3any.mono_l k
  refine ⟨?_, ?_⟩
  ·intro y0 y1 y2 y3 y4 y5 y6
   unfold spec_l3any.j0
   repeat' with_reducible first | exact ih0 _ _ _ _ _ _ _ | exact ih1 _ _ _ _ _ _ _ | exact spec_l1some.mono _ _ _ _ _ | exact spec_l2float.mono _ _ _ _ | exact spec_l3key.mono _ _ _ _ | exact spec_l3value.mono _ _ _ _ | exact LeO.refl _ | exact LeO.none _ | refine LeO.ite ?_ ?_ | refine LeO.bind ?_ (fun _ => ?_)
  ·intro y0 y1 y2 y3 y4 y5 y6
   unfold spec_l3any.l0
   repeat' with_reducible first | exact ih0 _ _ _ _ _ _ _ | exact ih1 _ _ _ _ _ _ _ | exact spec_l1some.mono _ _ _ _ _ | exact spec_l2float.mono _ _ _ _ | exact spec_l3key.mono _ _ _ _ | exact spec_l3value.mono _ _ _ _ | exact LeO.refl _ | exact LeO.none _ | refine LeO.ite ?_ ?_ | refine LeO.bind ?_ (fun _ => ?_)
theorem spec_l3any.mono : ∀ a0 a1 a2 k, LeO (spec_l3any.f k a0 a1 a2) (spec_l3any.f (k + 1) a0 a1 a2) := by
 intro a0 a1 a2 k
 obtain ⟨ih0, ih1⟩ := spec_l3any.mono_l k
 unfold spec_l3any.f
 repeat' with_reducible first | exact ih0 _ _ _ _ _ _ _ | exact ih1 _ _ _ _ _ _ _ | exact spec_l1some.mono _ _ _ _ _ | exact spec_l2float.mono _ _ _ _ | exact spec_l3key.mono _ _ _ _ | exact spec_l3value.mono _ _ _ _ | exact LeO.refl _ | exact LeO.none _ | refine LeO.ite ?_ ?_ | refine LeO.bind ?_ (fun _ => ?_)
set_option maxHeartbeats 8000000 in
set_option maxRecDepth 100000 in
theorem spec_l3any.callsC (k : Nat) (g : Nat) (s0_0 : List Int) (s0_1 : Int) (s0_2 : Int) (r1 : Int) (r2 : Int) (r3 : Nat) (r4 : List Int) (r5 : Int) (r6 : Int) (w0 w : World) (hI : IsS83 w0 w g s0_0 s0_1 s0_2) (hB : Below w0.heap.size w0 w) (h : spec_l3any.f k s0_0 s0_1 s0_2 = some (r1, r2, r3, r4, r5, r6)) :
  Calls Try.prog 58 #[.pointer (some ⟨g, 0, none⟩)] w fun e w' => ∃ b1_ : Nat, ∃ v3_ : Value, e = .returned (.agg #[.int .i64 r1, .int .i64 r2, .float .f64 b1_, v3_]) ∧ Kd.R (Kd.int .u8) 5 w' w.heap.size (fun _ => True) v3_ r4 ∧ IsS83 w0 w' g s0_0 r5 r6 ∧ Below w0.heap.size w0 w' ∧ KeepBut w w' g none ∧ Aside0 (cn b1_ = r3 ∧ b1_ < 2 ^ 64) := by
 have hu25 := Try.underlying25
 have HI0 := Aside0.mk hI
 have HK := Aside0.mk (KeepBut.refl w g none)
 have HL := Aside0.mk hB.size
 clear hI
 have HW0 := Aside0.mk hB.size
 have HB := Aside0.mk hB
 clear hB
 have H := h
 clear h
 unfold spec_l3any.f at H
 replace H := Option.bind_eq_some_iff.mp H
 obtain ⟨⟨t384, t385, t386, t387, t390, t391⟩, A20, H⟩ := H
 (try dsimp only at H)
 have A2 := Aside0.mk A20
 clear A20
 replace H := Option.bind_eq_some_iff.mp H
 obtain ⟨⟨t393, t394, t395⟩, A30, H⟩ := H
 (try dsimp only at H)
 have A3 := Aside0.mk A30
 clear A30
 have HC4 := Aside0.mk H
 clear H
 go_enter Try.func58, Try.ntmps58
 go_upto_if 8 with (first | ((with_reducible refine gate_dst (N := 2) rfl ?_); refine box_event ?hg (N := 2) ?hd (cs := #[.int .i64 0, .int .i64 0, .float .f64 0, .slice none 0 0]) (t := 25) ?hr ?_; (case hd => rfl); (case hg => rfl); (case hr => first | (go_simp; done) | (go_simp; rfl)); intro gb383 hg w5 hbox hb; have n0_ := Aside0.mk (IsS83.below (by repeat (first | (with_reducible first | exact HI0.out | apply IsS83.alloc | apply IsS83.drewN | apply IsS83.drew | apply IsS83.set_1 | apply IsS83.set_2) | exact HI0.out)) hb); have n1_ := Aside0.mk (KeepBut.trans (by repeat (first | (with_reducible first | exact HK.out | apply KeepBut.set_ | apply keep_drewN | apply keep_drew | apply keep_alloc) | exact HK.out)) (KeepBut.of_below hb g none) (.inl rfl)); have n2_ := Aside0.mk (below_step (by repeat (first | (with_reducible first | exact HB.out | apply h1 | apply h2 | apply h3 | refine h4 ?_ (IsS83.ge HI0.out)) | exact HB.out)) hb); have n3_ := Aside0.mk (hbox); have n4_ := Geq.mk ((by rw [hg]; exact (keep_size (w := w) (g := g) (row := none) (by repeat (first | (with_reducible first | exact HK.out | apply KeepBut.set_ | apply keep_drewN | apply keep_drew | apply keep_alloc) | exact HK.out))) : w.heap.size ≤ gb383)); have n5_ := Aside0.mk ((Nat.le_trans HW0.out (by rw [hg]; exact (keep_size (w := w) (g := g) (row := none) (by repeat (first | (with_reducible first | exact HK.out | apply KeepBut.set_ | apply keep_drewN | apply keep_drew | apply keep_alloc) | exact HK.out))) : w.heap.size ≤ gb383) : w0.heap.size ≤ gb383)); have n6_ := Aside0.mk ((by rw [hg]; exact Nat.ne_of_lt (IsS83.lt (show IsS83 w0 _ g s0_0 s0_1 s0_2 from by repeat (first | (with_reducible first | exact HI0.out | apply IsS83.alloc | apply IsS83.drewN | apply IsS83.drew | apply IsS83.set_1 | apply IsS83.set_2) | exact HI0.out))) : g ≠ gb383)); have n7_ := Aside0.mk ((by rw [hg]; exact Nat.ne_of_gt (IsS83.lt (show IsS83 w0 _ g s0_0 s0_1 s0_2 from by repeat (first | (with_reducible first | exact HI0.out | apply IsS83.alloc | apply IsS83.drewN | apply IsS83.drew | apply IsS83.set_1 | apply IsS83.set_2) | exact HI0.out))) : gb383 ≠ g)); clear HI0; clear HK; clear HB; have HI0 := n0_; have HK := n1_; have HB := n2_; have BK383 := n3_; have GW383 := n4_; have GE383 := n5_; have NB0_383 := n6_; have NB383_0 := n7_; clear n0_ n1_ n2_ n3_ n4_ n5_ n6_ n7_; clear hb hbox hg) | ((with_reducible refine gate_callee (f := 66) rfl ?_); refine goesL_ (some 6) rfl rfl Try.func66 (by kernel_rfl) rfl #[.pointer (some ⟨g, 0, none⟩)] rfl (by (try simp only [List.map_toArray, List.map_cons, List.map_nil]); first | done | rfl) ?_; (with_reducible refine (spec_l3value.callsC k g s0_0 s0_1 s0_2 t384 t385 t386 t387 t390 t391 w0 _ ?side1 ?side2 A2.out).mono ?_); (case side1 => repeat (first | (with_reducible first | exact HI0.out | apply IsS83.alloc | apply IsS83.drewN | apply IsS83.drew | apply IsS83.set_1 | apply IsS83.set_2 | refine IsS83.far ?_ NB0_383.out _) | exact HI0.out)); (case side2 => repeat (first | (with_reducible first | exact HB.out | apply h1 | apply h2 | apply h3 | refine h4 ?_ (IsS83.ge HI0.out) | refine h4 ?_ GE383.out) | exact HB.out)); rintro e w6 ⟨b386, v388, rfl, ho0, hi, hb, hk, ⟨⟨hcnb386, hltb386⟩⟩⟩; refine ⟨_, rfl, ?_⟩; have LTb386 := Aside0.mk hltb386; clear hltb386; subst hcnb386; have n0_ := Aside0.mk (KeepBut.blk hk (g' := gb383) (o := .cells #[.int .i64 0, .int .i64 0, .float .f64 0, .slice none 0 0] 25 (0, 0)) (bup BK383.out) NB383_0.out (by simp)); have n1_ := Aside0.mk (Kd.R_lower ho0 (keep_size (w := w) (g := g) (row := none) (by repeat (first | (with_reducible first | exact HK.out | apply KeepBut.set_ | apply keep_drewN | apply keep_drew | apply keep_alloc | refine keep_far ?_ GW383.out _) | exact HK.out)))); have n2_ := Aside0.mk (KeepBut.trans (by repeat (first | (with_reducible first | exact HK.out | apply KeepBut.set_ | apply keep_drewN | apply keep_drew | apply keep_alloc | refine keep_far ?_ GW383.out _) | exact HK.out)) hk (.inl rfl)); have n3_ := Aside0.mk (hb); have n4_ := Aside0.mk (hi); clear BK383; clear HK; clear HB; clear HI0; have BK383 := n0_; have HO389 := n1_; have HK := n2_; have HB := n3_; have HI0 := n4_; clear n0_ n1_ n2_ n3_ n4_; (try clear hb); (try clear hb2); (try clear hk); (try clear hi); (try clear ho0)) | ((with_reducible refine gate_dst (N := 3) rfl ?_); refine box_event ?hg (N := 3) ?hd (cs := #[.int .i64 0, .int .i64 0, .float .f64 0, .slice none 0 0]) (t := 25) ?hr ?_; (case hd => rfl); (case hg => rfl); (case hr => first | (go_simp; done) | (go_simp; rfl)); intro gb392 hg w7 hbox hb; have n0_ := Aside0.mk (Kd.R_below (Kd.rup HO389.out) hb); have n1_ := Aside0.mk (IsS83.below (by repeat (first | (with_reducible first | exact HI0.out | apply IsS83.alloc | apply IsS83.drewN | apply IsS83.drew | apply IsS83.set_1 | apply IsS83.set_2 | refine IsS83.far ?_ NB0_383.out _) | exact HI0.out)) hb); have n2_ := Aside0.mk (blk_below (bup BK383.out) hb); have n3_ := Aside0.mk (KeepBut.trans (by repeat (first | (with_reducible first | exact HK.out | apply KeepBut.set_ | apply keep_drewN | apply keep_drew | apply keep_alloc | refine keep_far ?_ GW383.out _) | exact HK.out)) (KeepBut.of_below hb g none) (.inl rfl)); have n4_ := Aside0.mk (below_step (by repeat (first | (with_reducible first | exact HB.out | apply h1 | apply h2 | apply h3 | refine h4 ?_ (IsS83.ge HI0.out) | refine h4 ?_ GE383.out) | exact HB.out)) hb); have n5_ := Aside0.mk (hbox); have n6_ := Geq.mk ((by rw [hg]; exact (keep_size (w := w) (g := g) (row := none) (by repeat (first | (with_reducible first | exact HK.out | apply KeepBut.set_ | apply keep_drewN | apply keep_drew | apply keep_alloc | refine keep_far ?_ GW383.out _) | exact HK.out))) : w.heap.size ≤ gb392)); have n7_ := Aside0.mk ((Nat.le_trans HW0.out (by rw [hg]; exact (keep_size (w := w) (g := g) (row := none) (by repeat (first | (with_reducible first | exact HK.out | apply KeepBut.set_ | apply keep_drewN | apply keep_drew | apply keep_alloc | refine keep_far ?_ GW383.out _) | exact HK.out))) : w.heap.size ≤ gb392) : w0.heap.size ≤ gb392)); have n8_ := Neq.mk ((by rw [hg]; exact Nat.ne_of_lt (blk_lt (g := gb383) (o := .cells #[.int .i64 0, .int .i64 0, .float .f64 0, .slice none 0 0] 25 (0, 0)) (bup BK383.out)) : gb383 ≠ gb392)); have n9_ := Neq.mk ((by rw [hg]; exact Nat.ne_of_gt (blk_lt (g := gb383) (o := .cells #[.int .i64 0, .int .i64 0, .float .f64 0, .slice none 0 0] 25 (0, 0)) (bup BK383.out)) : gb392 ≠ gb383)); have n10_ := Aside0.mk ((by rw [hg]; exact Nat.ne_of_lt (IsS83.lt (show IsS83 w0 _ g s0_0 t390 t391 from by repeat (first | (with_reducible first | exact HI0.out | apply IsS83.alloc | apply IsS83.drewN | apply IsS83.drew | apply IsS83.set_1 | apply IsS83.set_2 | refine IsS83.far ?_ NB0_383.out _) | exact HI0.out))) : g ≠ gb392)); have n11_ := Aside0.mk ((by rw [hg]; exact Nat.ne_of_gt (IsS83.lt (show IsS83 w0 _ g s0_0 t390 t391 from by repeat (first | (with_reducible first | exact HI0.out | apply IsS83.alloc | apply IsS83.drewN | apply IsS83.drew | apply IsS83.set_1 | apply IsS83.set_2 | refine IsS83.far ?_ NB0_383.out _) | exact HI0.out))) : gb392 ≠ g)); clear HO389; clear HI0; clear BK383; clear HK; clear HB; have HO389 := n0_; have HI0 := n1_; have BK383 := n2_; have HK := n3_; have HB := n4_; have BK392 := n5_; have GW392 := n6_; have GE392 := n7_; have NB383_392 := n8_; have NB392_383 := n9_; have NB0_392 := n10_; have NB392_0 := n11_; clear n0_ n1_ n2_ n3_ n4_ n5_ n6_ n7_ n8_ n9_ n10_ n11_; clear hb hbox hg; have hnb8 := NB392_383.out; have hnc8 := NB383_392.out; have hnb9 := NB392_0.out; have hnc9 := NB0_392.out; obtain ⟨hcz10_0, hcz10_1, hcz10_2, hcz10_3⟩ := blk_cells4 BK392.out; obtain ⟨hfz10_0, hfz10_1, hfz10_2, hfz10_3⟩ := blk_frozens4 BK392.out; obtain ⟨Ao11, co11, eo11⟩ := Kd.R_slice HO389.out; subst eo11) | ((with_reducible refine gate_callee (f := 67) rfl ?_); refine goesL_ (some 8) rfl rfl Try.func67 (by kernel_rfl) rfl #[.pointer (some ⟨g, 0, none⟩), .int .i64 2] rfl (by (try simp only [List.map_toArray, List.map_cons, List.map_nil]); first | done | rfl) ?_; (with_reducible refine (spec_l1Once.calls g s0_0 t390 t391 2 t393 t394 t395 w0 _ ?side1 ?side2 A3.out).mono ?_); (case side1 => repeat (first | (with_reducible first | exact HI0.out | apply IsS83.alloc | apply IsS83.drewN | apply IsS83.drew | apply IsS83.set_1 | apply IsS83.set_2 | refine IsS83.far ?_ NB0_383.out _ | refine IsS83.far ?_ NB0_392.out _) | exact HI0.out)); (case side2 => repeat (first | (with_reducible first | exact HB.out | apply h1 | apply h2 | apply h3 | refine h4 ?_ (IsS83.ge HI0.out) | refine h4 ?_ GE383.out | refine h4 ?_ GE392.out) | exact HB.out)); rintro e w12 ⟨rfl, hi, hb, hk⟩; refine ⟨_, rfl, ?_⟩; have n0_ := Aside0.mk (KeepBut.blk hk (g' := gb383) (o := .cells #[.int .i64 0, .int .i64 0, .float .f64 0, .slice none 0 0] 25 (0, 0)) (bput BK383.out) NB383_0.out (by simp)); have n1_ := Aside0.mk (Kd.R_mono (Kd.R_keep (IsS83.apart (show IsS83 w0 _ g s0_0 t390 t391 from by repeat (first | (with_reducible first | exact HI0.out | apply IsS83.alloc | apply IsS83.drewN | apply IsS83.drew | apply IsS83.set_1 | apply IsS83.set_2 | refine IsS83.far ?_ NB0_383.out _ | refine IsS83.far ?_ NB0_392.out _) | exact HI0.out)) ((Kd.roff1 HO389.out BK392.out (by decide))) (by decide)) hk (fun _ h => h.2)) (fun _ h => h.1)); have n2_ := Aside0.mk (KeepBut.blk hk (g' := gb392) (o := .cells #[.int .i64 t384, .int .i64 t385, .float .f64 b386, .slice Ao11 t387.length co11] 25 (0, 0)) (bput BK392.out) NB392_0.out (by simp)); have n3_ := Aside0.mk (KeepBut.trans (by repeat (first | (with_reducible first | exact HK.out | apply KeepBut.set_ | apply keep_drewN | apply keep_drew | apply keep_alloc | refine keep_far ?_ GW383.out _ | refine keep_far ?_ GW392.out _) | exact HK.out)) hk (.inl rfl)); have n4_ := Aside0.mk (hb); have n5_ := Aside0.mk (hi); clear BK383; clear HO389; clear BK392; clear HK; clear HB; clear HI0; have BK383 := n0_; have HO389 := n1_; have BK392 := n2_; have HK := n3_; have HB := n4_; have HI0 := n5_; clear n0_ n1_ n2_ n3_ n4_ n5_; (try clear hb); (try clear hb2); (try clear hk); (try clear hi)))
 (try simp only [Act.put, List.setIfInBounds_toArray, List.set_cons_zero, List.set_cons_succ])
 go_cut [] (fun wc => ∃ (kq : Nat) (x1001_3 : Int) (x1002_3 : Int) (x393000_3 : Int) (x393001_3 : Int) (b393002_3 : Nat) (x393003_3 : List Int) (u393003 : Value), Aside0 (spec_l3any.j0 kq s0_0 x1001_3 x1002_3 x393000_3 x393001_3 (cn b393002_3) x393003_3 = some (r1, r2, r3, r4, r5, r6)) ∧ Aside0 (kq ≤ k) ∧ Aside0 (Kd.R (Kd.int .u8) 5 wc w.heap.size (fun _ => True) u393003 x393003_3) ∧ Aside0 (wc.heap[gb383]? = some (.cells #[.int .i64 0, .int .i64 0, .float .f64 0, (.slice none 0 0)] 25 (0, 0))) ∧ Aside0 (wc.heap[gb392]? = some (.cells #[.int .i64 x393000_3, .int .i64 x393001_3, .float .f64 b393002_3, u393003] 25 (0, 0))) ∧ Aside0 (IsS83 w0 wc g s0_0 x1001_3 x1002_3) ∧ Aside0 (KeepBut w wc g none) ∧ Aside0 (Below w0.heap.size w0 wc) ∧ Aside0 (b393002_3 < 2 ^ 64))
 case first =>
  have H := HC4.out
  clear HC4
  by_cases c13 : t393 = true
  ·subst c13
   rw [if_pos rfl] at H
   (try dsimp only at H)
   replace H := Option.bind_eq_some_iff.mp H
   obtain ⟨⟨t396, t397, t398, t399, t402, t403⟩, A140, H⟩ := H
   (try dsimp only at H)
   have A14 := Aside0.mk A140
   clear A140
   have H' := Aside0.mk H
   clear H
   go_wp2_with (first | ((with_reducible refine gate_callee (f := 62) rfl ?_); refine goesL_ (some 10) rfl rfl Try.func62 (by kernel_rfl) rfl #[.pointer (some ⟨g, 0, none⟩)] rfl (by (try simp only [List.map_toArray, List.map_cons, List.map_nil]); first | done | rfl) ?_; (with_reducible refine (spec_l3key.callsC k g s0_0 t394 t395 t396 t397 t398 t399 t402 t403 w0 _ ?side1 ?side2 A14.out).mono ?_); (case side1 => repeat (first | (with_reducible first | exact HI0.out | apply IsS83.alloc | apply IsS83.drewN | apply IsS83.drew | apply IsS83.set_1 | apply IsS83.set_2 | refine IsS83.far ?_ NB0_383.out _ | refine IsS83.far ?_ NB0_392.out _) | exact HI0.out)); (case side2 => repeat (first | (with_reducible first | exact HB.out | apply h1 | apply h2 | apply h3 | refine h4 ?_ (IsS83.ge HI0.out) | refine h4 ?_ GE383.out | refine h4 ?_ GE392.out) | exact HB.out)); rintro e w15 ⟨b398, v400, rfl, ho0, hi, hb, hk, ⟨⟨hcnb398, hltb398⟩⟩⟩; refine ⟨_, rfl, ?_⟩; have LTb398 := Aside0.mk hltb398; clear hltb398; subst hcnb398; have n0_ := Aside0.mk (KeepBut.blk hk (g' := gb383) (o := .cells #[.int .i64 0, .int .i64 0, .float .f64 0, .slice none 0 0] 25 (0, 0)) (bup BK383.out) NB383_0.out (by simp)); have n1_ := Aside0.mk (Kd.R_mono (Kd.R_told (Kd.R_oldK (IsS83.apart (show IsS83 w0 _ g s0_0 t394 t395 from by repeat (first | (with_reducible first | exact HI0.out | apply IsS83.alloc | apply IsS83.drewN | apply IsS83.drew | apply IsS83.set_1 | apply IsS83.set_2 | refine IsS83.far ?_ NB0_383.out _ | refine IsS83.far ?_ NB0_392.out _) | exact HI0.out)) (Kd.rup HO389.out) (by decide)) hk) (Kd.R_base ho0)) (fun _ h_ => h_.1)); have n2_ := Aside0.mk (KeepBut.blk hk (g' := gb392) (o := .cells #[.int .i64 t384, .int .i64 t385, .float .f64 b386, .slice Ao11 t387.length co11] 25 (0, 0)) (bup BK392.out) NB392_0.out (by simp)); have n3_ := Aside0.mk (Kd.R_lower (Kd.R_new' ho0 (Kd.R_lt (Kd.rup HO389.out))) (keep_size (w := w) (g := g) (row := none) (by repeat (first | (with_reducible first | exact HK.out | apply KeepBut.set_ | apply keep_drewN | apply keep_drew | apply keep_alloc | refine keep_far ?_ GW383.out _ | refine keep_far ?_ GW392.out _) | exact HK.out)))); have n4_ := Aside0.mk (KeepBut.trans (by repeat (first | (with_reducible first | exact HK.out | apply KeepBut.set_ | apply keep_drewN | apply keep_drew | apply keep_alloc | refine keep_far ?_ GW383.out _ | refine keep_far ?_ GW392.out _) | exact HK.out)) hk (.inl rfl)); have n5_ := Aside0.mk (hb); have n6_ := Aside0.mk (hi); clear BK383; clear HO389; clear BK392; clear HK; clear HB; clear HI0; have BK383 := n0_; have HO389 := n1_; have BK392 := n2_; have HO401 := n3_; have HK := n4_; have HB := n5_; have HI0 := n6_; clear n0_ n1_ n2_ n3_ n4_ n5_ n6_; (try clear hb); (try clear hb2); (try clear hk); (try clear hi); (try clear ho0); have hnb16 := NB392_383.out; have hnc16 := NB383_392.out; have hnb17 := NB392_0.out; have hnc17 := NB0_392.out; obtain ⟨hcz18_0, hcz18_1, hcz18_2, hcz18_3⟩ := blk_cells4 BK392.out; obtain ⟨hfz18_0, hfz18_1, hfz18_2, hfz18_3⟩ := blk_frozens4 BK392.out; obtain ⟨Ao19, co19, eo19⟩ := Kd.R_slice HO401.out; subst eo19))
   go_meet
   case rel => exact ⟨_, (t402), (t403), (t396), (t397), (b398), (t399), (.slice Ao19 t399.length co19), H', ⟨by first | omega | exact Nat.le_refl _⟩, ⟨by exact Kd.rup (Kd.R_mono (Kd.R_far (p := ⟨gb392, 3, none⟩) (Kd.R_far (p := ⟨gb392, 2, none⟩) (Kd.R_far (p := ⟨gb392, 1, none⟩) (Kd.R_far (p := ⟨gb392, 0, none⟩) (Kd.R_types HO401.out BK392.out (by decide)) (fun _ hk => hk.2) (.int .i64 t396)) (fun _ hk => hk.2) (.int .i64 t397)) (fun _ hk => hk.2) (.float .f64 b398)) (fun _ hk => hk.2) (.slice Ao19 t399.length co19)) (fun _ hk => trivial))⟩, ⟨bput BK383.out⟩, ⟨bput BK392.out⟩, ⟨by repeat (first | (with_reducible first | exact HI0.out | apply IsS83.alloc | apply IsS83.drewN | apply IsS83.drew | apply IsS83.set_1 | apply IsS83.set_2 | refine IsS83.far ?_ NB0_383.out _ | refine IsS83.far ?_ NB0_392.out _) | exact HI0.out)⟩, ⟨by repeat (first | (with_reducible first | exact HK.out | apply KeepBut.set_ | apply keep_drewN | apply keep_drew | apply keep_alloc | refine keep_far ?_ GW383.out _ | refine keep_far ?_ GW392.out _) | exact HK.out)⟩, ⟨by repeat (first | (with_reducible first | exact HB.out | apply h1 | apply h2 | apply h3 | refine h4 ?_ (IsS83.ge HI0.out) | refine h4 ?_ GE383.out | refine h4 ?_ GE392.out) | exact HB.out)⟩, LTb398⟩
  ·replace c13 := Bool.eq_false_iff.mpr c13
   subst c13
   rw [if_neg (show ¬ (false = true) by decide)] at H
   (try dsimp only at H)
   have H' := Aside0.mk H
   clear H
   go_wp2
   go_meet
   case rel => exact ⟨_, (t394), (t395), (t384), (t385), (b386), (t387), (.slice Ao11 t387.length co11), H', ⟨by first | omega | exact Nat.le_refl _⟩, ⟨by exact Kd.rup HO389.out⟩, ⟨by exact bup BK383.out⟩, ⟨by exact bup BK392.out⟩, ⟨by repeat (first | (with_reducible first | exact HI0.out | apply IsS83.alloc | apply IsS83.drewN | apply IsS83.drew | apply IsS83.set_1 | apply IsS83.set_2 | refine IsS83.far ?_ NB0_383.out _ | refine IsS83.far ?_ NB0_392.out _) | exact HI0.out)⟩, ⟨by repeat (first | (with_reducible first | exact HK.out | apply KeepBut.set_ | apply keep_drewN | apply keep_drew | apply keep_alloc | refine keep_far ?_ GW383.out _ | refine keep_far ?_ GW392.out _) | exact HK.out)⟩, ⟨by repeat (first | (with_reducible first | exact HB.out | apply h1 | apply h2 | apply h3 | refine h4 ?_ (IsS83.ge HI0.out) | refine h4 ?_ GE383.out | refine h4 ?_ GE392.out) | exact HB.out)⟩, LTb386⟩
 case rest =>
  clear HC4
  try clear c1
  try clear p2
  try clear c5
  try clear c6
  try clear c8
  try clear c9
  try clear c13
  try clear c16
  try clear c17
  try clear hcz10_0
  try clear hcz10_1
  try clear hcz10_2
  try clear hcz10_3
  try clear hcz18_0
  try clear hcz18_1
  try clear hcz18_2
  try clear hcz18_3
  try clear hfz10_0
  try clear hfz10_1
  try clear hfz10_2
  try clear hfz10_3
  try clear hfz18_0
  try clear hfz18_1
  try clear hfz18_2
  try clear hfz18_3
  obtain ⟨kq, x1001_3, x1002_3, x393000_3, x393001_3, b393002_3, x393003_3, u393003, HA, HJ3, HO_393003, BK383, BK392, HI0, HK, HB, LTb393002_3⟩ := hcut
  cases kq with
  | zero => exact absurd HA.out (by simp [spec_l3any.j0])
  | succ kj3 =>
   have H := HA.out
   clear HA
   simp only [spec_l3any.j0] at H
   replace H := Option.bind_eq_some_iff.mp H
   obtain ⟨⟨t404, t405, t406⟩, A200, H⟩ := H
   (try dsimp only at H)
   have A20 := Aside0.mk A200
   clear A200
   by_cases c21 : t404 = 0
   ·rw [if_pos c21] at H
    have c21b0 : (t404 == 0) = true := beq_iff_eq.mpr c21
    have c21b1 : (t404 != 0) = false := bne_eq_false_iff_eq.mpr c21
    clear c21
    replace H := Option.bind_eq_some_iff.mp H
    obtain ⟨⟨t407, t408, t409⟩, A220, H⟩ := H
    (try dsimp only at H)
    have A22 := Aside0.mk A220
    clear A220
    simp only [Option.some.injEq, Prod.mk.injEq] at H
    obtain ⟨rfl, rfl, rfl, rfl, rfl, rfl⟩ := H
    go_wp2_with (first | ((with_reducible refine gate_callee (f := 59) rfl ?_); refine goesL_ (some 12) rfl rfl Try.func59 (by kernel_rfl) rfl #[.pointer (some ⟨g, 0, none⟩), .int .i64 14] rfl (by (try simp only [List.map_toArray, List.map_cons, List.map_nil]); first | done | rfl) ?_; (with_reducible refine (spec_l1Below.calls g s0_0 x1001_3 x1002_3 14 t404 t405 t406 w0 _ ?side1 ?side2 A20.out).mono ?_); (case side1 => repeat (first | (with_reducible first | exact HI0.out | apply IsS83.alloc | apply IsS83.drewN | apply IsS83.drew | apply IsS83.set_1 | apply IsS83.set_2 | refine IsS83.far ?_ NB0_383.out _ | refine IsS83.far ?_ NB0_392.out _) | exact HI0.out)); (case side2 => repeat (first | (with_reducible first | exact HB.out | apply h1 | apply h2 | apply h3 | refine h4 ?_ (IsS83.ge HI0.out) | refine h4 ?_ GE383.out | refine h4 ?_ GE392.out) | exact HB.out)); rintro e w23 ⟨rfl, hi, hb, hk⟩; refine ⟨_, rfl, ?_⟩; have n0_ := Aside0.mk (Kd.R_mono (Kd.R_keep (IsS83.apart (show IsS83 w0 _ g s0_0 x1001_3 x1002_3 from by repeat (first | (with_reducible first | exact HI0.out | apply IsS83.alloc | apply IsS83.drewN | apply IsS83.drew | apply IsS83.set_1 | apply IsS83.set_2 | refine IsS83.far ?_ NB0_383.out _ | refine IsS83.far ?_ NB0_392.out _) | exact HI0.out)) (Kd.rup HO_393003.out) (by decide)) hk (fun _ h => h.2)) (fun _ h => h.1)); have n1_ := Aside0.mk (KeepBut.blk hk (g' := gb383) (o := .cells #[.int .i64 0, .int .i64 0, .float .f64 0, .slice none 0 0] 25 (0, 0)) (bup BK383.out) NB383_0.out (by simp)); have n2_ := Aside0.mk (KeepBut.blk hk (g' := gb392) (o := .cells #[.int .i64 x393000_3, .int .i64 x393001_3, .float .f64 b393002_3, u393003] 25 (0, 0)) (bup BK392.out) NB392_0.out (by simp)); have n3_ := Aside0.mk (KeepBut.trans (by repeat (first | (with_reducible first | exact HK.out | apply KeepBut.set_ | apply keep_drewN | apply keep_drew | apply keep_alloc | refine keep_far ?_ GW383.out _ | refine keep_far ?_ GW392.out _) | exact HK.out)) hk (.inl rfl)); have n4_ := Aside0.mk (hb); have n5_ := Aside0.mk (hi); clear HO_393003; clear BK383; clear BK392; clear HK; clear HB; clear HI0; have HO_393003 := n0_; have BK383 := n1_; have BK392 := n2_; have HK := n3_; have HB := n4_; have HI0 := n5_; clear n0_ n1_ n2_ n3_ n4_ n5_; (try clear hb); (try clear hb2); (try clear hk); (try clear hi)) | ((with_reducible refine gate_callee (f := 59) rfl ?_); refine goesL_ (some 16) rfl rfl Try.func59 (by kernel_rfl) rfl #[.pointer (some ⟨g, 0, none⟩), .int .i64 7] rfl (by (try simp only [List.map_toArray, List.map_cons, List.map_nil]); first | done | rfl) ?_; (with_reducible refine (spec_l1Below.calls g s0_0 t405 t406 7 t407 t408 t409 w0 _ ?side1 ?side2 A22.out).mono ?_); (case side1 => repeat (first | (with_reducible first | exact HI0.out | apply IsS83.alloc | apply IsS83.drewN | apply IsS83.drew | apply IsS83.set_1 | apply IsS83.set_2 | refine IsS83.far ?_ NB0_383.out _ | refine IsS83.far ?_ NB0_392.out _) | exact HI0.out)); (case side2 => repeat (first | (with_reducible first | exact HB.out | apply h1 | apply h2 | apply h3 | refine h4 ?_ (IsS83.ge HI0.out) | refine h4 ?_ GE383.out | refine h4 ?_ GE392.out) | exact HB.out)); rintro e w24 ⟨rfl, hi, hb, hk⟩; refine ⟨_, rfl, ?_⟩; have n0_ := Aside0.mk (Kd.R_mono (Kd.R_keep (IsS83.apart (show IsS83 w0 _ g s0_0 t405 t406 from by repeat (first | (with_reducible first | exact HI0.out | apply IsS83.alloc | apply IsS83.drewN | apply IsS83.drew | apply IsS83.set_1 | apply IsS83.set_2 | refine IsS83.far ?_ NB0_383.out _ | refine IsS83.far ?_ NB0_392.out _) | exact HI0.out)) (Kd.rup HO_393003.out) (by decide)) hk (fun _ h => h.2)) (fun _ h => h.1)); have n1_ := Aside0.mk (KeepBut.blk hk (g' := gb383) (o := .cells #[.int .i64 0, .int .i64 0, .float .f64 0, .slice none 0 0] 25 (0, 0)) (bup BK383.out) NB383_0.out (by simp)); have n2_ := Aside0.mk (KeepBut.blk hk (g' := gb392) (o := .cells #[.int .i64 x393000_3, .int .i64 x393001_3, .float .f64 b393002_3, u393003] 25 (0, 0)) (bup BK392.out) NB392_0.out (by simp)); have n3_ := Aside0.mk (KeepBut.trans (by repeat (first | (with_reducible first | exact HK.out | apply KeepBut.set_ | apply keep_drewN | apply keep_drew | apply keep_alloc | refine keep_far ?_ GW383.out _ | refine keep_far ?_ GW392.out _) | exact HK.out)) hk (.inl rfl)); have n4_ := Aside0.mk (hb); have n5_ := Aside0.mk (hi); clear HO_393003; clear BK383; clear BK392; clear HK; clear HB; clear HI0; have HO_393003 := n0_; have BK383 := n1_; have BK392 := n2_; have HK := n3_; have HB := n4_; have HI0 := n5_; clear n0_ n1_ n2_ n3_ n4_ n5_; (try clear hb); (try clear hb2); (try clear hk); (try clear hi); have hnb25 := NB392_383.out; have hnc25 := NB383_392.out; have hnb26 := NB392_0.out; have hnc26 := NB0_392.out; obtain ⟨hcz27_0, hcz27_1, hcz27_2, hcz27_3⟩ := blk_cells4 BK392.out; obtain ⟨hfz27_0, hfz27_1, hfz27_2, hfz27_3⟩ := blk_frozens4 BK392.out; have hnb28 := NB383_0.out; have hnc28 := NB0_383.out; obtain ⟨hcz29_0, hcz29_1, hcz29_2, hcz29_3⟩ := blk_cells4 BK383.out; obtain ⟨hfz29_0, hfz29_1, hfz29_2, hfz29_3⟩ := blk_frozens4 BK383.out; obtain ⟨Ao30, co30, eo30⟩ := Kd.R_slice HO_393003.out; subst eo30))
    refine bodyPost_ret (results_cell_row rfl _ _ gb383 25 #[.int .i64 (wrap64 (t407 - 1)), .int .i64 x393001_3, .float .f64 b393002_3, .slice Ao30 x393003_3.length co30] (0, 0) _ rfl (bput BK383.out) Try.underlying25 rfl (by kernel_rfl)) rfl ?_
    exact ⟨_, _, by first | rfl | (simp [errW_none, errW_some] <;> rfl) | (simp [*, errW_none, errW_some] <;> rfl), by exact Kd.rup (Kd.R_mono (Kd.R_far (p := ⟨gb383, 3, none⟩) (Kd.R_far (p := ⟨gb383, 2, none⟩) (Kd.R_far (p := ⟨gb383, 1, none⟩) (Kd.R_far (p := ⟨gb383, 0, none⟩) (Kd.R_far (p := ⟨gb392, 0, none⟩) (Kd.R_types (Kd.R_types HO_393003.out BK392.out (by decide)) BK383.out (by decide)) (fun _ hk => hk.1.2) (.int .i64 (wrap64 (t407 - 1)))) (fun _ hk => hk.2) (.int .i64 (wrap64 (t407 - 1)))) (fun _ hk => hk.2) (.int .i64 x393001_3)) (fun _ hk => hk.2) (.float .f64 b393002_3)) (fun _ hk => hk.2) (.slice Ao30 x393003_3.length co30)) (fun _ hk => trivial)), by repeat (first | (with_reducible first | exact HI0.out | apply IsS83.alloc | apply IsS83.drewN | apply IsS83.drew | apply IsS83.set_1 | apply IsS83.set_2 | refine IsS83.far ?_ NB0_383.out _ | refine IsS83.far ?_ NB0_392.out _) | exact HI0.out), by repeat (first | (with_reducible first | exact HB.out | apply h1 | apply h2 | apply h3 | refine h4 ?_ (IsS83.ge HI0.out) | refine h4 ?_ GE383.out | refine h4 ?_ GE392.out) | exact HB.out), by repeat (first | (with_reducible first | exact HK.out | apply KeepBut.set_ | apply keep_drewN | apply keep_drew | apply keep_alloc | refine keep_far ?_ GW383.out _ | refine keep_far ?_ GW392.out _) | exact HK.out), (by first | exact ⟨⟨rfl, LTb386.out⟩⟩ | exact ⟨⟨rfl, LTb393002_3.out⟩⟩ | exact ⟨⟨by first | rfl | decide, by decide⟩⟩ | exact ⟨⟨rfl, fquo_lt (by assumption)⟩⟩)⟩
   ·rw [if_neg c21] at H
    have c21b0 : (t404 == 0) = false := beq_eq_false_iff_ne.mpr c21
    have c21b1 : (t404 != 0) = true := bne_iff_ne.mpr c21
    by_cases c31 : t404 = 1
    ·rw [if_pos c31] at H
     have c31b0 : (t404 == 1) = true := beq_iff_eq.mpr c31
     have c31b1 : (t404 != 1) = false := bne_eq_false_iff_eq.mpr c31
     clear c31
     simp only [Option.some.injEq, Prod.mk.injEq] at H
     obtain ⟨rfl, rfl, rfl, rfl, rfl, rfl⟩ := H
     go_wp2_with (first | ((with_reducible refine gate_callee (f := 59) rfl ?_); refine goesL_ (some 12) rfl rfl Try.func59 (by kernel_rfl) rfl #[.pointer (some ⟨g, 0, none⟩), .int .i64 14] rfl (by (try simp only [List.map_toArray, List.map_cons, List.map_nil]); first | done | rfl) ?_; (with_reducible refine (spec_l1Below.calls g s0_0 x1001_3 x1002_3 14 t404 t405 t406 w0 _ ?side1 ?side2 A20.out).mono ?_); (case side1 => repeat (first | (with_reducible first | exact HI0.out | apply IsS83.alloc | apply IsS83.drewN | apply IsS83.drew | apply IsS83.set_1 | apply IsS83.set_2 | refine IsS83.far ?_ NB0_383.out _ | refine IsS83.far ?_ NB0_392.out _) | exact HI0.out)); (case side2 => repeat (first | (with_reducible first | exact HB.out | apply h1 | apply h2 | apply h3 | refine h4 ?_ (IsS83.ge HI0.out) | refine h4 ?_ GE383.out | refine h4 ?_ GE392.out) | exact HB.out)); rintro e w32 ⟨rfl, hi, hb, hk⟩; refine ⟨_, rfl, ?_⟩; have n0_ := Aside0.mk (Kd.R_mono (Kd.R_keep (IsS83.apart (show IsS83 w0 _ g s0_0 x1001_3 x1002_3 from by repeat (first | (with_reducible first | exact HI0.out | apply IsS83.alloc | apply IsS83.drewN | apply IsS83.drew | apply IsS83.set_1 | apply IsS83.set_2 | refine IsS83.far ?_ NB0_383.out _ | refine IsS83.far ?_ NB0_392.out _) | exact HI0.out)) (Kd.rup HO_393003.out) (by decide)) hk (fun _ h => h.2)) (fun _ h => h.1)); have n1_ := Aside0.mk (KeepBut.blk hk (g' := gb383) (o := .cells #[.int .i64 0, .int .i64 0, .float .f64 0, .slice none 0 0] 25 (0, 0)) (bup BK383.out) NB383_0.out (by simp)); have n2_ := Aside0.mk (KeepBut.blk hk (g' := gb392) (o := .cells #[.int .i64 x393000_3, .int .i64 x393001_3, .float .f64 b393002_3, u393003] 25 (0, 0)) (bup BK392.out) NB392_0.out (by simp)); have n3_ := Aside0.mk (KeepBut.trans (by repeat (first | (with_reducible first | exact HK.out | apply KeepBut.set_ | apply keep_drewN | apply keep_drew | apply keep_alloc | refine keep_far ?_ GW383.out _ | refine keep_far ?_ GW392.out _) | exact HK.out)) hk (.inl rfl)); have n4_ := Aside0.mk (hb); have n5_ := Aside0.mk (hi); clear HO_393003; clear BK383; clear BK392; clear HK; clear HB; clear HI0; have HO_393003 := n0_; have BK383 := n1_; have BK392 := n2_; have HK := n3_; have HB := n4_; have HI0 := n5_; clear n0_ n1_ n2_ n3_ n4_ n5_; (try clear hb); (try clear hb2); (try clear hk); (try clear hi); have hnb33 := NB392_383.out; have hnc33 := NB383_392.out; have hnb34 := NB392_0.out; have hnc34 := NB0_392.out; obtain ⟨hcz35_0, hcz35_1, hcz35_2, hcz35_3⟩ := blk_cells4 BK392.out; obtain ⟨hfz35_0, hfz35_1, hfz35_2, hfz35_3⟩ := blk_frozens4 BK392.out; have hnb36 := NB383_0.out; have hnc36 := NB0_383.out; obtain ⟨hcz37_0, hcz37_1, hcz37_2, hcz37_3⟩ := blk_cells4 BK383.out; obtain ⟨hfz37_0, hfz37_1, hfz37_2, hfz37_3⟩ := blk_frozens4 BK383.out; obtain ⟨Ao38, co38, eo38⟩ := Kd.R_slice HO_393003.out; subst eo38))
     refine bodyPost_ret (results_cell_row rfl _ _ gb383 25 #[.int .i64 x393000_3, .int .i64 (wrap64 (x393001_3 + 1)), .float .f64 b393002_3, .slice Ao38 x393003_3.length co38] (0, 0) _ rfl (bput BK383.out) Try.underlying25 rfl (by kernel_rfl)) rfl ?_
     exact ⟨_, _, by first | rfl | (simp [errW_none, errW_some] <;> rfl) | (simp [*, errW_none, errW_some] <;> rfl), by exact Kd.rup (Kd.R_mono (Kd.R_far (p := ⟨gb383, 3, none⟩) (Kd.R_far (p := ⟨gb383, 2, none⟩) (Kd.R_far (p := ⟨gb383, 1, none⟩) (Kd.R_far (p := ⟨gb383, 0, none⟩) (Kd.R_far (p := ⟨gb392, 1, none⟩) (Kd.R_types (Kd.R_types HO_393003.out BK392.out (by decide)) BK383.out (by decide)) (fun _ hk => hk.1.2) (.int .i64 (wrap64 (x393001_3 + 1)))) (fun _ hk => hk.2) (.int .i64 x393000_3)) (fun _ hk => hk.2) (.int .i64 (wrap64 (x393001_3 + 1)))) (fun _ hk => hk.2) (.float .f64 b393002_3)) (fun _ hk => hk.2) (.slice Ao38 x393003_3.length co38)) (fun _ hk => trivial)), by repeat (first | (with_reducible first | exact HI0.out | apply IsS83.alloc | apply IsS83.drewN | apply IsS83.drew | apply IsS83.set_1 | apply IsS83.set_2 | refine IsS83.far ?_ NB0_383.out _ | refine IsS83.far ?_ NB0_392.out _) | exact HI0.out), by repeat (first | (with_reducible first | exact HB.out | apply h1 | apply h2 | apply h3 | refine h4 ?_ (IsS83.ge HI0.out) | refine h4 ?_ GE383.out | refine h4 ?_ GE392.out) | exact HB.out), by repeat (first | (with_reducible first | exact HK.out | apply KeepBut.set_ | apply keep_drewN | apply keep_drew | apply keep_alloc | refine keep_far ?_ GW383.out _ | refine keep_far ?_ GW392.out _) | exact HK.out), (by first | exact ⟨⟨rfl, LTb386.out⟩⟩ | exact ⟨⟨rfl, LTb393002_3.out⟩⟩ | exact ⟨⟨by first | rfl | decide, by decide⟩⟩ | exact ⟨⟨rfl, fquo_lt (by assumption)⟩⟩)⟩
    ·rw [if_neg c31] at H
     have c31b0 : (t404 == 1) = false := beq_eq_false_iff_ne.mpr c31
     have c31b1 : (t404 != 1) = true := bne_iff_ne.mpr c31
     by_cases c39 : t404 = 2
     ·rw [if_pos c39] at H
      have c39b0 : (t404 == 2) = true := beq_iff_eq.mpr c39
      have c39b1 : (t404 != 2) = false := bne_eq_false_iff_eq.mpr c39
      clear c39
      replace H := Option.bind_eq_some_iff.mp H
      obtain ⟨⟨t410, t411, t412⟩, A400, H⟩ := H
      (try dsimp only at H)
      have A40 := Aside0.mk A400
      clear A400
      simp only [Option.some.injEq, Prod.mk.injEq] at H
      obtain ⟨rfl, rfl, rfl, rfl, rfl, rfl⟩ := H
      go_wp2_with (first | ((with_reducible refine gate_callee (f := 59) rfl ?_); refine goesL_ (some 12) rfl rfl Try.func59 (by kernel_rfl) rfl #[.pointer (some ⟨g, 0, none⟩), .int .i64 14] rfl (by (try simp only [List.map_toArray, List.map_cons, List.map_nil]); first | done | rfl) ?_; (with_reducible refine (spec_l1Below.calls g s0_0 x1001_3 x1002_3 14 t404 t405 t406 w0 _ ?side1 ?side2 A20.out).mono ?_); (case side1 => repeat (first | (with_reducible first | exact HI0.out | apply IsS83.alloc | apply IsS83.drewN | apply IsS83.drew | apply IsS83.set_1 | apply IsS83.set_2 | refine IsS83.far ?_ NB0_383.out _ | refine IsS83.far ?_ NB0_392.out _) | exact HI0.out)); (case side2 => repeat (first | (with_reducible first | exact HB.out | apply h1 | apply h2 | apply h3 | refine h4 ?_ (IsS83.ge HI0.out) | refine h4 ?_ GE383.out | refine h4 ?_ GE392.out) | exact HB.out)); rintro e w41 ⟨rfl, hi, hb, hk⟩; refine ⟨_, rfl, ?_⟩; have n0_ := Aside0.mk (Kd.R_mono (Kd.R_keep (IsS83.apart (show IsS83 w0 _ g s0_0 x1001_3 x1002_3 from by repeat (first | (with_reducible first | exact HI0.out | apply IsS83.alloc | apply IsS83.drewN | apply IsS83.drew | apply IsS83.set_1 | apply IsS83.set_2 | refine IsS83.far ?_ NB0_383.out _ | refine IsS83.far ?_ NB0_392.out _) | exact HI0.out)) (Kd.rup HO_393003.out) (by decide)) hk (fun _ h => h.2)) (fun _ h => h.1)); have n1_ := Aside0.mk (KeepBut.blk hk (g' := gb383) (o := .cells #[.int .i64 0, .int .i64 0, .float .f64 0, .slice none 0 0] 25 (0, 0)) (bup BK383.out) NB383_0.out (by simp)); have n2_ := Aside0.mk (KeepBut.blk hk (g' := gb392) (o := .cells #[.int .i64 x393000_3, .int .i64 x393001_3, .float .f64 b393002_3, u393003] 25 (0, 0)) (bup BK392.out) NB392_0.out (by simp)); have n3_ := Aside0.mk (KeepBut.trans (by repeat (first | (with_reducible first | exact HK.out | apply KeepBut.set_ | apply keep_drewN | apply keep_drew | apply keep_alloc | refine keep_far ?_ GW383.out _ | refine keep_far ?_ GW392.out _) | exact HK.out)) hk (.inl rfl)); have n4_ := Aside0.mk (hb); have n5_ := Aside0.mk (hi); clear HO_393003; clear BK383; clear BK392; clear HK; clear HB; clear HI0; have HO_393003 := n0_; have BK383 := n1_; have BK392 := n2_; have HK := n3_; have HB := n4_; have HI0 := n5_; clear n0_ n1_ n2_ n3_ n4_ n5_; (try clear hb); (try clear hb2); (try clear hk); (try clear hi)) | ((with_reducible refine gate_callee (f := 87) rfl ?_); refine goesL_ (some 28) rfl rfl Try.func87 (by kernel_rfl) rfl #[.pointer (some ⟨g, 0, none⟩)] rfl (by (try simp only [List.map_toArray, List.map_cons, List.map_nil]); first | done | rfl) ?_; (with_reducible refine (spec_l2float.callsC kj3 g s0_0 t405 t406 t410 t411 t412 w0 _ ?side1 ?side2 A40.out).mono ?_); (case side1 => repeat (first | (with_reducible first | exact HI0.out | apply IsS83.alloc | apply IsS83.drewN | apply IsS83.drew | apply IsS83.set_1 | apply IsS83.set_2 | refine IsS83.far ?_ NB0_383.out _ | refine IsS83.far ?_ NB0_392.out _) | exact HI0.out)); (case side2 => repeat (first | (with_reducible first | exact HB.out | apply h1 | apply h2 | apply h3 | refine h4 ?_ (IsS83.ge HI0.out) | refine h4 ?_ GE383.out | refine h4 ?_ GE392.out) | exact HB.out)); rintro e w42 ⟨b410, rfl, hi, hb, hk, ⟨⟨hcnb410, hltb410⟩⟩⟩; refine ⟨_, rfl, ?_⟩; have LTb410 := Aside0.mk hltb410; clear hltb410; subst hcnb410; have n0_ := Aside0.mk (Kd.R_mono (Kd.R_keep (IsS83.apart (show IsS83 w0 _ g s0_0 t405 t406 from by repeat (first | (with_reducible first | exact HI0.out | apply IsS83.alloc | apply IsS83.drewN | apply IsS83.drew | apply IsS83.set_1 | apply IsS83.set_2 | refine IsS83.far ?_ NB0_383.out _ | refine IsS83.far ?_ NB0_392.out _) | exact HI0.out)) (Kd.rup HO_393003.out) (by decide)) hk (fun _ h => h.2)) (fun _ h => h.1)); have n1_ := Aside0.mk (KeepBut.blk hk (g' := gb383) (o := .cells #[.int .i64 0, .int .i64 0, .float .f64 0, .slice none 0 0] 25 (0, 0)) (bup BK383.out) NB383_0.out (by simp)); have n2_ := Aside0.mk (KeepBut.blk hk (g' := gb392) (o := .cells #[.int .i64 x393000_3, .int .i64 x393001_3, .float .f64 b393002_3, u393003] 25 (0, 0)) (bup BK392.out) NB392_0.out (by simp)); have n3_ := Aside0.mk (KeepBut.trans (by repeat (first | (with_reducible first | exact HK.out | apply KeepBut.set_ | apply keep_drewN | apply keep_drew | apply keep_alloc | refine keep_far ?_ GW383.out _ | refine keep_far ?_ GW392.out _) | exact HK.out)) hk (.inl rfl)); have n4_ := Aside0.mk (hb); have n5_ := Aside0.mk (hi); clear HO_393003; clear BK383; clear BK392; clear HK; clear HB; clear HI0; have HO_393003 := n0_; have BK383 := n1_; have BK392 := n2_; have HK := n3_; have HB := n4_; have HI0 := n5_; clear n0_ n1_ n2_ n3_ n4_ n5_; (try clear hb); (try clear hb2); (try clear hk); (try clear hi); have hnb43 := NB392_383.out; have hnc43 := NB383_392.out; have hnb44 := NB392_0.out; have hnc44 := NB0_392.out; obtain ⟨hcz45_0, hcz45_1, hcz45_2, hcz45_3⟩ := blk_cells4 BK392.out; obtain ⟨hfz45_0, hfz45_1, hfz45_2, hfz45_3⟩ := blk_frozens4 BK392.out; have hnb46 := NB383_0.out; have hnc46 := NB0_383.out; obtain ⟨hcz47_0, hcz47_1, hcz47_2, hcz47_3⟩ := blk_cells4 BK383.out; obtain ⟨hfz47_0, hfz47_1, hfz47_2, hfz47_3⟩ := blk_frozens4 BK383.out; obtain ⟨Ao48, co48, eo48⟩ := Kd.R_slice HO_393003.out; subst eo48))
      refine bodyPost_ret (results_cell_row rfl _ _ gb383 25 #[.int .i64 x393000_3, .int .i64 x393001_3, .float .f64 b410, .slice Ao48 x393003_3.length co48] (0, 0) _ rfl (bput BK383.out) Try.underlying25 rfl (by kernel_rfl)) rfl ?_
      exact ⟨_, _, by first | rfl | (simp [errW_none, errW_some] <;> rfl) | (simp [*, errW_none, errW_some] <;> rfl), by exact Kd.rup (Kd.R_mono (Kd.R_far (p := ⟨gb383, 3, none⟩) (Kd.R_far (p := ⟨gb383, 2, none⟩) (Kd.R_far (p := ⟨gb383, 1, none⟩) (Kd.R_far (p := ⟨gb383, 0, none⟩) (Kd.R_far (p := ⟨gb392, 2, none⟩) (Kd.R_types (Kd.R_types HO_393003.out BK392.out (by decide)) BK383.out (by decide)) (fun _ hk => hk.1.2) (.float .f64 b410)) (fun _ hk => hk.2) (.int .i64 x393000_3)) (fun _ hk => hk.2) (.int .i64 x393001_3)) (fun _ hk => hk.2) (.float .f64 b410)) (fun _ hk => hk.2) (.slice Ao48 x393003_3.length co48)) (fun _ hk => trivial)), by repeat (first | (with_reducible first | exact HI0.out | apply IsS83.alloc | apply IsS83.drewN | apply IsS83.drew | apply IsS83.set_1 | apply IsS83.set_2 | refine IsS83.far ?_ NB0_383.out _ | refine IsS83.far ?_ NB0_392.out _) | exact HI0.out), by repeat (first | (with_reducible first | exact HB.out | apply h1 | apply h2 | apply h3 | refine h4 ?_ (IsS83.ge HI0.out) | refine h4 ?_ GE383.out | refine h4 ?_ GE392.out) | exact HB.out), by repeat (first | (with_reducible first | exact HK.out | apply KeepBut.set_ | apply keep_drewN | apply keep_drew | apply keep_alloc | refine keep_far ?_ GW383.out _ | refine keep_far ?_ GW392.out _) | exact HK.out), (by first | exact ⟨⟨rfl, LTb386.out⟩⟩ | exact ⟨⟨rfl, LTb393002_3.out⟩⟩ | exact ⟨⟨rfl, LTb410.out⟩⟩ | exact ⟨⟨by first | rfl | decide, by decide⟩⟩ | exact ⟨⟨rfl, fquo_lt (by assumption)⟩⟩)⟩
     ·rw [if_neg c39] at H
      have c39b0 : (t404 == 2) = false := beq_eq_false_iff_ne.mpr c39
      have c39b1 : (t404 != 2) = true := bne_iff_ne.mpr c39
      by_cases c49 : t404 = 3
      ·rw [if_pos c49] at H
       have c49b0 : (t404 == 3) = true := beq_iff_eq.mpr c49
       have c49b1 : (t404 != 3) = false := bne_eq_false_iff_eq.mpr c49
       clear c49
       replace H := Option.bind_eq_some_iff.mp H
       obtain ⟨⟨t413, t416, t417⟩, A500, H⟩ := H
       (try dsimp only at H)
       have A50 := Aside0.mk A500
       clear A500
       by_cases c51 : x393003_3.length + t413.length < 140737488355328
       ·rw [if_pos c51] at H
        have LMc51 := Aside0.mk c51
        clear c51
        obtain ⟨y418, hy418⟩ : ∃ y_ : List Int, y_ = (x393003_3 ++ t413) := ⟨_, rfl⟩
        replace H : (some (x393000_3, x393001_3, (cn b393002_3), y418, t416, t417)) = some (r1, r2, r3, r4, r5, r6) := by first | (rw [hy418]; with_reducible exact H) | (have H2_ := (Option.bind_some _ _).symm.trans H; rw [hy418]; with_reducible exact H2_) | (have H2_ := (Option.bind_some _ _).symm.trans H; with_reducible exact H2_) | with_reducible exact H | (rw [hy418]; exact H) | exact H
        have Ny418 := Aside0.mk hy418
        clear hy418
        simp only [Option.some.injEq, Prod.mk.injEq] at H
        obtain ⟨rfl, rfl, rfl, rfl, rfl, rfl⟩ := H
        try go_wp2_with (first | ((with_reducible refine gate_callee (f := 59) rfl ?_); refine goesL_ (some 12) rfl rfl Try.func59 (by kernel_rfl) rfl #[.pointer (some ⟨g, 0, none⟩), .int .i64 14] rfl (by (try simp only [List.map_toArray, List.map_cons, List.map_nil]); first | done | rfl) ?_; (with_reducible refine (spec_l1Below.calls g s0_0 x1001_3 x1002_3 14 t404 t405 t406 w0 _ ?side1 ?side2 A20.out).mono ?_); (case side1 => repeat (first | (with_reducible first | exact HI0.out | apply IsS83.alloc | apply IsS83.drewN | apply IsS83.drew | apply IsS83.set_1 | apply IsS83.set_2 | refine IsS83.far ?_ NB0_383.out _ | refine IsS83.far ?_ NB0_392.out _) | exact HI0.out)); (case side2 => repeat (first | (with_reducible first | exact HB.out | apply h1 | apply h2 | apply h3 | refine h4 ?_ (IsS83.ge HI0.out) | refine h4 ?_ GE383.out | refine h4 ?_ GE392.out) | exact HB.out)); rintro e w52 ⟨rfl, hi, hb, hk⟩; refine ⟨_, rfl, ?_⟩; have n0_ := Aside0.mk (Kd.R_mono (Kd.R_keep (IsS83.apart (show IsS83 w0 _ g s0_0 x1001_3 x1002_3 from by repeat (first | (with_reducible first | exact HI0.out | apply IsS83.alloc | apply IsS83.drewN | apply IsS83.drew | apply IsS83.set_1 | apply IsS83.set_2 | refine IsS83.far ?_ NB0_383.out _ | refine IsS83.far ?_ NB0_392.out _) | exact HI0.out)) (Kd.rup HO_393003.out) (by decide)) hk (fun _ h => h.2)) (fun _ h => h.1)); have n1_ := Aside0.mk (KeepBut.blk hk (g' := gb383) (o := .cells #[.int .i64 0, .int .i64 0, .float .f64 0, .slice none 0 0] 25 (0, 0)) (bup BK383.out) NB383_0.out (by simp)); have n2_ := Aside0.mk (KeepBut.blk hk (g' := gb392) (o := .cells #[.int .i64 x393000_3, .int .i64 x393001_3, .float .f64 b393002_3, u393003] 25 (0, 0)) (bup BK392.out) NB392_0.out (by simp)); have n3_ := Aside0.mk (KeepBut.trans (by repeat (first | (with_reducible first | exact HK.out | apply KeepBut.set_ | apply keep_drewN | apply keep_drew | apply keep_alloc | refine keep_far ?_ GW383.out _ | refine keep_far ?_ GW392.out _) | exact HK.out)) hk (.inl rfl)); have n4_ := Aside0.mk (hb); have n5_ := Aside0.mk (hi); clear HO_393003; clear BK383; clear BK392; clear HK; clear HB; clear HI0; have HO_393003 := n0_; have BK383 := n1_; have BK392 := n2_; have HK := n3_; have HB := n4_; have HI0 := n5_; clear n0_ n1_ n2_ n3_ n4_ n5_; (try clear hb); (try clear hb2); (try clear hk); (try clear hi)))
        have n0_ := Aside0.mk (Kd.R_drew HO_393003.out)
        have n1_ := Aside0.mk (blk_drew BK383.out)
        have n2_ := Aside0.mk (blk_drew BK392.out)
        have n3_ := Aside0.mk (IsS83.drew HI0.out)
        have n4_ := Aside0.mk (keep_drew HK.out)
        have n5_ := Aside0.mk (below_drew1 HB.out)
        clear HO_393003
        clear BK383
        clear BK392
        clear HI0
        clear HK
        clear HB
        have HO_393003 := n0_
        have BK383 := n1_
        have BK392 := n2_
        have HI0 := n3_
        have HK := n4_
        have HB := n5_
        clear n0_ n1_ n2_ n3_ n4_ n5_
        refine start_ (n := 7) (S := fun w' => w'.cell? ⟨gb392, 0, none⟩ = some (.int .i64 x393000_3) ∧ w'.cell? ⟨gb392, 1, none⟩ = some (.int .i64 x393001_3) ∧ w'.cell? ⟨gb392, 2, none⟩ = some (.float .f64 b393002_3) ∧ w'.cell? ⟨gb392, 3, none⟩ = some (u393003)) (ds := [6]) #[false, false, false, false, false, false, false] (by kernel_rfl) rfl rfl (blk_cells4 BK392.out) (fun hHeld => ?_)
        generalize w52.drew = w53 at HO_393003 BK383 BK392 HI0 HK HB hHeld ⊢
        refine pure_ (i := 0) (N := some 32) (v := ?_) (a' := ?_) #[true, false, false, false, false, false, false] rfl rfl (by kernel_rfl) (fun _ _ _ h => h) (Or.inl ⟨by rfl, ?_⟩) ?_ ?_
        rotate_left
        ·intro w'
         go_simp
         with_reducible rfl
        rotate_left
        ·simp only [Act.put, List.setIfInBounds_toArray, List.set_cons_zero, List.set_cons_succ, i64_w, i32_w]
         rfl
        refine pure_ (i := 2) (N := some 34) (v := ?_) (a' := ?_) #[true, false, true, false, false, false, false] rfl rfl (by kernel_rfl) (fun _ _ _ h => h) (Or.inl ⟨by rfl, ?_⟩) ?_ ?_
        rotate_left
        ·intro w'
         go_simp
         with_reducible rfl
        rotate_left
        ·simp only [Act.put, List.setIfInBounds_toArray, List.set_cons_zero, List.set_cons_succ, i64_w, i32_w]
         rfl
        refine take_ (i := 1) (N := some 33) (v := ?_) (a' := ?_) #[true, true, true, false, false, false, false] rfl rfl (by kernel_rfl) (fun _ _ _ h => h) (Or.inl ⟨by rfl, ?_⟩) hHeld ?_ ?_
        rotate_left
        ·rintro w' ⟨s0, s1, s2, s3⟩
         go_simp
         with_reducible rfl
        rotate_left
        ·simp only [Act.put, List.setIfInBounds_toArray, List.set_cons_zero, List.set_cons_succ, i64_w, i32_w]
         rfl
        refine one_ (i := 3) (N := some 35) #[true, true, true, true, false, false, false] rfl rfl (by kernel_rfl) (by decide) (fun K hK => ?_)
        refine goes_ Try.func61 (by kernel_rfl) rfl #[.pointer (some ⟨g, 0, none⟩), .int .i64 3] (by rfl) rfl rfl (by (try simp only [List.map_toArray, List.map_cons, List.map_nil]); first | done | rfl) ?_
        with_reducible refine (spec_l1some.calls kj3 g s0_0 t405 t406 3 t413 t416 t417 w0 _ ?side1 ?side2 A50.out).mono ?_
        (case side1 => repeat (first | (with_reducible first | exact HI0.out | apply IsS83.alloc | apply IsS83.drewN | apply IsS83.drew | apply IsS83.set_1 | apply IsS83.set_2 | refine IsS83.far ?_ NB0_383.out _ | refine IsS83.far ?_ NB0_392.out _) | exact HI0.out))
        (case side2 => repeat (first | (with_reducible first | exact HB.out | apply h1 | apply h2 | apply h3 | refine h4 ?_ (IsS83.ge HI0.out) | refine h4 ?_ GE383.out | refine h4 ?_ GE392.out) | exact HB.out))
        rintro e w54 ⟨v414, rfl, ho0, hi, hb, hk⟩
        refine ⟨_, rfl, ?_⟩
        have n0_ := Aside0.mk (Kd.R_mono (Kd.R_told (Kd.R_oldK (IsS83.apart (show IsS83 w0 _ g s0_0 t405 t406 from by repeat (first | (with_reducible first | exact HI0.out | apply IsS83.alloc | apply IsS83.drewN | apply IsS83.drew | apply IsS83.set_1 | apply IsS83.set_2 | refine IsS83.far ?_ NB0_383.out _ | refine IsS83.far ?_ NB0_392.out _) | exact HI0.out)) (Kd.rup HO_393003.out) (by decide)) hk) (Kd.R_base ho0)) (fun _ h_ => h_.1))
        have n1_ := Aside0.mk (KeepBut.blk hk (g' := gb383) (o := .cells #[.int .i64 0, .int .i64 0, .float .f64 0, .slice none 0 0] 25 (0, 0)) (bup BK383.out) NB383_0.out (by simp))
        have n2_ := Aside0.mk (KeepBut.blk hk (g' := gb392) (o := .cells #[.int .i64 x393000_3, .int .i64 x393001_3, .float .f64 b393002_3, u393003] 25 (0, 0)) (bup BK392.out) NB392_0.out (by simp))
        have n3_ := Aside0.mk (Kd.R_lower (Kd.R_new' ho0 (Kd.R_lt (Kd.rup HO_393003.out))) (keep_size (w := w) (g := g) (row := none) (by repeat (first | (with_reducible first | exact HK.out | apply KeepBut.set_ | apply keep_drewN | apply keep_drew | apply keep_alloc | refine keep_far ?_ GW383.out _ | refine keep_far ?_ GW392.out _) | exact HK.out))))
        have n4_ := Aside0.mk (KeepBut.trans (by repeat (first | (with_reducible first | exact HK.out | apply KeepBut.set_ | apply keep_drewN | apply keep_drew | apply keep_alloc | refine keep_far ?_ GW383.out _ | refine keep_far ?_ GW392.out _) | exact HK.out)) hk (.inl rfl))
        have n5_ := Aside0.mk (hb)
        have n6_ := Aside0.mk (hi)
        clear HO_393003
        clear BK383
        clear BK392
        clear HK
        clear HB
        clear HI0
        have HO_393003 := n0_
        have BK383 := n1_
        have BK392 := n2_
        have HO415 := n3_
        have HK := n4_
        have HB := n5_
        have HI0 := n6_
        clear n0_ n1_ n2_ n3_ n4_ n5_ n6_
        (try clear hb)
        (try clear hb2)
        (try clear hk)
        (try clear hi)
        (try clear ho0)
        obtain ⟨Ao56, co56, eo56⟩ := Kd.R_slice HO415.out
        (first | subst eo56 | (injection eo56 with f1_ f2_ f3_; have f4_ := f1_.symm; have f5_ := f3_.symm; clear f1_ f2_ f3_; subst f4_; subst f5_))
        refine hK.out _ _ (blk_cells4 BK392.out) (fun hHeld => ?_)
        clear hK K
        refine norm_ (a' := ?_) ?_ ?_
        rotate_left
        ·show Act.put _ (some 35) _ = _
         simp only [Act.put, List.setIfInBounds_toArray, List.set_cons_zero, List.set_cons_succ, i64_w, i32_w]
         rfl
        refine one_ (i := 4) (N := some 36) #[true, true, true, true, true, false, false] rfl rfl (by kernel_rfl) (by decide) (fun K hK => ?_)
        refine Kd.R_append_rows_step (Kd.int .u8) w.heap.size (by rfl) (.tmp 33) (.tmp 35) 22 5 (.int .u8 0) 1 rfl Try.underlying22 info5 rfl (by decide) (by omega) u393003 x393003_3 t413 _ _ _ (fun k_ => some k_ ≠ (.slice Ao56 t413.length co56 : Value).ownBlock) (fun _ => False) rfl rfl ?aO ?aR (fun _ _ h => h) (fun _ h => h.elim) ?aF (Below.refl _ _) ?aS ?aL ?_
        (case aR => repeat (first | exact (Kd.R_reads' HO415.out).2.2 | (with_reducible refine Kd.C_alloc ?_ _) | (with_reducible refine Kd.C_drewN ?_ _) | (with_reducible refine Kd.C_drew ?_)))
        (case aF => exact (fun k_ hk => Kd.fresh' (Kd.R_lt (Kd.rup HO415.out)) k_ hk))
        (case aO => exact (by exact Kd.rup (Kd.R_mono HO_393003.out (fun _ hk => hk.2))))
        (case aS => exact (keep_size (w := w) (g := g) (row := none) (by repeat (first | (with_reducible first | exact HK.out | apply KeepBut.set_ | apply keep_drewN | apply keep_drew | apply keep_alloc | refine keep_far ?_ GW383.out _ | refine keep_far ?_ GW392.out _) | exact HK.out))))
        (case aL => have := LMc51.out; omega)
        intro v419 w55 ho hb hg hat
        rw [← Ny418.out] at ho
        have n0_ := Aside0.mk (blk_grown (g := gb383) (o := .cells #[.int .i64 0, .int .i64 0, .float .f64 0, .slice none 0 0] 25 (0, 0)) (bup BK383.out) hg (Kd.R_ne HO_393003.out BK383.out (by decide)))
        have n1_ := Aside0.mk (blk_grown (g := gb392) (o := .cells #[.int .i64 x393000_3, .int .i64 x393001_3, .float .f64 b393002_3, u393003] 25 (0, 0)) (bup BK392.out) hg (Kd.R_ne HO_393003.out BK392.out (by decide)))
        have n2_ := Aside0.mk (IsS83.grown (by repeat (first | (with_reducible first | exact HI0.out | apply IsS83.alloc | apply IsS83.drewN | apply IsS83.drew | apply IsS83.set_1 | apply IsS83.set_2 | refine IsS83.far ?_ NB0_383.out _ | refine IsS83.far ?_ NB0_392.out _) | exact HI0.out)) hg (IsS83.own_ne HI0.out HO_393003.out (by decide)))
        have n3_ := Aside0.mk (Kd.R_after (ok := (fun _ => True)) (Kd.rup HO415.out) hg hat)
        have n4_ := Aside0.mk (below_weaken (by repeat (first | (with_reducible first | exact HB.out | apply h1 | apply h2 | apply h3 | refine h4 ?_ (IsS83.ge HI0.out) | refine h4 ?_ GE383.out | refine h4 ?_ GE392.out) | exact HB.out)) HL.out hb)
        have n5_ := Aside0.mk (KeepBut.trans (by repeat (first | (with_reducible first | exact HK.out | apply KeepBut.set_ | apply keep_drewN | apply keep_drew | apply keep_alloc | refine keep_far ?_ GW383.out _ | refine keep_far ?_ GW392.out _) | exact HK.out)) (KeepBut.of_grown hg g) (Kd.R_base2 HO_393003.out))
        have n6_ := Aside0.mk (ho)
        clear BK383
        clear BK392
        clear HI0
        clear HO415
        clear HB
        clear HK
        clear HO_393003
        have BK383 := n0_
        have BK392 := n1_
        have HI0 := n2_
        have HO415 := n3_
        have HB := n4_
        have HK := n5_
        have HO420 := n6_
        clear n0_ n1_ n2_ n3_ n4_ n5_ n6_
        clear ho hb hg hat
        obtain ⟨Ao57, co57, eo57⟩ := Kd.R_slice HO420.out
        (first | subst eo57 | (injection eo57 with f1_ f2_ f3_; have f4_ := f1_.symm; have f5_ := f3_.symm; clear f1_ f2_ f3_; subst f4_; subst f5_))
        refine hK.out _ _ (blk_cells4 BK392.out) (fun hHeld => ?_)
        clear hK K
        refine norm_ (a' := ?_) ?_ ?_
        rotate_left
        ·show Act.put _ (some 36) _ = _
         simp only [Act.put, List.setIfInBounds_toArray, List.set_cons_zero, List.set_cons_succ, i64_w, i32_w]
         rfl
        refine pure_ (i := 5) (N := some 37) (v := ?_) (a' := ?_) #[true, true, true, true, true, true, false] rfl rfl (by kernel_rfl) (fun _ _ _ h => h) (Or.inl ⟨by rfl, ?_⟩) ?_ ?_
        rotate_left
        ·intro w'
         go_simp
         with_reducible rfl
        rotate_left
        ·simp only [Act.put, List.setIfInBounds_toArray, List.set_cons_zero, List.set_cons_succ, i64_w, i32_w]
         rfl
        refine last_ (i := 6) (N := none) #[true, true, true, true, true, true, true] rfl rfl (by kernel_rfl) (by decide) (fun K hK => ?_)
        have hs58 : w55.cell? ⟨gb392, 3, none⟩ = some (u393003) := (blk_cell BK392.out 3).trans rfl
        have hfs58 := blk_frozen BK392.out 3
        have hns58_0 := NB383_392.out
        have hms58_0 := NB392_383.out
        refine skip_ (w1 := ?_) (by rfl) rfl ?_ ?_
        rotate_left
        ·go_simp
         rfl
        refine hK.out _ _ ?_
        clear hK K
        refine done_ (by kernel_rfl) ?_
        have hnb59 := NB392_383.out
        have hnc59 := NB383_392.out
        have hnb60 := NB392_0.out
        have hnc60 := NB0_392.out
        obtain ⟨hcz61_0, hcz61_1, hcz61_2, hcz61_3⟩ := blk_cells4 BK392.out
        obtain ⟨hfz61_0, hfz61_1, hfz61_2, hfz61_3⟩ := blk_frozens4 BK392.out
        have hnb62 := NB383_0.out
        have hnc62 := NB0_383.out
        obtain ⟨hcz63_0, hcz63_1, hcz63_2, hcz63_3⟩ := blk_cells4 BK383.out
        obtain ⟨hfz63_0, hfz63_1, hfz63_2, hfz63_3⟩ := blk_frozens4 BK383.out
        try go_wp2
        refine bodyPost_ret (results_cell_row rfl _ _ gb383 25 #[.int .i64 x393000_3, .int .i64 x393001_3, .float .f64 b393002_3, .slice Ao57 y418.length co57] (0, 0) _ rfl (bput BK383.out) Try.underlying25 rfl (by kernel_rfl)) rfl ?_
        exact ⟨_, _, by first | rfl | (simp [errW_none, errW_some] <;> rfl) | (simp [*, errW_none, errW_some] <;> rfl), by exact Kd.rup (Kd.R_mono (Kd.R_far (p := ⟨gb383, 3, none⟩) (Kd.R_far (p := ⟨gb383, 2, none⟩) (Kd.R_far (p := ⟨gb383, 1, none⟩) (Kd.R_far (p := ⟨gb383, 0, none⟩) (Kd.R_far (p := ⟨gb392, 3, none⟩) (Kd.R_types (Kd.R_types HO420.out BK392.out (by decide)) BK383.out (by decide)) (fun _ hk => hk.1.2) (.slice Ao57 y418.length co57)) (fun _ hk => hk.2) (.int .i64 x393000_3)) (fun _ hk => hk.2) (.int .i64 x393001_3)) (fun _ hk => hk.2) (.float .f64 b393002_3)) (fun _ hk => hk.2) (.slice Ao57 y418.length co57)) (fun _ hk => trivial)), by repeat (first | (with_reducible first | exact HI0.out | apply IsS83.alloc | apply IsS83.drewN | apply IsS83.drew | apply IsS83.set_1 | apply IsS83.set_2 | refine IsS83.far ?_ NB0_383.out _ | refine IsS83.far ?_ NB0_392.out _) | exact HI0.out), by repeat (first | (with_reducible first | exact HB.out | apply h1 | apply h2 | apply h3 | refine h4 ?_ (IsS83.ge HI0.out) | refine h4 ?_ GE383.out | refine h4 ?_ GE392.out) | exact HB.out), by repeat (first | (with_reducible first | exact HK.out | apply KeepBut.set_ | apply keep_drewN | apply keep_drew | apply keep_alloc | refine keep_far ?_ GW383.out _ | refine keep_far ?_ GW392.out _) | exact HK.out), (by first | exact ⟨⟨rfl, LTb386.out⟩⟩ | exact ⟨⟨rfl, LTb393002_3.out⟩⟩ | exact ⟨⟨by first | rfl | decide, by decide⟩⟩ | exact ⟨⟨rfl, fquo_lt (by assumption)⟩⟩)⟩
       ·rw [if_neg c51] at H
        exact absurd H (by simp)
      ·rw [if_neg c49] at H
       have c49b0 : (t404 == 3) = false := beq_eq_false_iff_ne.mpr c49
       have c49b1 : (t404 != 3) = true := bne_iff_ne.mpr c49
       by_cases c64 : t404 = 4
       ·rw [if_pos c64] at H
        have c64b0 : (t404 == 4) = true := beq_iff_eq.mpr c64
        have c64b1 : (t404 != 4) = false := bne_eq_false_iff_eq.mpr c64
        clear c64
        have H' := Aside0.mk H
        clear H
        go_wp2_with (first | ((with_reducible refine gate_callee (f := 59) rfl ?_); refine goesL_ (some 12) rfl rfl Try.func59 (by kernel_rfl) rfl #[.pointer (some ⟨g, 0, none⟩), .int .i64 14] rfl (by (try simp only [List.map_toArray, List.map_cons, List.map_nil]); first | done | rfl) ?_; (with_reducible refine (spec_l1Below.calls g s0_0 x1001_3 x1002_3 14 t404 t405 t406 w0 _ ?side1 ?side2 A20.out).mono ?_); (case side1 => repeat (first | (with_reducible first | exact HI0.out | apply IsS83.alloc | apply IsS83.drewN | apply IsS83.drew | apply IsS83.set_1 | apply IsS83.set_2 | refine IsS83.far ?_ NB0_383.out _ | refine IsS83.far ?_ NB0_392.out _) | exact HI0.out)); (case side2 => repeat (first | (with_reducible first | exact HB.out | apply h1 | apply h2 | apply h3 | refine h4 ?_ (IsS83.ge HI0.out) | refine h4 ?_ GE383.out | refine h4 ?_ GE392.out) | exact HB.out)); rintro e w65 ⟨rfl, hi, hb, hk⟩; refine ⟨_, rfl, ?_⟩; have n0_ := Aside0.mk (Kd.R_mono (Kd.R_keep (IsS83.apart (show IsS83 w0 _ g s0_0 x1001_3 x1002_3 from by repeat (first | (with_reducible first | exact HI0.out | apply IsS83.alloc | apply IsS83.drewN | apply IsS83.drew | apply IsS83.set_1 | apply IsS83.set_2 | refine IsS83.far ?_ NB0_383.out _ | refine IsS83.far ?_ NB0_392.out _) | exact HI0.out)) (Kd.rup HO_393003.out) (by decide)) hk (fun _ h => h.2)) (fun _ h => h.1)); have n1_ := Aside0.mk (KeepBut.blk hk (g' := gb383) (o := .cells #[.int .i64 0, .int .i64 0, .float .f64 0, .slice none 0 0] 25 (0, 0)) (bup BK383.out) NB383_0.out (by simp)); have n2_ := Aside0.mk (KeepBut.blk hk (g' := gb392) (o := .cells #[.int .i64 x393000_3, .int .i64 x393001_3, .float .f64 b393002_3, u393003] 25 (0, 0)) (bup BK392.out) NB392_0.out (by simp)); have n3_ := Aside0.mk (KeepBut.trans (by repeat (first | (with_reducible first | exact HK.out | apply KeepBut.set_ | apply keep_drewN | apply keep_drew | apply keep_alloc | refine keep_far ?_ GW383.out _ | refine keep_far ?_ GW392.out _) | exact HK.out)) hk (.inl rfl)); have n4_ := Aside0.mk (hb); have n5_ := Aside0.mk (hi); clear HO_393003; clear BK383; clear BK392; clear HK; clear HB; clear HI0; have HO_393003 := n0_; have BK383 := n1_; have BK392 := n2_; have HK := n3_; have HB := n4_; have HI0 := n5_; clear n0_ n1_ n2_ n3_ n4_ n5_; (try clear hb); (try clear hb2); (try clear hk); (try clear hi)))
        go_loopg [] kj3 (fun kq w' => ∃ (x1001_2 : Int) (x1002_2 : Int) (x393003_2 : List Int) (u393003 : Value), Aside0 (spec_l3any.l0 kq s0_0 x1001_2 x1002_2 x393000_3 x393001_3 (cn b393002_3) x393003_2 = some (r1, r2, r3, r4, r5, r6)) ∧ Aside0 (kq ≤ kj3) ∧ Aside0 (Kd.R (Kd.int .u8) 5 w' w.heap.size (fun _ => True) u393003 x393003_2) ∧ Aside0 (w'.heap[gb383]? = some (.cells #[.int .i64 0, .int .i64 0, .float .f64 0, (.slice none 0 0)] 25 (0, 0))) ∧ Aside0 (w'.heap[gb392]? = some (.cells #[.int .i64 x393000_3, .int .i64 x393001_3, .float .f64 b393002_3, u393003] 25 (0, 0))) ∧ Aside0 (IsS83 w0 w' g s0_0 x1001_2 x1002_2) ∧ Aside0 (KeepBut w w' g none) ∧ Aside0 (Below w0.heap.size w0 w'))
        case atStart => exact ⟨(t405), (t406), (x393003_3), (u393003), H', ⟨Nat.le_refl _⟩, ⟨by exact Kd.rup HO_393003.out⟩, ⟨by exact bup BK383.out⟩, ⟨by exact bup BK392.out⟩, ⟨by repeat (first | (with_reducible first | exact HI0.out | apply IsS83.alloc | apply IsS83.drewN | apply IsS83.drew | apply IsS83.set_1 | apply IsS83.set_2 | refine IsS83.far ?_ NB0_383.out _ | refine IsS83.far ?_ NB0_392.out _) | exact HI0.out)⟩, ⟨by repeat (first | (with_reducible first | exact HK.out | apply KeepBut.set_ | apply keep_drewN | apply keep_drew | apply keep_alloc | refine keep_far ?_ GW383.out _ | refine keep_far ?_ GW392.out _) | exact HK.out)⟩, ⟨by repeat (first | (with_reducible first | exact HB.out | apply h1 | apply h2 | apply h3 | refine h4 ?_ (IsS83.ge HI0.out) | refine h4 ?_ GE383.out | refine h4 ?_ GE392.out) | exact HB.out)⟩⟩
        case round =>
         clear H'
         try clear c1
         try clear c2
         try clear p2
         try clear c3
         try clear c4
         try clear c5
         try clear c6
         try clear p6
         try clear c8
         try clear c9
         try clear c13
         try clear c16
         try clear c17
         try clear c21
         try clear c21b0
         try clear c21b1
         try clear c25
         try clear c26
         try clear c28
         try clear c31
         try clear c31b0
         try clear c31b1
         try clear c33
         try clear c34
         try clear c36
         try clear c39
         try clear c39b0
         try clear c39b1
         try clear c43
         try clear c44
         try clear c46
         try clear c49
         try clear c49b0
         try clear c49b1
         try clear c51
         try clear c58
         try clear c59
         try clear c60
         try clear c61
         try clear c62
         try clear c64
         try clear c64b0
         try clear c64b1
         try clear p64
         try clear hcz10_0
         try clear hcz10_1
         try clear hcz10_2
         try clear hcz10_3
         try clear hcz18_0
         try clear hcz18_1
         try clear hcz18_2
         try clear hcz18_3
         try clear hcz27_0
         try clear hcz27_1
         try clear hcz27_2
         try clear hcz27_3
         try clear hcz29_0
         try clear hcz29_1
         try clear hcz29_2
         try clear hcz29_3
         try clear hcz35_0
         try clear hcz35_1
         try clear hcz35_2
         try clear hcz35_3
         try clear hcz37_0
         try clear hcz37_1
         try clear hcz37_2
         try clear hcz37_3
         try clear hcz45_0
         try clear hcz45_1
         try clear hcz45_2
         try clear hcz45_3
         try clear hcz47_0
         try clear hcz47_1
         try clear hcz47_2
         try clear hcz47_3
         try clear hcz61_0
         try clear hcz61_1
         try clear hcz61_2
         try clear hcz61_3
         try clear hcz63_0
         try clear hcz63_1
         try clear hcz63_2
         try clear hcz63_3
         try clear hfz10_0
         try clear hfz10_1
         try clear hfz10_2
         try clear hfz10_3
         try clear hfz18_0
         try clear hfz18_1
         try clear hfz18_2
         try clear hfz18_3
         try clear hfz27_0
         try clear hfz27_1
         try clear hfz27_2
         try clear hfz27_3
         try clear hfz29_0
         try clear hfz29_1
         try clear hfz29_2
         try clear hfz29_3
         try clear hfz35_0
         try clear hfz35_1
         try clear hfz35_2
         try clear hfz35_3
         try clear hfz37_0
         try clear hfz37_1
         try clear hfz37_2
         try clear hfz37_3
         try clear hfz45_0
         try clear hfz45_1
         try clear hfz45_2
         try clear hfz45_3
         try clear hfz47_0
         try clear hfz47_1
         try clear hfz47_2
         try clear hfz47_3
         try clear hfz61_0
         try clear hfz61_1
         try clear hfz61_2
         try clear hfz61_3
         try clear hfz63_0
         try clear hfz63_1
         try clear hfz63_2
         try clear hfz63_3
         try clear p2
         obtain ⟨x1001_2, x1002_2, x393003_2, u393003, HA, HK2, HO_393003, BK383, BK392, HI0, HK, HB⟩ := hrel
         cases gk with
         | zero => exact absurd HA.out (by simp [spec_l3any.l0])
         | succ k2 =>
          have H := HA.out
          clear HA
          simp only [spec_l3any.l0] at H
          replace H := Option.bind_eq_some_iff.mp H
          obtain ⟨⟨t421, t422, t423⟩, A660, H⟩ := H
          (try dsimp only at H)
          have A66 := Aside0.mk A660
          clear A660
          by_cases c67 : (x393003_2.length : Int) < (wrap64 (40 + t421))
          ·rw [if_pos c67] at H
           have c67b0 : decide ((x393003_2.length : Int) < (wrap64 (40 + t421))) = true := decide_eq_true c67
           clear c67
           by_cases c68 : x393003_2.length < 140737488355328
           ·rw [if_pos c68] at H
            have LMc68 := Aside0.mk c68
            clear c68
            obtain ⟨y424, hy424⟩ : ∃ y_ : List Int, y_ = (x393003_2 ++ [120]) := ⟨_, rfl⟩
            replace H : (spec_l3any.l0 k2 s0_0 t422 t423 x393000_3 x393001_3 (cn b393002_3) y424) = some (r1, r2, r3, r4, r5, r6) := by first | (rw [hy424]; with_reducible exact H) | (have H2_ := (Option.bind_some _ _).symm.trans H; rw [hy424]; with_reducible exact H2_) | (have H2_ := (Option.bind_some _ _).symm.trans H; with_reducible exact H2_) | with_reducible exact H | (rw [hy424]; exact H) | exact H
            have Ny424 := Aside0.mk hy424
            clear hy424
            have H' := Aside0.mk H
            clear H
            try go_wp2
            have n0_ := Aside0.mk (Kd.R_drew HO_393003.out)
            have n1_ := Aside0.mk (blk_drew BK383.out)
            have n2_ := Aside0.mk (blk_drew BK392.out)
            have n3_ := Aside0.mk (IsS83.drew HI0.out)
            have n4_ := Aside0.mk (keep_drew HK.out)
            have n5_ := Aside0.mk (below_drew1 HB.out)
            clear HO_393003
            clear BK383
            clear BK392
            clear HI0
            clear HK
            clear HB
            have HO_393003 := n0_
            have BK383 := n1_
            have BK392 := n2_
            have HI0 := n3_
            have HK := n4_
            have HB := n5_
            clear n0_ n1_ n2_ n3_ n4_ n5_
            obtain ⟨Ao70, co70, eo70⟩ := Kd.R_slice HO_393003.out
            (first | subst eo70 | (injection eo70 with f1_ f2_ f3_; have f4_ := f1_.symm; have f5_ := f3_.symm; clear f1_ f2_ f3_; subst f4_; subst f5_))
            refine start_ (n := 7) (S := fun w' => w'.cell? ⟨gb392, 0, none⟩ = some (.int .i64 x393000_3) ∧ w'.cell? ⟨gb392, 1, none⟩ = some (.int .i64 x393001_3) ∧ w'.cell? ⟨gb392, 2, none⟩ = some (.float .f64 b393002_3) ∧ w'.cell? ⟨gb392, 3, none⟩ = some (.slice Ao70 x393003_2.length co70)) (ds := []) #[false, false, false, false, false, false, false] (by kernel_rfl) rfl rfl (blk_cells4 BK392.out) (fun hHeld => ?_)
            generalize wr.drew = w69 at HO_393003 BK383 BK392 HI0 HK HB hHeld ⊢
            refine pure_ (i := 0) (N := some 40) (v := ?_) (a' := ?_) #[true, false, false, false, false, false, false] rfl rfl (by kernel_rfl) (fun _ _ _ h => h) (Or.inl ⟨by rfl, ?_⟩) ?_ ?_
            rotate_left
            ·intro w'
             go_simp
             with_reducible rfl
            rotate_left
            ·simp only [Act.put, List.setIfInBounds_toArray, List.set_cons_zero, List.set_cons_succ, i64_w, i32_w]
             rfl
            refine pure_ (i := 3) (N := some 43) (v := ?_) (a' := ?_) #[true, false, false, true, false, false, false] rfl rfl (by kernel_rfl) (fun _ _ _ h => h) (Or.inl ⟨by rfl, ?_⟩) ?_ ?_
            rotate_left
            ·intro w'
             go_simp
             with_reducible rfl
            rotate_left
            ·simp only [Act.put, List.setIfInBounds_toArray, List.set_cons_zero, List.set_cons_succ, i64_w, i32_w]
             rfl
            refine take_ (i := 1) (N := some 41) (v := ?_) (a' := ?_) #[true, true, false, true, false, false, false] rfl rfl (by kernel_rfl) (fun _ _ _ h => h) (Or.inl ⟨by rfl, ?_⟩) hHeld ?_ ?_
            rotate_left
            ·rintro w' ⟨s0, s1, s2, s3⟩
             go_simp
             with_reducible rfl
            rotate_left
            ·simp only [Act.put, List.setIfInBounds_toArray, List.set_cons_zero, List.set_cons_succ, i64_w, i32_w]
             rfl
            refine pure_ (i := 2) (N := some 42) (v := ?_) (a' := ?_) #[true, true, true, true, false, false, false] rfl rfl (by kernel_rfl) (fun _ _ _ h => h) (Or.inl ⟨by rfl, ?_⟩) ?_ ?_
            rotate_left
            ·intro w'
             go_simp
             with_reducible rfl
            rotate_left
            ·simp only [Act.put, List.setIfInBounds_toArray, List.set_cons_zero, List.set_cons_succ, i64_w, i32_w]
             rfl
            refine one_ (i := 4) (N := some 44) #[true, true, true, true, true, false, false] rfl rfl (by kernel_rfl) (by decide) (fun K hK => ?_)
            refine goes_ Try.func59 (by kernel_rfl) rfl #[.pointer (some ⟨g, 0, none⟩), .int .i64 2] (by rfl) rfl rfl (by (try simp only [List.map_toArray, List.map_cons, List.map_nil]); first | done | rfl) ?_
            with_reducible refine (spec_l1Below.calls g s0_0 x1001_2 x1002_2 2 t421 t422 t423 w0 _ ?side1 ?side2 A66.out).mono ?_
            (case side1 => repeat (first | (with_reducible first | exact HI0.out | apply IsS83.alloc | apply IsS83.drewN | apply IsS83.drew | apply IsS83.set_1 | apply IsS83.set_2 | refine IsS83.far ?_ NB0_383.out _ | refine IsS83.far ?_ NB0_392.out _) | exact HI0.out))
            (case side2 => repeat (first | (with_reducible first | exact HB.out | apply h1 | apply h2 | apply h3 | refine h4 ?_ (IsS83.ge HI0.out) | refine h4 ?_ GE383.out | refine h4 ?_ GE392.out) | exact HB.out))
            rintro e w71 ⟨rfl, hi, hb, hk⟩
            refine ⟨_, rfl, ?_⟩
            have n0_ := Aside0.mk (Kd.R_mono (Kd.R_keep (IsS83.apart (show IsS83 w0 _ g s0_0 x1001_2 x1002_2 from by repeat (first | (with_reducible first | exact HI0.out | apply IsS83.alloc | apply IsS83.drewN | apply IsS83.drew | apply IsS83.set_1 | apply IsS83.set_2 | refine IsS83.far ?_ NB0_383.out _ | refine IsS83.far ?_ NB0_392.out _) | exact HI0.out)) (Kd.rup HO_393003.out) (by decide)) hk (fun _ h => h.2)) (fun _ h => h.1))
            have n1_ := Aside0.mk (KeepBut.blk hk (g' := gb383) (o := .cells #[.int .i64 0, .int .i64 0, .float .f64 0, .slice none 0 0] 25 (0, 0)) (bup BK383.out) NB383_0.out (by simp))
            have n2_ := Aside0.mk (KeepBut.blk hk (g' := gb392) (o := .cells #[.int .i64 x393000_3, .int .i64 x393001_3, .float .f64 b393002_3, .slice Ao70 x393003_2.length co70] 25 (0, 0)) (bup BK392.out) NB392_0.out (by simp))
            have n3_ := Aside0.mk (KeepBut.trans (by repeat (first | (with_reducible first | exact HK.out | apply KeepBut.set_ | apply keep_drewN | apply keep_drew | apply keep_alloc | refine keep_far ?_ GW383.out _ | refine keep_far ?_ GW392.out _) | exact HK.out)) hk (.inl rfl))
            have n4_ := Aside0.mk (hb)
            have n5_ := Aside0.mk (hi)
            clear HO_393003
            clear BK383
            clear BK392
            clear HK
            clear HB
            clear HI0
            have HO_393003 := n0_
            have BK383 := n1_
            have BK392 := n2_
            have HK := n3_
            have HB := n4_
            have HI0 := n5_
            clear n0_ n1_ n2_ n3_ n4_ n5_
            (try clear hb)
            (try clear hb2)
            (try clear hk)
            (try clear hi)
            refine hK.out _ _ (blk_cells4 BK392.out) (fun hHeld => ?_)
            clear hK K
            refine norm_ (a' := ?_) ?_ ?_
            rotate_left
            ·show Act.put _ (some 44) _ = _
             simp only [Act.put, List.setIfInBounds_toArray, List.set_cons_zero, List.set_cons_succ, i64_w, i32_w]
             rfl
            refine pure_ (i := 5) (N := some 45) (v := ?_) (a' := ?_) #[true, true, true, true, true, true, false] rfl rfl (by kernel_rfl) (fun _ _ _ h => h) (Or.inl ⟨by rfl, ?_⟩) ?_ ?_
            rotate_left
            ·intro w'
             go_simp
             with_reducible rfl
            rotate_left
            ·simp only [Act.put, List.setIfInBounds_toArray, List.set_cons_zero, List.set_cons_succ, i64_w, i32_w]
             rfl
            refine pure_ (i := 6) (N := some 46) (v := ?_) (a' := ?_) #[true, true, true, true, true, true, true] rfl rfl (by kernel_rfl) (fun _ _ _ h => h) (Or.inl ⟨by rfl, ?_⟩) ?_ ?_
            rotate_left
            ·intro w'
             go_simp
             with_reducible rfl
            rotate_left
            ·simp only [Act.put, List.setIfInBounds_toArray, List.set_cons_zero, List.set_cons_succ, i64_w, i32_w]
             rfl
            refine done_ (by kernel_rfl) ?_
            have hnb72 := NB392_383.out
            have hnc72 := NB383_392.out
            have hnb73 := NB392_0.out
            have hnc73 := NB0_392.out
            obtain ⟨hcz74_0, hcz74_1, hcz74_2, hcz74_3⟩ := blk_cells4 BK392.out
            obtain ⟨hfz74_0, hfz74_1, hfz74_2, hfz74_3⟩ := blk_frozens4 BK392.out
            try go_wp2_with (first | ((with_reducible refine gate_builtin (b := .append) (xs := #[.tmp 48, .tmp 49]) rfl ?_); at_builtin; refine Kd.R_append (Kd.int .u8) w.heap.size rfl (.tmp 48) (.tmp 49) 22 5 (.int .u8 0) 1 rfl Try.underlying22 info5 rfl (by decide) (by omega) (.slice Ao70 x393003_2.length co70) x393003_2 120 [.int .u8 120] (fun _ => True) (fun _ => False) rfl rfl ?aP (fun _ hk => hk.elim) ?aF ?aO (Below.refl _ _) ?aS ?aL ?_; (case aP => exact rfl); (case aF => exact (fun _ _ => trivial)); (case aO => exact (Kd.rup HO_393003.out)); (case aS => exact (keep_size (w := w) (g := g) (row := none) (by repeat (first | (with_reducible first | exact HK.out | apply KeepBut.set_ | apply keep_drewN | apply keep_drew | apply keep_alloc | refine keep_far ?_ GW383.out _ | refine keep_far ?_ GW392.out _) | exact HK.out)))); (case aL => have := LMc68.out; omega); intro v425 w75 ho hb hg hat; rw [← Ny424.out] at ho; have n0_ := Aside0.mk (blk_grown (g := gb383) (o := .cells #[.int .i64 0, .int .i64 0, .float .f64 0, .slice none 0 0] 25 (0, 0)) (bup BK383.out) hg (Kd.R_ne HO_393003.out BK383.out (by decide))); have n1_ := Aside0.mk (blk_grown (g := gb392) (o := .cells #[.int .i64 x393000_3, .int .i64 x393001_3, .float .f64 b393002_3, .slice Ao70 x393003_2.length co70] 25 (0, 0)) (bup BK392.out) hg (Kd.R_ne HO_393003.out BK392.out (by decide))); have n2_ := Aside0.mk (IsS83.grown (by repeat (first | (with_reducible first | exact HI0.out | apply IsS83.alloc | apply IsS83.drewN | apply IsS83.drew | apply IsS83.set_1 | apply IsS83.set_2 | refine IsS83.far ?_ NB0_383.out _ | refine IsS83.far ?_ NB0_392.out _) | exact HI0.out)) hg (IsS83.own_ne HI0.out HO_393003.out (by decide))); have n3_ := Aside0.mk (below_weaken (by repeat (first | (with_reducible first | exact HB.out | apply h1 | apply h2 | apply h3 | refine h4 ?_ (IsS83.ge HI0.out) | refine h4 ?_ GE383.out | refine h4 ?_ GE392.out) | exact HB.out)) HL.out hb); have n4_ := Aside0.mk (KeepBut.trans (by repeat (first | (with_reducible first | exact HK.out | apply KeepBut.set_ | apply keep_drewN | apply keep_drew | apply keep_alloc | refine keep_far ?_ GW383.out _ | refine keep_far ?_ GW392.out _) | exact HK.out)) (KeepBut.of_grown hg g) (Kd.R_base2 HO_393003.out)); have n5_ := Aside0.mk (ho); clear BK383; clear BK392; clear HI0; clear HB; clear HK; clear HO_393003; have BK383 := n0_; have BK392 := n1_; have HI0 := n2_; have HB := n3_; have HK := n4_; have HO426 := n5_; clear n0_ n1_ n2_ n3_ n4_ n5_; clear ho hb hg hat; obtain ⟨Ao76, co76, eo76⟩ := Kd.R_slice HO426.out; subst eo76; obtain ⟨hcz77_0, hcz77_1, hcz77_2, hcz77_3⟩ := blk_cells4 BK392.out; obtain ⟨hfz77_0, hfz77_1, hfz77_2, hfz77_3⟩ := blk_frozens4 BK392.out))
            go_roundg k2
            case measure => have := HJ3.out; have := HK2.out; omega
            case rel => exact ⟨(t422), (t423), (y424), (.slice Ao76 y424.length co76), H', ⟨by have := HJ3.out; have := HK2.out; omega⟩, ⟨by exact Kd.rup (Kd.R_mono (Kd.R_far (p := ⟨gb392, 3, none⟩) (Kd.R_types HO426.out BK392.out (by decide)) (fun _ hk => hk.2) (.slice Ao76 y424.length co76)) (fun _ hk => trivial))⟩, ⟨bput BK383.out⟩, ⟨bput BK392.out⟩, ⟨by repeat (first | (with_reducible first | exact HI0.out | apply IsS83.alloc | apply IsS83.drewN | apply IsS83.drew | apply IsS83.set_1 | apply IsS83.set_2 | refine IsS83.far ?_ NB0_383.out _ | refine IsS83.far ?_ NB0_392.out _) | exact HI0.out)⟩, ⟨by repeat (first | (with_reducible first | exact HK.out | apply KeepBut.set_ | apply keep_drewN | apply keep_drew | apply keep_alloc | refine keep_far ?_ GW383.out _ | refine keep_far ?_ GW392.out _) | exact HK.out)⟩, ⟨by repeat (first | (with_reducible first | exact HB.out | apply h1 | apply h2 | apply h3 | refine h4 ?_ (IsS83.ge HI0.out) | refine h4 ?_ GE383.out | refine h4 ?_ GE392.out) | exact HB.out)⟩⟩
           ·rw [if_neg c68] at H
            exact absurd H (by simp)
          ·rw [if_neg c67] at H
           have c67b0 : decide ((x393003_2.length : Int) < (wrap64 (40 + t421))) = false := decide_eq_false c67
           clear c67
           simp only [Option.some.injEq, Prod.mk.injEq] at H
           obtain ⟨rfl, rfl, rfl, rfl, rfl, rfl⟩ := H
           try go_wp2
           have n0_ := Aside0.mk (Kd.R_drew HO_393003.out)
           have n1_ := Aside0.mk (blk_drew BK383.out)
           have n2_ := Aside0.mk (blk_drew BK392.out)
           have n3_ := Aside0.mk (IsS83.drew HI0.out)
           have n4_ := Aside0.mk (keep_drew HK.out)
           have n5_ := Aside0.mk (below_drew1 HB.out)
           clear HO_393003
           clear BK383
           clear BK392
           clear HI0
           clear HK
           clear HB
           have HO_393003 := n0_
           have BK383 := n1_
           have BK392 := n2_
           have HI0 := n3_
           have HK := n4_
           have HB := n5_
           clear n0_ n1_ n2_ n3_ n4_ n5_
           obtain ⟨Ao79, co79, eo79⟩ := Kd.R_slice HO_393003.out
           (first | subst eo79 | (injection eo79 with f1_ f2_ f3_; have f4_ := f1_.symm; have f5_ := f3_.symm; clear f1_ f2_ f3_; subst f4_; subst f5_))
           refine start_ (n := 7) (S := fun w' => w'.cell? ⟨gb392, 0, none⟩ = some (.int .i64 x393000_3) ∧ w'.cell? ⟨gb392, 1, none⟩ = some (.int .i64 x393001_3) ∧ w'.cell? ⟨gb392, 2, none⟩ = some (.float .f64 b393002_3) ∧ w'.cell? ⟨gb392, 3, none⟩ = some (.slice Ao79 x393003_2.length co79)) (ds := []) #[false, false, false, false, false, false, false] (by kernel_rfl) rfl rfl (blk_cells4 BK392.out) (fun hHeld => ?_)
           generalize wr.drew = w78 at HO_393003 BK383 BK392 HI0 HK HB hHeld ⊢
           refine pure_ (i := 0) (N := some 40) (v := ?_) (a' := ?_) #[true, false, false, false, false, false, false] rfl rfl (by kernel_rfl) (fun _ _ _ h => h) (Or.inl ⟨by rfl, ?_⟩) ?_ ?_
           rotate_left
           ·intro w'
            go_simp
            with_reducible rfl
           rotate_left
           ·simp only [Act.put, List.setIfInBounds_toArray, List.set_cons_zero, List.set_cons_succ, i64_w, i32_w]
            rfl
           refine pure_ (i := 3) (N := some 43) (v := ?_) (a' := ?_) #[true, false, false, true, false, false, false] rfl rfl (by kernel_rfl) (fun _ _ _ h => h) (Or.inl ⟨by rfl, ?_⟩) ?_ ?_
           rotate_left
           ·intro w'
            go_simp
            with_reducible rfl
           rotate_left
           ·simp only [Act.put, List.setIfInBounds_toArray, List.set_cons_zero, List.set_cons_succ, i64_w, i32_w]
            rfl
           refine take_ (i := 1) (N := some 41) (v := ?_) (a' := ?_) #[true, true, false, true, false, false, false] rfl rfl (by kernel_rfl) (fun _ _ _ h => h) (Or.inl ⟨by rfl, ?_⟩) hHeld ?_ ?_
           rotate_left
           ·rintro w' ⟨s0, s1, s2, s3⟩
            go_simp
            with_reducible rfl
           rotate_left
           ·simp only [Act.put, List.setIfInBounds_toArray, List.set_cons_zero, List.set_cons_succ, i64_w, i32_w]
            rfl
           refine pure_ (i := 2) (N := some 42) (v := ?_) (a' := ?_) #[true, true, true, true, false, false, false] rfl rfl (by kernel_rfl) (fun _ _ _ h => h) (Or.inl ⟨by rfl, ?_⟩) ?_ ?_
           rotate_left
           ·intro w'
            go_simp
            with_reducible rfl
           rotate_left
           ·simp only [Act.put, List.setIfInBounds_toArray, List.set_cons_zero, List.set_cons_succ, i64_w, i32_w]
            rfl
           refine one_ (i := 4) (N := some 44) #[true, true, true, true, true, false, false] rfl rfl (by kernel_rfl) (by decide) (fun K hK => ?_)
           refine goes_ Try.func59 (by kernel_rfl) rfl #[.pointer (some ⟨g, 0, none⟩), .int .i64 2] (by rfl) rfl rfl (by (try simp only [List.map_toArray, List.map_cons, List.map_nil]); first | done | rfl) ?_
           with_reducible refine (spec_l1Below.calls g s0_0 x1001_2 x1002_2 2 t421 t422 t423 w0 _ ?side1 ?side2 A66.out).mono ?_
           (case side1 => repeat (first | (with_reducible first | exact HI0.out | apply IsS83.alloc | apply IsS83.drewN | apply IsS83.drew | apply IsS83.set_1 | apply IsS83.set_2 | refine IsS83.far ?_ NB0_383.out _ | refine IsS83.far ?_ NB0_392.out _) | exact HI0.out))
           (case side2 => repeat (first | (with_reducible first | exact HB.out | apply h1 | apply h2 | apply h3 | refine h4 ?_ (IsS83.ge HI0.out) | refine h4 ?_ GE383.out | refine h4 ?_ GE392.out) | exact HB.out))
           rintro e w80 ⟨rfl, hi, hb, hk⟩
           refine ⟨_, rfl, ?_⟩
           have n0_ := Aside0.mk (Kd.R_mono (Kd.R_keep (IsS83.apart (show IsS83 w0 _ g s0_0 x1001_2 x1002_2 from by repeat (first | (with_reducible first | exact HI0.out | apply IsS83.alloc | apply IsS83.drewN | apply IsS83.drew | apply IsS83.set_1 | apply IsS83.set_2 | refine IsS83.far ?_ NB0_383.out _ | refine IsS83.far ?_ NB0_392.out _) | exact HI0.out)) (Kd.rup HO_393003.out) (by decide)) hk (fun _ h => h.2)) (fun _ h => h.1))
           have n1_ := Aside0.mk (KeepBut.blk hk (g' := gb383) (o := .cells #[.int .i64 0, .int .i64 0, .float .f64 0, .slice none 0 0] 25 (0, 0)) (bup BK383.out) NB383_0.out (by simp))
           have n2_ := Aside0.mk (KeepBut.blk hk (g' := gb392) (o := .cells #[.int .i64 x393000_3, .int .i64 x393001_3, .float .f64 b393002_3, .slice Ao79 x393003_2.length co79] 25 (0, 0)) (bup BK392.out) NB392_0.out (by simp))
           have n3_ := Aside0.mk (KeepBut.trans (by repeat (first | (with_reducible first | exact HK.out | apply KeepBut.set_ | apply keep_drewN | apply keep_drew | apply keep_alloc | refine keep_far ?_ GW383.out _ | refine keep_far ?_ GW392.out _) | exact HK.out)) hk (.inl rfl))
           have n4_ := Aside0.mk (hb)
           have n5_ := Aside0.mk (hi)
           clear HO_393003
           clear BK383
           clear BK392
           clear HK
           clear HB
           clear HI0
           have HO_393003 := n0_
           have BK383 := n1_
           have BK392 := n2_
           have HK := n3_
           have HB := n4_
           have HI0 := n5_
           clear n0_ n1_ n2_ n3_ n4_ n5_
           (try clear hb)
           (try clear hb2)
           (try clear hk)
           (try clear hi)
           refine hK.out _ _ (blk_cells4 BK392.out) (fun hHeld => ?_)
           clear hK K
           refine norm_ (a' := ?_) ?_ ?_
           rotate_left
           ·show Act.put _ (some 44) _ = _
            simp only [Act.put, List.setIfInBounds_toArray, List.set_cons_zero, List.set_cons_succ, i64_w, i32_w]
            rfl
           refine pure_ (i := 5) (N := some 45) (v := ?_) (a' := ?_) #[true, true, true, true, true, true, false] rfl rfl (by kernel_rfl) (fun _ _ _ h => h) (Or.inl ⟨by rfl, ?_⟩) ?_ ?_
           rotate_left
           ·intro w'
            go_simp
            with_reducible rfl
           rotate_left
           ·simp only [Act.put, List.setIfInBounds_toArray, List.set_cons_zero, List.set_cons_succ, i64_w, i32_w]
            rfl
           refine pure_ (i := 6) (N := some 46) (v := ?_) (a' := ?_) #[true, true, true, true, true, true, true] rfl rfl (by kernel_rfl) (fun _ _ _ h => h) (Or.inl ⟨by rfl, ?_⟩) ?_ ?_
           rotate_left
           ·intro w'
            go_simp
            with_reducible rfl
           rotate_left
           ·simp only [Act.put, List.setIfInBounds_toArray, List.set_cons_zero, List.set_cons_succ, i64_w, i32_w]
            rfl
           refine done_ (by kernel_rfl) ?_
           have hnb81 := NB392_383.out
           have hnc81 := NB383_392.out
           have hnb82 := NB392_0.out
           have hnc82 := NB0_392.out
           obtain ⟨hcz83_0, hcz83_1, hcz83_2, hcz83_3⟩ := blk_cells4 BK392.out
           obtain ⟨hfz83_0, hfz83_1, hfz83_2, hfz83_3⟩ := blk_frozens4 BK392.out
           have hnb84 := NB383_0.out
           have hnc84 := NB0_383.out
           obtain ⟨hcz85_0, hcz85_1, hcz85_2, hcz85_3⟩ := blk_cells4 BK383.out
           obtain ⟨hfz85_0, hfz85_1, hfz85_2, hfz85_3⟩ := blk_frozens4 BK383.out
           try go_wp2
           refine bodyPost_ret (results_cell_row rfl _ _ gb383 25 #[.int .i64 3, .int .i64 0, .float .f64 0, .slice Ao79 x393003_2.length co79] (0, 0) _ rfl (bput BK383.out) Try.underlying25 rfl (by kernel_rfl)) rfl ?_
           exact ⟨_, _, by first | rfl | (simp [errW_none, errW_some] <;> rfl) | (simp [*, errW_none, errW_some] <;> rfl), by exact Kd.rup (Kd.R_mono (Kd.R_far (p := ⟨gb383, 3, none⟩) (Kd.R_far (p := ⟨gb383, 2, none⟩) (Kd.R_far (p := ⟨gb383, 1, none⟩) (Kd.R_far (p := ⟨gb383, 0, none⟩) (Kd.R_far (p := ⟨gb392, 2, none⟩) (Kd.R_far (p := ⟨gb392, 1, none⟩) (Kd.R_far (p := ⟨gb392, 0, none⟩) (Kd.R_types (Kd.R_types HO_393003.out BK392.out (by decide)) BK383.out (by decide)) (fun _ hk => hk.1.2) (.int .i64 3)) (fun _ hk => hk.1.2) (.int .i64 0)) (fun _ hk => hk.1.2) (.float .f64 0)) (fun _ hk => hk.2) (.int .i64 3)) (fun _ hk => hk.2) (.int .i64 0)) (fun _ hk => hk.2) (.float .f64 0)) (fun _ hk => hk.2) (.slice Ao79 x393003_2.length co79)) (fun _ hk => trivial)), by repeat (first | (with_reducible first | exact HI0.out | apply IsS83.alloc | apply IsS83.drewN | apply IsS83.drew | apply IsS83.set_1 | apply IsS83.set_2 | refine IsS83.far ?_ NB0_383.out _ | refine IsS83.far ?_ NB0_392.out _) | exact HI0.out), by repeat (first | (with_reducible first | exact HB.out | apply h1 | apply h2 | apply h3 | refine h4 ?_ (IsS83.ge HI0.out) | refine h4 ?_ GE383.out | refine h4 ?_ GE392.out) | exact HB.out), by repeat (first | (with_reducible first | exact HK.out | apply KeepBut.set_ | apply keep_drewN | apply keep_drew | apply keep_alloc | refine keep_far ?_ GW383.out _ | refine keep_far ?_ GW392.out _) | exact HK.out), (by first | exact ⟨⟨rfl, LTb386.out⟩⟩ | exact ⟨⟨rfl, LTb393002_3.out⟩⟩ | exact ⟨⟨by first | rfl | decide, by decide⟩⟩ | exact ⟨⟨rfl, fquo_lt (by assumption)⟩⟩)⟩
       ·rw [if_neg c64] at H
        have c64b0 : (t404 == 4) = false := beq_eq_false_iff_ne.mpr c64
        have c64b1 : (t404 != 4) = true := bne_iff_ne.mpr c64
        repeat (first | ((fail_if_success (with_reducible refine gate_callee (f := 59) rfl ?_)); first | go_values | go_skip | go_guarded | go_step | go_upon | go_back | (simp only [Int.not_lt, Int.not_le] at *; go_simp)))
        (with_reducible refine gate_callee (f := 59) rfl ?_); refine goesL_ (some 12) rfl rfl Try.func59 (by kernel_rfl) rfl #[.pointer (some ⟨g, 0, none⟩), .int .i64 14] rfl (by (try simp only [List.map_toArray, List.map_cons, List.map_nil]); first | done | rfl) ?_; (with_reducible refine (spec_l1Below.calls g s0_0 x1001_3 x1002_3 14 t404 t405 t406 w0 _ ?side1 ?side2 A20.out).mono ?_); (case side1 => repeat (first | (with_reducible first | exact HI0.out | apply IsS83.alloc | apply IsS83.drewN | apply IsS83.drew | apply IsS83.set_1 | apply IsS83.set_2 | refine IsS83.far ?_ NB0_383.out _ | refine IsS83.far ?_ NB0_392.out _) | exact HI0.out)); (case side2 => repeat (first | (with_reducible first | exact HB.out | apply h1 | apply h2 | apply h3 | refine h4 ?_ (IsS83.ge HI0.out) | refine h4 ?_ GE383.out | refine h4 ?_ GE392.out) | exact HB.out)); rintro e w87 ⟨rfl, hi, hb, hk⟩; refine ⟨_, rfl, ?_⟩; have n0_ := Aside0.mk (Kd.R_mono (Kd.R_keep (IsS83.apart (show IsS83 w0 _ g s0_0 x1001_3 x1002_3 from by repeat (first | (with_reducible first | exact HI0.out | apply IsS83.alloc | apply IsS83.drewN | apply IsS83.drew | apply IsS83.set_1 | apply IsS83.set_2 | refine IsS83.far ?_ NB0_383.out _ | refine IsS83.far ?_ NB0_392.out _) | exact HI0.out)) (Kd.rup HO_393003.out) (by decide)) hk (fun _ h => h.2)) (fun _ h => h.1)); have n1_ := Aside0.mk (KeepBut.blk hk (g' := gb383) (o := .cells #[.int .i64 0, .int .i64 0, .float .f64 0, .slice none 0 0] 25 (0, 0)) (bup BK383.out) NB383_0.out (by simp)); have n2_ := Aside0.mk (KeepBut.blk hk (g' := gb392) (o := .cells #[.int .i64 x393000_3, .int .i64 x393001_3, .float .f64 b393002_3, u393003] 25 (0, 0)) (bup BK392.out) NB392_0.out (by simp)); have n3_ := Aside0.mk (KeepBut.trans (by repeat (first | (with_reducible first | exact HK.out | apply KeepBut.set_ | apply keep_drewN | apply keep_drew | apply keep_alloc | refine keep_far ?_ GW383.out _ | refine keep_far ?_ GW392.out _) | exact HK.out)) hk (.inl rfl)); have n4_ := Aside0.mk (hb); have n5_ := Aside0.mk (hi); clear HO_393003; clear BK383; clear BK392; clear HK; clear HB; clear HI0; have HO_393003 := n0_; have BK383 := n1_; have BK392 := n2_; have HK := n3_; have HB := n4_; have HI0 := n5_; clear n0_ n1_ n2_ n3_ n4_ n5_; (try clear hb); (try clear hb2); (try clear hk); (try clear hi); have hnb88 := NB392_383.out; have hnc88 := NB383_392.out; have hnb89 := NB392_0.out; have hnc89 := NB0_392.out; obtain ⟨hcz90_0, hcz90_1, hcz90_2, hcz90_3⟩ := blk_cells4 BK392.out; obtain ⟨hfz90_0, hfz90_1, hfz90_2, hfz90_3⟩ := blk_frozens4 BK392.out; have hnb91 := NB383_0.out; have hnc91 := NB0_383.out; obtain ⟨hcz92_0, hcz92_1, hcz92_2, hcz92_3⟩ := blk_cells4 BK383.out
        by_cases c86 : t404 = 5
        ·rw [if_pos c86] at H
         have c86b0 : (t404 == 5) = true := beq_iff_eq.mpr c86
         have c86b1 : (t404 != 5) = false := bne_eq_false_iff_eq.mpr c86
         (try simp only [c86b0, c86b1, Bool.not_true, Bool.not_false])
         clear c86
         simp only [Option.some.injEq, Prod.mk.injEq] at H
         obtain ⟨rfl, rfl, rfl, rfl, rfl, rfl⟩ := H
         obtain ⟨hfz92_0, hfz92_1, hfz92_2, hfz92_3⟩ := blk_frozens4 BK383.out
         try go_wp2
         refine bodyPost_ret (results_cell_row rfl _ _ gb383 25 #[.int .i64 2, .int .i64 0, .float .f64 (fneg 0), .slice none 0 0] (0, 0) _ rfl (bput BK383.out) Try.underlying25 rfl (by kernel_rfl)) rfl ?_
         exact ⟨_, _, by first | rfl | (simp [errW_none, errW_some] <;> rfl) | (simp [*, errW_none, errW_some] <;> rfl), by first | exact Kd.R_nil _ _ _ _ _ | exact Kd.N_nil _ _ _ _ _ | exact Kd.V_nil _ _ _ _ _ | exact Kd.Q_nil _ _ _ _ _ | exact Kd.S_nil _ _ _ _ _, by repeat (first | (with_reducible first | exact HI0.out | apply IsS83.alloc | apply IsS83.drewN | apply IsS83.drew | apply IsS83.set_1 | apply IsS83.set_2 | refine IsS83.far ?_ NB0_383.out _ | refine IsS83.far ?_ NB0_392.out _) | exact HI0.out), by repeat (first | (with_reducible first | exact HB.out | apply h1 | apply h2 | apply h3 | refine h4 ?_ (IsS83.ge HI0.out) | refine h4 ?_ GE383.out | refine h4 ?_ GE392.out) | exact HB.out), by repeat (first | (with_reducible first | exact HK.out | apply KeepBut.set_ | apply keep_drewN | apply keep_drew | apply keep_alloc | refine keep_far ?_ GW383.out _ | refine keep_far ?_ GW392.out _) | exact HK.out), (by first | exact ⟨⟨rfl, LTb386.out⟩⟩ | exact ⟨⟨rfl, LTb393002_3.out⟩⟩ | exact ⟨⟨by first | rfl | decide, by decide⟩⟩ | exact ⟨⟨rfl, fquo_lt (by assumption)⟩⟩)⟩
        ·rw [if_neg c86] at H
         have c86b0 : (t404 == 5) = false := beq_eq_false_iff_ne.mpr c86
         have c86b1 : (t404 != 5) = true := bne_iff_ne.mpr c86
         (try simp only [c86b0, c86b1, Bool.not_true, Bool.not_false])
         simp only [Option.some.injEq, Prod.mk.injEq] at H
         obtain ⟨rfl, rfl, rfl, rfl, rfl, rfl⟩ := H
         obtain ⟨hfz98_0, hfz98_1, hfz98_2, hfz98_3⟩ := blk_frozens4 BK383.out; obtain ⟨Ao99, co99, eo99⟩ := Kd.R_slice HO_393003.out; subst eo99
         try go_wp2
         refine bodyPost_ret (results_cell_row rfl _ _ gb383 25 #[.int .i64 x393000_3, .int .i64 x393001_3, .float .f64 b393002_3, .slice Ao99 x393003_3.length co99] (0, 0) _ rfl (bput BK383.out) Try.underlying25 rfl (by kernel_rfl)) rfl ?_
         exact ⟨_, _, by first | rfl | (simp [errW_none, errW_some] <;> rfl) | (simp [*, errW_none, errW_some] <;> rfl), by exact Kd.rup (Kd.R_mono (Kd.R_far (p := ⟨gb383, 3, none⟩) (Kd.R_far (p := ⟨gb383, 2, none⟩) (Kd.R_far (p := ⟨gb383, 1, none⟩) (Kd.R_far (p := ⟨gb383, 0, none⟩) (Kd.R_types HO_393003.out BK383.out (by decide)) (fun _ hk => hk.2) (.int .i64 x393000_3)) (fun _ hk => hk.2) (.int .i64 x393001_3)) (fun _ hk => hk.2) (.float .f64 b393002_3)) (fun _ hk => hk.2) (.slice Ao99 x393003_3.length co99)) (fun _ hk => trivial)), by repeat (first | (with_reducible first | exact HI0.out | apply IsS83.alloc | apply IsS83.drewN | apply IsS83.drew | apply IsS83.set_1 | apply IsS83.set_2 | refine IsS83.far ?_ NB0_383.out _ | refine IsS83.far ?_ NB0_392.out _) | exact HI0.out), by repeat (first | (with_reducible first | exact HB.out | apply h1 | apply h2 | apply h3 | refine h4 ?_ (IsS83.ge HI0.out) | refine h4 ?_ GE383.out | refine h4 ?_ GE392.out) | exact HB.out), by repeat (first | (with_reducible first | exact HK.out | apply KeepBut.set_ | apply keep_drewN | apply keep_drew | apply keep_alloc | refine keep_far ?_ GW383.out _ | refine keep_far ?_ GW392.out _) | exact HK.out), (by first | exact ⟨⟨rfl, LTb386.out⟩⟩ | exact ⟨⟨rfl, LTb393002_3.out⟩⟩ | exact ⟨⟨by first | rfl | decide, by decide⟩⟩ | exact ⟨⟨rfl, fquo_lt (by assumption)⟩⟩)⟩
end Go.Proofs.Ytjjkhlphdbmdfaa.PFnKeys
