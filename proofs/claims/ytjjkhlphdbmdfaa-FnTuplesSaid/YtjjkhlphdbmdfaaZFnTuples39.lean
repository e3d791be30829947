import Derived.Test.YtjjkhlphdbmdfaaZFnTuples30
import Derived.Test.YtjjkhlphdbmdfaaZFnTuples35
import Derived.Test.YtjjkhlphdbmdfaaZFnTuples36
import Derived.Test.YtjjkhlphdbmdfaaZFnTuples37
import Derived.Test.YtjjkhlphdbmdfaaZFnTuples38
namespace Go.Proofs.Ytjjkhlphdbmdfaa.PFnTuples
open Go.RowKit Go.Proofs.YtjjkhlphdbmdfaaW.PrintWords Go.Proofs.YtjjkhlphdbmdfaaW.PrintLast Go.Proofs.YtjjkhlphdbmdfaaW.PrintMore
attribute [local go_sem] max2_int min2_int max_two min_two max_three min_three max_four min_four   -- for this text's walks alone
attribute [local go_sem high] fl_eql fl_neq fl_lss fl_leq fl_gtr fl_geq fl_add fl_sub fl_mul fl_quo fl_neg fl_ofInt fl_toInt fl_store sub_sign ext_bits ext_from fl_nan_quo fl_nan_add fl_nan_mul fl_nan_sub
open Go.Proofs.YtjjkhlphdbmdfaaW.PrintWords renaming below_alloc → h1, pw_below_drewN → h2, below_drew1 → h3, below_set → h4, blk_drewN → b1, blk_drew → b2, blk_alloc → b3
set_option linter.unusedVariables false
set_option linter.unusedSimpArgs false
mutual
def spec_l3any.j0 : Nat → List Int → Int → Int → Int → Int → Nat → List Int → Option (Int × Int × Nat × List Int × Int × Int)
 | 0, _, _, _, _, _, _, _ => none
 | k + 1, x1000, x1001, x1002, x475000, x475001, x475002, x475003 => (spec_l1Below.f x1000 x1001 x1002 14).bind fun bt486 => (if bt486.1 = 0 then ((spec_l1Below.f x1000 bt486.2.1 bt486.2.2 7).bind fun bt489 => (some (wrap64 (bt489.1 - 1), x475001, x475002, x475003, bt489.2.1, bt489.2.2))) else (if bt486.1 = 1 then (some (x475000, wrap64 (x475001 + 1), x475002, x475003, bt486.2.1, bt486.2.2)) else (if bt486.1 = 2 then ((spec_l2float.f k x1000 bt486.2.1 bt486.2.2).bind fun bt492 => (some (x475000, x475001, bt492.1, x475003, bt492.2.1, bt492.2.2))) else (if bt486.1 = 3 then ((spec_l1some.f k x1000 bt486.2.1 bt486.2.2 3).bind fun bt495 => (if x475003.length + bt495.1.length < 140737488355328 then (some (x475000, x475001, x475002, (x475003 ++ bt495.1), bt495.2.1, bt495.2.2)) else (none))) else (if bt486.1 = 4 then (spec_l3any.l0 k x1000 bt486.2.1 bt486.2.2 x475000 x475001 x475002 x475003) else (if bt486.1 = 5 then (some (2, 0, fneg 0, ([] : List Int), bt486.2.1, bt486.2.2)) else (some (x475000, x475001, x475002, x475003, bt486.2.1, bt486.2.2))))))))
def spec_l3any.l0 : Nat → List Int → Int → Int → Int → Int → Nat → List Int → Option (Int × Int × Nat × List Int × Int × Int)
 | 0, _, _, _, _, _, _, _ => none
 | k + 1, x1000, x1001, x1002, x475000, x475001, x475002, x475003 => (spec_l1Below.f x1000 x1001 x1002 2).bind fun bt503 => (if (x475003.length : Int) < (wrap64 (40 + bt503.1)) then (if x475003.length < 140737488355328 then (spec_l3any.l0 k x1000 bt503.2.1 bt503.2.2 x475000 x475001 x475002 (x475003 ++ [120])) else (none)) else (some (3, 0, 0, x475003, bt503.2.1, bt503.2.2)))
end
def spec_l3any.f (k : Nat) (s0_0 : List Int) (s0_1 : Int) (s0_2 : Int) : Option (Int × Int × Nat × List Int × Int × Int) := (spec_l3value.f k s0_0 s0_1 s0_2).bind fun bt466 => ((spec_l1Once.f s0_0 bt466.2.2.2.2.1 bt466.2.2.2.2.2 2).bind fun bt475 => (if bt475.1 = true then ((spec_l3key.f k s0_0 bt475.2.1 bt475.2.2).bind fun bt478 => (spec_l3any.j0 k s0_0 bt478.2.2.2.2.1 bt478.2.2.2.2.2 bt478.1 bt478.2.1 bt478.2.2.1 bt478.2.2.2.1)) else (spec_l3any.j0 k s0_0 bt475.2.1 bt475.2.2 bt466.1 bt466.2.1 bt466.2.2.1 bt466.2.2.2.1)))
theorem spec_l3any.mono_l : ∀ k, (∀ y0 y1 y2 y3 y4 y5 y6, LeO (spec_l3any.j0 k y0 y1 y2 y3 y4 y5 y6) (spec_l3any.j0 (k + 1) y0 y1 y2 y3 y4 y5 y6)) ∧ (∀ y0 y1 y2 y3 y4 y5 y6, LeO (spec_l3any.l0 k y0 y1 y2 y3 y4 y5 y6) (spec_l3any.l0 (k + 1) y0 y1 y2 y3 y4 y5 y6))
 | 0 => ⟨fun _ _ _ _ _ _ _ r h => by simp [spec_l3any.j0] at h, fun _ _ _ _ _ _ _ r h => by simp [spec_l3any.l0] at h⟩
 | k + 1 => by
  obtain ⟨ih0, ih1⟩ := spec_l3any.mono_l k
  refine ⟨?_, ?_⟩
  ·intro y0 y1 y2 y3 y4 y5 y6
   unfold spec_l3any.j0
   repeat' with_reducible first | exact ih0 _ _ _ _ _ _ _ | exact ih1 _ _ _ _ _ _ _ | exact spec_l1some.mono _ _ _ _ _ | exact spec_l2float.mono _ _ _ _ | exact spec_l3key.mono _ _ _ _ | exact spec_l3value.mono _ _ _ _ | exact LeO.refl _ | exact LeO.none _ | refine LeO.ite ?_ ?_ | refine LeO.bind ?_ (fun _ => ?_)
  ·intro y0 y1 y2 y3 y4 y5 y6
   unfold spec_l3any.l0
   repeat' with_reducible first | exact ih0 _ _ _ _ _ _ _ | exact ih1 _ _ _ _ _ _ _ | exact spec_l1some.mono _ _ _ _ _ | exact spec_l2float.mono _ _ _ _ | exact spec_l3key.mono _ _ _ _ | exact spec_l3value.mono _ _ _ _ | exact LeO.refl _ | exact LeO.none _ | refine LeO.ite ?_ ?_ | refine LeO.bind ?_ (fun _ => ?_)
theorem spec_l3any.mono : ∀ a0 a1 a2 k, LeO (spec_l3any.f k a0 a1 a2) (spec_l3any.f (k + 1) a0 a1 a2) := by
 intro a0 a1 a2 k
 obtain ⟨ih0, ih1⟩ := spec_l3any.mono_l k
 unfold spec_l3any.f
 repeat' with_reducible first | exact ih0 _ _ _ _ _ _ _ | exact ih1 _ _ _ _ _ _ _ | exact spec_l1some.mono _ _ _ _ _ | exact spec_l2float.mono _ _ _ _ | exact spec_l3key.mono _ _ _ _ | exact spec_l3value.mono _ _ _ _ | exact LeO.refl _ | exact LeO.none _ | refine LeO.ite ?_ ?_ | refine LeO.bind ?_ (fun _ => ?_)
set_option maxHeartbeats 8000000 in
set_option maxRecDepth 100000 in
theorem spec_l3any.callsC (k : Nat) (g : Nat) (s0_0 : List Int) (s0_1 : Int) (s0_2 : Int) (r1 : Int) (r2 : Int) (r3 : Nat) (r4 : List Int) (r5 : Int) (r6 : Int) (w0 w : World) (hI : IsS83 w0 w g s0_0 s0_1 s0_2) (hB : Below w0.heap.size w0 w) (h : spec_l3any.f k s0_0 s0_1 s0_2 = some (r1, r2, r3, r4, r5, r6)) :
  Calls Try.prog 58 #[.pointer (some ⟨g, 0, none⟩)] w fun e w' => ∃ b1_ : Nat, ∃ v3_ : Value, e = .returned (.agg #[.int .i64 r1, .int .i64 r2, .float .f64 b1_, v3_]) ∧ Kd.R (Kd.int .u8) 5 w' w.heap.size (fun _ => True) v3_ r4 ∧ IsS83 w0 w' g s0_0 r5 r6 ∧ Below w0.heap.size w0 w' ∧ KeepBut w w' g none ∧ Aside0 (cn b1_ = r3 ∧ b1_ < 2 ^ 64) := by
 have hu25 := Try.underlying25
 have HI0 := Aside0.mk hI
 have HK := Aside0.mk (KeepBut.refl w g none)
 have HL := Aside0.mk hB.size
 clear hI
 have HW0 := Aside0.mk hB.size
 have HB := Aside0.mk hB
 clear hB
 have H := h
 clear h
 unfold spec_l3any.f at H
 replace H := Option.bind_eq_some_iff.mp H
 obtain ⟨⟨t466, t467, t468, t469, t472, t473⟩, A20, H⟩ := H
 (try dsimp only at H)
 have A2 := Aside0.mk A20
 clear A20
 replace H := Option.bind_eq_some_iff.mp H
 obtain ⟨⟨t475, t476, t477⟩, A30, H⟩ := H
 (try dsimp only at H)
 have A3 := Aside0.mk A30
 clear A30
 have HC4 := Aside0.mk H
 clear H
 go_enter Try.func58, Try.ntmps58
 go_upto_if 8 with (first | ((with_reducible refine gate_dst (N := 2) rfl ?_); refine box_event ?hg (N := 2) ?hd (cs := #[.int .i64 0, .int .i64 0, .float .f64 0, .slice none 0 0]) (t := 25) ?hr ?_; (case hd => rfl); (case hg => rfl); (case hr => first | (go_simp; done) | (go_simp; rfl)); intro gb465 hg w5 hbox hb; have n0_ := Aside0.mk (IsS83.below (by repeat (first | (with_reducible first | exact HI0.out | apply IsS83.alloc | apply IsS83.drewN | apply IsS83.drew | apply IsS83.set_1 | apply IsS83.set_2) | exact HI0.out)) hb); have n1_ := Aside0.mk (KeepBut.trans (by repeat (first | (with_reducible first | exact HK.out | apply KeepBut.set_ | apply keep_drewN | apply keep_drew | apply keep_alloc) | exact HK.out)) (KeepBut.of_below hb g none) (.inl rfl)); have n2_ := Aside0.mk (below_step (by repeat (first | (with_reducible first | exact HB.out | apply h1 | apply h2 | apply h3 | refine h4 ?_ (IsS83.ge HI0.out)) | exact HB.out)) hb); have n3_ := Aside0.mk (hbox); have n4_ := Geq.mk ((by rw [hg]; exact (keep_size (w := w) (g := g) (row := none) (by repeat (first | (with_reducible first | exact HK.out | apply KeepBut.set_ | apply keep_drewN | apply keep_drew | apply keep_alloc) | exact HK.out))) : w.heap.size ≤ gb465)); have n5_ := Aside0.mk ((Nat.le_trans HW0.out (by rw [hg]; exact (keep_size (w := w) (g := g) (row := none) (by repeat (first | (with_reducible first | exact HK.out | apply KeepBut.set_ | apply keep_drewN | apply keep_drew | apply keep_alloc) | exact HK.out))) : w.heap.size ≤ gb465) : w0.heap.size ≤ gb465)); have n6_ := Aside0.mk ((by rw [hg]; exact Nat.ne_of_lt (IsS83.lt (show IsS83 w0 _ g s0_0 s0_1 s0_2 from by repeat (first | (with_reducible first | exact HI0.out | apply IsS83.alloc | apply IsS83.drewN | apply IsS83.drew | apply IsS83.set_1 | apply IsS83.set_2) | exact HI0.out))) : g ≠ gb465)); have n7_ := Aside0.mk ((by rw [hg]; exact Nat.ne_of_gt (IsS83.lt (show IsS83 w0 _ g s0_0 s0_1 s0_2 from by repeat (first | (with_reducible first | exact HI0.out | apply IsS83.alloc | apply IsS83.drewN | apply IsS83.drew | apply IsS83.set_1 | apply IsS83.set_2) | exact HI0.out))) : gb465 ≠ g)); clear HI0; clear HK; clear HB; have HI0 := n0_; have HK := n1_; have HB := n2_; have BK465 := n3_; have GW465 := n4_; have GE465 := n5_; have NB0_465 := n6_; have NB465_0 := n7_; clear n0_ n1_ n2_ n3_ n4_ n5_ n6_ n7_; clear hb hbox hg) | ((with_reducible refine gate_callee (f := 66) rfl ?_); refine goesL_ (some 6) rfl rfl Try.func66 (by kernel_rfl) rfl #[.pointer (some ⟨g, 0, none⟩)] rfl (by (try simp only [List.map_toArray, List.map_cons, List.map_nil]); first | done | rfl) ?_; (with_reducible refine (spec_l3value.callsC k g s0_0 s0_1 s0_2 t466 t467 t468 t469 t472 t473 w0 _ ?side1 ?side2 A2.out).mono ?_); (case side1 => repeat (first | (with_reducible first | exact HI0.out | apply IsS83.alloc | apply IsS83.drewN | apply IsS83.drew | apply IsS83.set_1 | apply IsS83.set_2 | refine IsS83.far ?_ NB0_465.out _) | exact HI0.out)); (case side2 => repeat (first | (with_reducible first | exact HB.out | apply h1 | apply h2 | apply h3 | refine h4 ?_ (IsS83.ge HI0.out) | refine h4 ?_ GE465.out) | exact HB.out)); rintro e w6 ⟨b468, v470, rfl, ho0, hi, hb, hk, ⟨⟨hcnb468, hltb468⟩⟩⟩; refine ⟨_, rfl, ?_⟩; have LTb468 := Aside0.mk hltb468; clear hltb468; subst hcnb468; have n0_ := Aside0.mk (KeepBut.blk hk (g' := gb465) (o := .cells #[.int .i64 0, .int .i64 0, .float .f64 0, .slice none 0 0] 25 (0, 0)) (bup BK465.out) NB465_0.out (by simp)); have n1_ := Aside0.mk (Kd.R_lower ho0 (keep_size (w := w) (g := g) (row := none) (by repeat (first | (with_reducible first | exact HK.out | apply KeepBut.set_ | apply keep_drewN | apply keep_drew | apply keep_alloc | refine keep_far ?_ GW465.out _) | exact HK.out)))); have n2_ := Aside0.mk (KeepBut.trans (by repeat (first | (with_reducible first | exact HK.out | apply KeepBut.set_ | apply keep_drewN | apply keep_drew | apply keep_alloc | refine keep_far ?_ GW465.out _) | exact HK.out)) hk (.inl rfl)); have n3_ := Aside0.mk (hb); have n4_ := Aside0.mk (hi); clear BK465; clear HK; clear HB; clear HI0; have BK465 := n0_; have HO471 := n1_; have HK := n2_; have HB := n3_; have HI0 := n4_; clear n0_ n1_ n2_ n3_ n4_; (try clear hb); (try clear hb2); (try clear hk); (try clear hi); (try clear ho0)) | ((with_reducible refine gate_dst (N := 3) rfl ?_); refine box_event ?hg (N := 3) ?hd (cs := #[.int .i64 0, .int .i64 0, .float .f64 0, .slice none 0 0]) (t := 25) ?hr ?_; (case hd => rfl); (case hg => rfl); (case hr => first | (go_simp; done) | (go_simp; rfl)); intro gb474 hg w7 hbox hb; have n0_ := Aside0.mk (Kd.R_below (Kd.rup HO471.out) hb); have n1_ := Aside0.mk (IsS83.below (by repeat (first | (with_reducible first | exact HI0.out | apply IsS83.alloc | apply IsS83.drewN | apply IsS83.drew | apply IsS83.set_1 | apply IsS83.set_2 | refine IsS83.far ?_ NB0_465.out _) | exact HI0.out)) hb); have n2_ := Aside0.mk (blk_below (bup BK465.out) hb); have n3_ := Aside0.mk (KeepBut.trans (by repeat (first | (with_reducible first | exact HK.out | apply KeepBut.set_ | apply keep_drewN | apply keep_drew | apply keep_alloc | refine keep_far ?_ GW465.out _) | exact HK.out)) (KeepBut.of_below hb g none) (.inl rfl)); have n4_ := Aside0.mk (below_step (by repeat (first | (with_reducible first | exact HB.out | apply h1 | apply h2 | apply h3 | refine h4 ?_ (IsS83.ge HI0.out) | refine h4 ?_ GE465.out) | exact HB.out)) hb); have n5_ := Aside0.mk (hbox); have n6_ := Geq.mk ((by rw [hg]; exact (keep_size (w := w) (g := g) (row := none) (by repeat (first | (with_reducible first | exact HK.out | apply KeepBut.set_ | apply keep_drewN | apply keep_drew | apply keep_alloc | refine keep_far ?_ GW465.out _) | exact HK.out))) : w.heap.size ≤ gb474)); have n7_ := Aside0.mk ((Nat.le_trans HW0.out (by rw [hg]; exact (keep_size (w := w) (g := g) (row := none) (by repeat (first | (with_reducible first | exact HK.out | apply KeepBut.set_ | apply keep_drewN | apply keep_drew | apply keep_alloc | refine keep_far ?_ GW465.out _) | exact HK.out))) : w.heap.size ≤ gb474) : w0.heap.size ≤ gb474)); have n8_ := Neq.mk ((by rw [hg]; exact Nat.ne_of_lt (blk_lt (g := gb465) (o := .cells #[.int .i64 0, .int .i64 0, .float .f64 0, .slice none 0 0] 25 (0, 0)) (bup BK465.out)) : gb465 ≠ gb474)); have n9_ := Neq.mk ((by rw [hg]; exact Nat.ne_of_gt (blk_lt (g := gb465) (o := .cells #[.int .i64 0, .int .i64 0, .float .f64 0, .slice none 0 0] 25 (0, 0)) (bup BK465.out)) : gb474 ≠ gb465)); have n10_ := Aside0.mk ((by rw [hg]; exact Nat.ne_of_lt (IsS83.lt (show IsS83 w0 _ g s0_0 t472 t473 from by repeat (first | (with_reducible first | exact HI0.out | apply IsS83.alloc | apply IsS83.drewN | apply IsS83.drew | apply IsS83.set_1 | apply IsS83.set_2 | refine IsS83.far ?_ NB0_465.out _) | exact HI0.out))) : g ≠ gb474)); have n11_ := Aside0.mk ((by rw [hg]; exact Nat.ne_of_gt (IsS83.lt (show IsS83 w0 _ g s0_0 t472 t473 from by repeat (first | (with_reducible first | exact HI0.out | apply IsS83.alloc | apply IsS83.drewN | apply IsS83.drew | apply IsS83.set_1 | apply IsS83.set_2 | refine IsS83.far ?_ NB0_465.out _) | exact HI0.out))) : gb474 ≠ g)); clear HO471; clear HI0; clear BK465; clear HK; clear HB; have HO471 := n0_; have HI0 := n1_; have BK465 := n2_; have HK := n3_; have HB := n4_; have BK474 := n5_; have GW474 := n6_; have GE474 := n7_; have NB465_474 := n8_; have NB474_465 := n9_; have NB0_474 := n10_; have NB474_0 := n11_; clear n0_ n1_ n2_ n3_ n4_ n5_ n6_ n7_ n8_ n9_ n10_ n11_; clear hb hbox hg; have hnb8 := NB474_465.out; have hnc8 := NB465_474.out; have hnb9 := NB474_0.out; have hnc9 := NB0_474.out; obtain ⟨hcz10_0, hcz10_1, hcz10_2, hcz10_3⟩ := blk_cells4 BK474.out; obtain ⟨hfz10_0, hfz10_1, hfz10_2, hfz10_3⟩ := blk_frozens4 BK474.out; obtain ⟨Ao11, co11, eo11⟩ := Kd.R_slice HO471.out; subst eo11) | ((with_reducible refine gate_callee (f := 67) rfl ?_); refine goesL_ (some 8) rfl rfl Try.func67 (by kernel_rfl) rfl #[.pointer (some ⟨g, 0, none⟩), .int .i64 2] rfl (by (try simp only [List.map_toArray, List.map_cons, List.map_nil]); first | done | rfl) ?_; (with_reducible refine (spec_l1Once.calls g s0_0 t472 t473 2 t475 t476 t477 w0 _ ?side1 ?side2 A3.out).mono ?_); (case side1 => repeat (first | (with_reducible first | exact HI0.out | apply IsS83.alloc | apply IsS83.drewN | apply IsS83.drew | apply IsS83.set_1 | apply IsS83.set_2 | refine IsS83.far ?_ NB0_465.out _ | refine IsS83.far ?_ NB0_474.out _) | exact HI0.out)); (case side2 => repeat (first | (with_reducible first | exact HB.out | apply h1 | apply h2 | apply h3 | refine h4 ?_ (IsS83.ge HI0.out) | refine h4 ?_ GE465.out | refine h4 ?_ GE474.out) | exact HB.out)); rintro e w12 ⟨rfl, hi, hb, hk⟩; refine ⟨_, rfl, ?_⟩; have n0_ := Aside0.mk (KeepBut.blk hk (g' := gb465) (o := .cells #[.int .i64 0, .int .i64 0, .float .f64 0, .slice none 0 0] 25 (0, 0)) (bput BK465.out) NB465_0.out (by simp)); have n1_ := Aside0.mk (Kd.R_mono (Kd.R_keep (IsS83.apart (show IsS83 w0 _ g s0_0 t472 t473 from by repeat (first | (with_reducible first | exact HI0.out | apply IsS83.alloc | apply IsS83.drewN | apply IsS83.drew | apply IsS83.set_1 | apply IsS83.set_2 | refine IsS83.far ?_ NB0_465.out _ | refine IsS83.far ?_ NB0_474.out _) | exact HI0.out)) ((Kd.roff1 HO471.out BK474.out (by decide))) (by decide)) hk (fun _ h => h.2)) (fun _ h => h.1)); have n2_ := Aside0.mk (KeepBut.blk hk (g' := gb474) (o := .cells #[.int .i64 t466, .int .i64 t467, .float .f64 b468, .slice Ao11 t469.length co11] 25 (0, 0)) (bput BK474.out) NB474_0.out (by simp)); have n3_ := Aside0.mk (KeepBut.trans (by repeat (first | (with_reducible first | exact HK.out | apply KeepBut.set_ | apply keep_drewN | apply keep_drew | apply keep_alloc | refine keep_far ?_ GW465.out _ | refine keep_far ?_ GW474.out _) | exact HK.out)) hk (.inl rfl)); have n4_ := Aside0.mk (hb); have n5_ := Aside0.mk (hi); clear BK465; clear HO471; clear BK474; clear HK; clear HB; clear HI0; have BK465 := n0_; have HO471 := n1_; have BK474 := n2_; have HK := n3_; have HB := n4_; have HI0 := n5_; clear n0_ n1_ n2_ n3_ n4_ n5_; (try clear hb); (try clear hb2); (try clear hk); (try clear hi)))
 (try simp only [Act.put, List.setIfInBounds_toArray, List.set_cons_zero, List.set_cons_succ])
 go_cut [] (fun wc => ∃ (kq : Nat) (x1001_3 : Int) (x1002_3 : Int) (x475000_3 : Int) (x475001_3 : Int) (b475002_3 : Nat) (x475003_3 : List Int) (u475003 : Value), Aside0 (spec_l3any.j0 kq s0_0 x1001_3 x1002_3 x475000_3 x475001_3 (cn b475002_3) x475003_3 = some (r1, r2, r3, r4, r5, r6)) ∧ Aside0 (kq ≤ k) ∧ Aside0 (Kd.R (Kd.int .u8) 5 wc w.heap.size (fun _ => True) u475003 x475003_3) ∧ Aside0 (wc.heap[gb465]? = some (.cells #[.int .i64 0, .int .i64 0, .float .f64 0, (.slice none 0 0)] 25 (0, 0))) ∧ Aside0 (wc.heap[gb474]? = some (.cells #[.int .i64 x475000_3, .int .i64 x475001_3, .float .f64 b475002_3, u475003] 25 (0, 0))) ∧ Aside0 (IsS83 w0 wc g s0_0 x1001_3 x1002_3) ∧ Aside0 (KeepBut w wc g none) ∧ Aside0 (Below w0.heap.size w0 wc) ∧ Aside0 (b475002_3 < 2 ^ 64))
 case first =>
  have H := HC4.out
  clear HC4
  by_cases c13 : t475 = true
  ·subst c13
   rw [if_pos rfl] at H
   (try dsimp only at H)
   replace H := Option.bind_eq_some_iff.mp H
   obtain ⟨⟨t478, t479, t480, t481, t484, t485⟩, A140, H⟩ := H
   (try dsimp only at H)
   have A14 := Aside0.mk A140
   clear A140
   have H' := Aside0.mk H
   clear H
   go_wp2_with (first | ((with_reducible refine gate_callee (f := 62) rfl ?_); refine goesL_ (some 10) rfl rfl Try.func62 (by kernel_rfl) rfl #[.pointer (some ⟨g, 0, none⟩)] rfl (by (try simp only [List.map_toArray, List.map_cons, List.map_nil]); first | done | rfl) ?_; (with_reducible refine (spec_l3key.callsC k g s0_0 t476 t477 t478 t479 t480 t481 t484 t485 w0 _ ?side1 ?side2 A14.out).mono ?_); (case side1 => repeat (first | (with_reducible first | exact HI0.out | apply IsS83.alloc | apply IsS83.drewN | apply IsS83.drew | apply IsS83.set_1 | apply IsS83.set_2 | refine IsS83.far ?_ NB0_465.out _ | refine IsS83.far ?_ NB0_474.out _) | exact HI0.out)); (case side2 => repeat (first | (with_reducible first | exact HB.out | apply h1 | apply h2 | apply h3 | refine h4 ?_ (IsS83.ge HI0.out) | refine h4 ?_ GE465.out | refine h4 ?_ GE474.out) | exact HB.out)); rintro e w15 ⟨b480, v482, rfl, ho0, hi, hb, hk, ⟨⟨hcnb480, hltb480⟩⟩⟩; refine ⟨_, rfl, ?_⟩; have LTb480 := Aside0.mk hltb480; clear hltb480; subst hcnb480; have n0_ := Aside0.mk (KeepBut.blk hk (g' := gb465) (o := .cells #[.int .i64 0, .int .i64 0, .float .f64 0, .slice none 0 0] 25 (0, 0)) (bup BK465.out) NB465_0.out (by simp)); have n1_ := Aside0.mk (Kd.R_mono (Kd.R_told (Kd.R_oldK (IsS83.apart (show IsS83 w0 _ g s0_0 t476 t477 from by repeat (first | (with_reducible first | exact HI0.out | apply IsS83.alloc | apply IsS83.drewN | apply IsS83.drew | apply IsS83.set_1 | apply IsS83.set_2 | refine IsS83.far ?_ NB0_465.out _ | refine IsS83.far ?_ NB0_474.out _) | exact HI0.out)) (Kd.rup HO471.out) (by decide)) hk) (Kd.R_base ho0)) (fun _ h_ => h_.1)); have n2_ := Aside0.mk (KeepBut.blk hk (g' := gb474) (o := .cells #[.int .i64 t466, .int .i64 t467, .float .f64 b468, .slice Ao11 t469.length co11] 25 (0, 0)) (bup BK474.out) NB474_0.out (by simp)); have n3_ := Aside0.mk (Kd.R_lower (Kd.R_new' ho0 (Kd.R_lt (Kd.rup HO471.out))) (keep_size (w := w) (g := g) (row := none) (by repeat (first | (with_reducible first | exact HK.out | apply KeepBut.set_ | apply keep_drewN | apply keep_drew | apply keep_alloc | refine keep_far ?_ GW465.out _ | refine keep_far ?_ GW474.out _) | exact HK.out)))); have n4_ := Aside0.mk (KeepBut.trans (by repeat (first | (with_reducible first | exact HK.out | apply KeepBut.set_ | apply keep_drewN | apply keep_drew | apply keep_alloc | refine keep_far ?_ GW465.out _ | refine keep_far ?_ GW474.out _) | exact HK.out)) hk (.inl rfl)); have n5_ := Aside0.mk (hb); have n6_ := Aside0.mk (hi); clear BK465; clear HO471; clear BK474; clear HK; clear HB; clear HI0; have BK465 := n0_; have HO471 := n1_; have BK474 := n2_; have HO483 := n3_; have HK := n4_; have HB := n5_; have HI0 := n6_; clear n0_ n1_ n2_ n3_ n4_ n5_ n6_; (try clear hb); (try clear hb2); (try clear hk); (try clear hi); (try clear ho0); have hnb16 := NB474_465.out; have hnc16 := NB465_474.out; have hnb17 := NB474_0.out; have hnc17 := NB0_474.out; obtain ⟨hcz18_0, hcz18_1, hcz18_2, hcz18_3⟩ := blk_cells4 BK474.out; obtain ⟨hfz18_0, hfz18_1, hfz18_2, hfz18_3⟩ := blk_frozens4 BK474.out; obtain ⟨Ao19, co19, eo19⟩ := Kd.R_slice HO483.out; subst eo19))
   go_meet
   case rel => exact ⟨_, (t484), (t485), (t478), (t479), (b480), (t481), (.slice Ao19 t481.length co19), H', ⟨by first | omega | exact Nat.le_refl _⟩, ⟨by exact Kd.rup (Kd.R_mono (Kd.R_far (p := ⟨gb474, 3, none⟩) (Kd.R_far (p := ⟨gb474, 2, none⟩) (Kd.R_far (p := ⟨gb474, 1, none⟩) (Kd.R_far (p := ⟨gb474, 0, none⟩) (Kd.R_types HO483.out BK474.out (by decide)) (fun _ hk => hk.2) (.int .i64 t478)) (fun _ hk => hk.2) (.int .i64 t479)) (fun _ hk => hk.2) (.float .f64 b480)) (fun _ hk => hk.2) (.slice Ao19 t481.length co19)) (fun _ hk => trivial))⟩, ⟨bput BK465.out⟩, ⟨bput BK474.out⟩, ⟨by repeat (first | (with_reducible first | exact HI0.out | apply IsS83.alloc | apply IsS83.drewN | apply IsS83.drew | apply IsS83.set_1 | apply IsS83.set_2 | refine IsS83.far ?_ NB0_465.out _ | refine IsS83.far ?_ NB0_474.out _) | exact HI0.out)⟩, ⟨by repeat (first | (with_reducible first | exact HK.out | apply KeepBut.set_ | apply keep_drewN | apply keep_drew | apply keep_alloc | refine keep_far ?_ GW465.out _ | refine keep_far ?_ GW474.out _) | exact HK.out)⟩, ⟨by repeat (first | (with_reducible first | exact HB.out | apply h1 | apply h2 | apply h3 | refine h4 ?_ (IsS83.ge HI0.out) | refine h4 ?_ GE465.out | refine h4 ?_ GE474.out) | exact HB.out)⟩, LTb480⟩
  ·replace c13 := Bool.eq_false_iff.mpr c13
   subst c13
   rw [if_neg (show ¬ (false = true) by decide)] at H
   (try dsimp only at H)
   have H' := Aside0.mk H
   clear H
   go_wp2
   go_meet
   case rel => exact ⟨_, (t476), (t477), (t466), (t467), (b468), (t469), (.slice Ao11 t469.length co11), H', ⟨by first | omega | exact Nat.le_refl _⟩, ⟨by exact Kd.rup HO471.out⟩, ⟨by exact bup BK465.out⟩, ⟨by exact bup BK474.out⟩, ⟨by repeat (first | (with_reducible first | exact HI0.out | apply IsS83.alloc | apply IsS83.drewN | apply IsS83.drew | apply IsS83.set_1 | apply IsS83.set_2 | refine IsS83.far ?_ NB0_465.out _ | refine IsS83.far ?_ NB0_474.out _) | exact HI0.out)⟩, ⟨by repeat (first | (with_reducible first | exact HK.out | apply KeepBut.set_ | apply keep_drewN | apply keep_drew | apply keep_alloc | refine keep_far ?_ GW465.out _ | refine keep_far ?_ GW474.out _) | exact HK.out)⟩, ⟨by repeat (first | (with_reducible first | exact HB.out | apply h1 | apply h2 | apply h3 | refine h4 ?_ (IsS83.ge HI0.out) | refine h4 ?_ GE465.out | refine h4 ?_ GE474.out) | exact HB.out)⟩, LTb468⟩
 case rest =>
  clear HC4
  try clear c1
  try clear p2
  try clear c5
  try clear c6
  try clear c8
  try clear c9
  try clear c13
  try clear c16
  try clear c17
  try clear hcz10_0
  try clear hcz10_1
  try clear hcz10_2
  try clear hcz10_3
  try clear hcz18_0
  try clear hcz18_1
  try clear hcz18_2
  try clear hcz18_3
  try clear hfz10_0
  try clear hfz10_1
  try clear hfz10_2
  try clear hfz10_3
  try clear hfz18_0
  try clear hfz18_1
  try clear hfz18_2
  try clear hfz18_3
  obtain ⟨kq, x1001_3, x1002_3, x475000_3, x475001_3, b475002_3, x475003_3, u475003, HA, HJ3, HO_475003, BK465, BK474, HI0, HK, HB, LTb475002_3⟩ := hcut
  cases kq with
  | zero => exact absurd HA.out (by simp [spec_l3any.j0])
  | succ kj3 =>
   have H := HA.out
   clear HA
   simp only [spec_l3any.j0] at H
   replace H := Option.bind_eq_some_iff.mp H
   obtain ⟨⟨t486, t487, t488⟩, A200, H⟩ := H
   (try dsimp only at H)
   have A20 := Aside0.mk A200
   clear A200
   by_cases c21 : t486 = 0
   ·rw [if_pos c21] at H
    have c21b0 : (t486 == 0) = true := beq_iff_eq.mpr c21
    have c21b1 : (t486 != 0) = false := bne_eq_false_iff_eq.mpr c21
    clear c21
    replace H := Option.bind_eq_some_iff.mp H
    obtain ⟨⟨t489, t490, t491⟩, A220, H⟩ := H
    (try dsimp only at H)
    have A22 := Aside0.mk A220
    clear A220
    simp only [Option.some.injEq, Prod.mk.injEq] at H
    obtain ⟨rfl, rfl, rfl, rfl, rfl, rfl⟩ := H
    go_wp2_with (first | ((with_reducible refine gate_callee (f := 59) rfl ?_); refine goesL_ (some 12) rfl rfl Try.func59 (by kernel_rfl) rfl #[.pointer (some ⟨g, 0, none⟩), .int .i64 14] rfl (by (try simp only [List.map_toArray, List.map_cons, List.map_nil]); first | done | rfl) ?_; (with_reducible refine (spec_l1Below.calls g s0_0 x1001_3 x1002_3 14 t486 t487 t488 w0 _ ?side1 ?side2 A20.out).mono ?_); (case side1 => repeat (first | (with_reducible first | exact HI0.out | apply IsS83.alloc | apply IsS83.drewN | apply IsS83.drew | apply IsS83.set_1 | apply IsS83.set_2 | refine IsS83.far ?_ NB0_465.out _ | refine IsS83.far ?_ NB0_474.out _) | exact HI0.out)); (case side2 => repeat (first | (with_reducible first | exact HB.out | apply h1 | apply h2 | apply h3 | refine h4 ?_ (IsS83.ge HI0.out) | refine h4 ?_ GE465.out | refine h4 ?_ GE474.out) | exact HB.out)); rintro e w23 ⟨rfl, hi, hb, hk⟩; refine ⟨_, rfl, ?_⟩; have n0_ := Aside0.mk (Kd.R_mono (Kd.R_keep (IsS83.apart (show IsS83 w0 _ g s0_0 x1001_3 x1002_3 from by repeat (first | (with_reducible first | exact HI0.out | apply IsS83.alloc | apply IsS83.drewN | apply IsS83.drew | apply IsS83.set_1 | apply IsS83.set_2 | refine IsS83.far ?_ NB0_465.out _ | refine IsS83.far ?_ NB0_474.out _) | exact HI0.out)) (Kd.rup HO_475003.out) (by decide)) hk (fun _ h => h.2)) (fun _ h => h.1)); have n1_ := Aside0.mk (KeepBut.blk hk (g' := gb465) (o := .cells #[.int .i64 0, .int .i64 0, .float .f64 0, .slice none 0 0] 25 (0, 0)) (bup BK465.out) NB465_0.out (by simp)); have n2_ := Aside0.mk (KeepBut.blk hk (g' := gb474) (o := .cells #[.int .i64 x475000_3, .int .i64 x475001_3, .float .f64 b475002_3, u475003] 25 (0, 0)) (bup BK474.out) NB474_0.out (by simp)); have n3_ := Aside0.mk (KeepBut.trans (by repeat (first | (with_reducible first | exact HK.out | apply KeepBut.set_ | apply keep_drewN | apply keep_drew | apply keep_alloc | refine keep_far ?_ GW465.out _ | refine keep_far ?_ GW474.out _) | exact HK.out)) hk (.inl rfl)); have n4_ := Aside0.mk (hb); have n5_ := Aside0.mk (hi); clear HO_475003; clear BK465; clear BK474; clear HK; clear HB; clear HI0; have HO_475003 := n0_; have BK465 := n1_; have BK474 := n2_; have HK := n3_; have HB := n4_; have HI0 := n5_; clear n0_ n1_ n2_ n3_ n4_ n5_; (try clear hb); (try clear hb2); (try clear hk); (try clear hi)) | ((with_reducible refine gate_callee (f := 59) rfl ?_); refine goesL_ (some 16) rfl rfl Try.func59 (by kernel_rfl) rfl #[.pointer (some ⟨g, 0, none⟩), .int .i64 7] rfl (by (try simp only [List.map_toArray, List.map_cons, List.map_nil]); first | done | rfl) ?_; (with_reducible refine (spec_l1Below.calls g s0_0 t487 t488 7 t489 t490 t491 w0 _ ?side1 ?side2 A22.out).mono ?_); (case side1 => repeat (first | (with_reducible first | exact HI0.out | apply IsS83.alloc | apply IsS83.drewN | apply IsS83.drew | apply IsS83.set_1 | apply IsS83.set_2 | refine IsS83.far ?_ NB0_465.out _ | refine IsS83.far ?_ NB0_474.out _) | exact HI0.out)); (case side2 => repeat (first | (with_reducible first | exact HB.out | apply h1 | apply h2 | apply h3 | refine h4 ?_ (IsS83.ge HI0.out) | refine h4 ?_ GE465.out | refine h4 ?_ GE474.out) | exact HB.out)); rintro e w24 ⟨rfl, hi, hb, hk⟩; refine ⟨_, rfl, ?_⟩; have n0_ := Aside0.mk (Kd.R_mono (Kd.R_keep (IsS83.apart (show IsS83 w0 _ g s0_0 t487 t488 from by repeat (first | (with_reducible first | exact HI0.out | apply IsS83.alloc | apply IsS83.drewN | apply IsS83.drew | apply IsS83.set_1 | apply IsS83.set_2 | refine IsS83.far ?_ NB0_465.out _ | refine IsS83.far ?_ NB0_474.out _) | exact HI0.out)) (Kd.rup HO_475003.out) (by decide)) hk (fun _ h => h.2)) (fun _ h => h.1)); have n1_ := Aside0.mk (KeepBut.blk hk (g' := gb465) (o := .cells #[.int .i64 0, .int .i64 0, .float .f64 0, .slice none 0 0] 25 (0, 0)) (bup BK465.out) NB465_0.out (by simp)); have n2_ := Aside0.mk (KeepBut.blk hk (g' := gb474) (o := .cells #[.int .i64 x475000_3, .int .i64 x475001_3, .float .f64 b475002_3, u475003] 25 (0, 0)) (bup BK474.out) NB474_0.out (by simp)); have n3_ := Aside0.mk (KeepBut.trans (by repeat (first | (with_reducible first | exact HK.out | apply KeepBut.set_ | apply keep_drewN | apply keep_drew | apply keep_alloc | refine keep_far ?_ GW465.out _ | refine keep_far ?_ GW474.out _) | exact HK.out)) hk (.inl rfl)); have n4_ := Aside0.mk (hb); have n5_ := Aside0.mk (hi); clear HO_475003; clear BK465; clear BK474; clear HK; clear HB; clear HI0; have HO_475003 := n0_; have BK465 := n1_; have BK474 := n2_; have HK := n3_; have HB := n4_; have HI0 := n5_; clear n0_ n1_ n2_ n3_ n4_ n5_; (try clear hb); (try clear hb2); (try clear hk); (try clear hi); have hnb25 := NB474_465.out; have hnc25 := NB465_474.out; have hnb26 := NB474_0.out; have hnc26 := NB0_474.out; obtain ⟨hcz27_0, hcz27_1, hcz27_2, hcz27_3⟩ := blk_cells4 BK474.out; obtain ⟨hfz27_0, hfz27_1, hfz27_2, hfz27_3⟩ := blk_frozens4 BK474.out; have hnb28 := NB465_0.out; have hnc28 := NB0_465.out; obtain ⟨hcz29_0, hcz29_1, hcz29_2, hcz29_3⟩ := blk_cells4 BK465.out; obtain ⟨hfz29_0, hfz29_1, hfz29_2, hfz29_3⟩ := blk_frozens4 BK465.out; obtain ⟨Ao30, co30, eo30⟩ := Kd.R_slice HO_475003.out; subst eo30))
    refine bodyPost_ret (results_cell_row rfl _ _ gb465 25 #[.int .i64 (wrap64 (t489 - 1)), .int .i64 x475001_3, .float .f64 b475002_3, .slice Ao30 x475003_3.length co30] (0, 0) _ rfl (bput BK465.out) Try.underlying25 rfl (by kernel_rfl)) rfl ?_
    exact ⟨_, _, by first | rfl | (simp [errW_none, errW_some] <;> rfl) | (simp [*, errW_none, errW_some] <;> rfl), by exact Kd.rup (Kd.R_mono (Kd.R_far (p := ⟨gb465, 3, none⟩) (Kd.R_far (p := ⟨gb465, 2, none⟩) (Kd.R_far (p := ⟨gb465, 1, none⟩) (Kd.R_far (p := ⟨gb465, 0, none⟩) (Kd.R_far (p := ⟨gb474, 0, none⟩) (Kd.R_types (Kd.R_types HO_475003.out BK474.out (by decide)) BK465.out (by decide)) (fun _ hk => hk.1.2) (.int .i64 (wrap64 (t489 - 1)))) (fun _ hk => hk.2) (.int .i64 (wrap64 (t489 - 1)))) (fun _ hk => hk.2) (.int .i64 x475001_3)) (fun _ hk => hk.2) (.float .f64 b475002_3)) (fun _ hk => hk.2) (.slice Ao30 x475003_3.length co30)) (fun _ hk => trivial)), by repeat (first | (with_reducible first | exact HI0.out | apply IsS83.alloc | apply IsS83.drewN | apply IsS83.drew | apply IsS83.set_1 | apply IsS83.set_2 | refine IsS83.far ?_ NB0_465.out _ | refine IsS83.far ?_ NB0_474.out _) | exact HI0.out), by repeat (first | (with_reducible first | exact HB.out | apply h1 | apply h2 | apply h3 | refine h4 ?_ (IsS83.ge HI0.out) | refine h4 ?_ GE465.out | refine h4 ?_ GE474.out) | exact HB.out), by repeat (first | (with_reducible first | exact HK.out | apply KeepBut.set_ | apply keep_drewN | apply keep_drew | apply keep_alloc | refine keep_far ?_ GW465.out _ | refine keep_far ?_ GW474.out _) | exact HK.out), (by first | exact ⟨⟨rfl, LTb468.out⟩⟩ | exact ⟨⟨rfl, LTb475002_3.out⟩⟩ | exact ⟨⟨by first | rfl | decide, by decide⟩⟩ | exact ⟨⟨rfl, fquo_lt (by assumption)⟩⟩)⟩
   ·rw [if_neg c21] at H
    have c21b0 : (t486 == 0) = false := beq_eq_false_iff_ne.mpr c21
    have c21b1 : (t486 != 0) = true := bne_iff_ne.mpr c21
    by_cases c31 : t486 = 1
    ·rw [if_pos c31] at H
     have c31b0 : (t486 == 1) = true := beq_iff_eq.mpr c31
     have c31b1 : (t486 != 1) = false := bne_eq_false_iff_eq.mpr c31
     clear c31
     simp only [Option.some.injEq, Prod.mk.injEq] at H
     obtain ⟨rfl, rfl, rfl, rfl, rfl, rfl⟩ := H
     go_wp2_with (first | ((with_reducible refine gate_callee (f := 59) rfl ?_); refine goesL_ (some 12) rfl rfl Try.func59 (by kernel_rfl) rfl #[.pointer (some ⟨g, 0, none⟩), .int .i64 14] rfl (by (try simp only [List.map_toArray, List.map_cons, List.map_nil]); first | done | rfl) ?_; (with_reducible refine (spec_l1Below.calls g s0_0 x1001_3 x1002_3 14 t486 t487 t488 w0 _ ?side1 ?side2 A20.out).mono ?_); (case side1 => repeat (first | (with_reducible first | exact HI0.out | apply IsS83.alloc | apply IsS83.drewN | apply IsS83.drew | apply IsS83.set_1 | apply IsS83.set_2 | refine IsS83.far ?_ NB0_465.out _ | refine IsS83.far ?_ NB0_474.out _) | exact HI0.out)); (case side2 => repeat (first | (with_reducible first | exact HB.out | apply h1 | apply h2 | apply h3 | refine h4 ?_ (IsS83.ge HI0.out) | refine h4 ?_ GE465.out | refine h4 ?_ GE474.out) | exact HB.out)); rintro e w32 ⟨rfl, hi, hb, hk⟩; refine ⟨_, rfl, ?_⟩; have n0_ := Aside0.mk (Kd.R_mono (Kd.R_keep (IsS83.apart (show IsS83 w0 _ g s0_0 x1001_3 x1002_3 from by repeat (first | (with_reducible first | exact HI0.out | apply IsS83.alloc | apply IsS83.drewN | apply IsS83.drew | apply IsS83.set_1 | apply IsS83.set_2 | refine IsS83.far ?_ NB0_465.out _ | refine IsS83.far ?_ NB0_474.out _) | exact HI0.out)) (Kd.rup HO_475003.out) (by decide)) hk (fun _ h => h.2)) (fun _ h => h.1)); have n1_ := Aside0.mk (KeepBut.blk hk (g' := gb465) (o := .cells #[.int .i64 0, .int .i64 0, .float .f64 0, .slice none 0 0] 25 (0, 0)) (bup BK465.out) NB465_0.out (by simp)); have n2_ := Aside0.mk (KeepBut.blk hk (g' := gb474) (o := .cells #[.int .i64 x475000_3, .int .i64 x475001_3, .float .f64 b475002_3, u475003] 25 (0, 0)) (bup BK474.out) NB474_0.out (by simp)); have n3_ := Aside0.mk (KeepBut.trans (by repeat (first | (with_reducible first | exact HK.out | apply KeepBut.set_ | apply keep_drewN | apply keep_drew | apply keep_alloc | refine keep_far ?_ GW465.out _ | refine keep_far ?_ GW474.out _) | exact HK.out)) hk (.inl rfl)); have n4_ := Aside0.mk (hb); have n5_ := Aside0.mk (hi); clear HO_475003; clear BK465; clear BK474; clear HK; clear HB; clear HI0; have HO_475003 := n0_; have BK465 := n1_; have BK474 := n2_; have HK := n3_; have HB := n4_; have HI0 := n5_; clear n0_ n1_ n2_ n3_ n4_ n5_; (try clear hb); (try clear hb2); (try clear hk); (try clear hi); have hnb33 := NB474_465.out; have hnc33 := NB465_474.out; have hnb34 := NB474_0.out; have hnc34 := NB0_474.out; obtain ⟨hcz35_0, hcz35_1, hcz35_2, hcz35_3⟩ := blk_cells4 BK474.out; obtain ⟨hfz35_0, hfz35_1, hfz35_2, hfz35_3⟩ := blk_frozens4 BK474.out; have hnb36 := NB465_0.out; have hnc36 := NB0_465.out; obtain ⟨hcz37_0, hcz37_1, hcz37_2, hcz37_3⟩ := blk_cells4 BK465.out; obtain ⟨hfz37_0, hfz37_1, hfz37_2, hfz37_3⟩ := blk_frozens4 BK465.out; obtain ⟨Ao38, co38, eo38⟩ := Kd.R_slice HO_475003.out; subst eo38))
     refine bodyPost_ret (results_cell_row rfl _ _ gb465 25 #[.int .i64 x475000_3, .int .i64 (wrap64 (x475001_3 + 1)), .float .f64 b475002_3, .slice Ao38 x475003_3.length co38] (0, 0) _ rfl (bput BK465.out) Try.underlying25 rfl (by kernel_rfl)) rfl ?_
     exact ⟨_, _, by first | rfl | (simp [errW_none, errW_some] <;> rfl) | (simp [*, errW_none, errW_some] <;> rfl), by exact Kd.rup (Kd.R_mono (Kd.R_far (p := ⟨gb465, 3, none⟩) (Kd.R_far (p := ⟨gb465, 2, none⟩) (Kd.R_far (p := ⟨gb465, 1, none⟩) (Kd.R_far (p := ⟨gb465, 0, none⟩) (Kd.R_far (p := ⟨gb474, 1, none⟩) (Kd.R_types (Kd.R_types HO_475003.out BK474.out (by decide)) BK465.out (by decide)) (fun _ hk => hk.1.2) (.int .i64 (wrap64 (x475001_3 + 1)))) (fun _ hk => hk.2) (.int .i64 x475000_3)) (fun _ hk => hk.2) (.int .i64 (wrap64 (x475001_3 + 1)))) (fun _ hk => hk.2) (.float .f64 b475002_3)) (fun _ hk => hk.2) (.slice Ao38 x475003_3.length co38)) (fun _ hk => trivial)), by repeat (first | (with_reducible first | exact HI0.out | apply IsS83.alloc | apply IsS83.drewN | apply IsS83.drew | apply IsS83.set_1 | apply IsS83.set_2 | refine IsS83.far ?_ NB0_465.out _ | refine IsS83.far ?_ NB0_474.out _) | exact HI0.out), by repeat (first | (with_reducible first | exact HB.out | apply h1 | apply h2 | apply h3 | refine h4 ?_ (IsS83.ge HI0.out) | refine h4 ?_ GE465.out | refine h4 ?_ GE474.out) | exact HB.out), by repeat (first | (with_reducible first | exact HK.out | apply KeepBut.set_ | apply keep_drewN | apply keep_drew | apply keep_alloc | refine keep_far ?_ GW465.out _ | refine keep_far ?_ GW474.out _) | exact HK.out), (by first | exact ⟨⟨rfl, LTb468.out⟩⟩ | exact ⟨⟨rfl, LTb475002_3.out⟩⟩ | exact ⟨⟨by first | rfl | decide, by decide⟩⟩ | exact ⟨⟨rfl, fquo_lt (by assumption)⟩⟩)⟩
    ·rw [if_neg c31] at H
     have c31b0 : (t486 == 1) = false := beq_eq_false_iff_ne.mpr c31
     have c31b1 : (t486 != 1) = true := bne_iff_ne.mpr c31
     by_cases c39 : t486 = 2
     ·rw [if_pos c39] at H
      have c39b0 : (t486 == 2) = true := beq_iff_eq.mpr c39
      have c39b1 : (t486 != 2) = false := bne_eq_false_iff_eq.mpr c39
      clear c39
      replace H := Option.bind_eq_some_iff.mp H
      obtain ⟨⟨t492, t493, t494⟩, A400, H⟩ := H
      (try dsimp only at H)
      have A40 := Aside0.mk A400
      clear A400
      simp only [Option.some.injEq, Prod.mk.injEq] at H
      obtain ⟨rfl, rfl, rfl, rfl, rfl, rfl⟩ := H
      go_wp2_with (first | ((with_reducible refine gate_callee (f := 59) rfl ?_); refine goesL_ (some 12) rfl rfl Try.func59 (by kernel_rfl) rfl #[.pointer (some ⟨g, 0, none⟩), .int .i64 14] rfl (by (try simp only [List.map_toArray, List.map_cons, List.map_nil]); first | done | rfl) ?_; (with_reducible refine (spec_l1Below.calls g s0_0 x1001_3 x1002_3 14 t486 t487 t488 w0 _ ?side1 ?side2 A20.out).mono ?_); (case side1 => repeat (first | (with_reducible first | exact HI0.out | apply IsS83.alloc | apply IsS83.drewN | apply IsS83.drew | apply IsS83.set_1 | apply IsS83.set_2 | refine IsS83.far ?_ NB0_465.out _ | refine IsS83.far ?_ NB0_474.out _) | exact HI0.out)); (case side2 => repeat (first | (with_reducible first | exact HB.out | apply h1 | apply h2 | apply h3 | refine h4 ?_ (IsS83.ge HI0.out) | refine h4 ?_ GE465.out | refine h4 ?_ GE474.out) | exact HB.out)); rintro e w41 ⟨rfl, hi, hb, hk⟩; refine ⟨_, rfl, ?_⟩; have n0_ := Aside0.mk (Kd.R_mono (Kd.R_keep (IsS83.apart (show IsS83 w0 _ g s0_0 x1001_3 x1002_3 from by repeat (first | (with_reducible first | exact HI0.out | apply IsS83.alloc | apply IsS83.drewN | apply IsS83.drew | apply IsS83.set_1 | apply IsS83.set_2 | refine IsS83.far ?_ NB0_465.out _ | refine IsS83.far ?_ NB0_474.out _) | exact HI0.out)) (Kd.rup HO_475003.out) (by decide)) hk (fun _ h => h.2)) (fun _ h => h.1)); have n1_ := Aside0.mk (KeepBut.blk hk (g' := gb465) (o := .cells #[.int .i64 0, .int .i64 0, .float .f64 0, .slice none 0 0] 25 (0, 0)) (bup BK465.out) NB465_0.out (by simp)); have n2_ := Aside0.mk (KeepBut.blk hk (g' := gb474) (o := .cells #[.int .i64 x475000_3, .int .i64 x475001_3, .float .f64 b475002_3, u475003] 25 (0, 0)) (bup BK474.out) NB474_0.out (by simp)); have n3_ := Aside0.mk (KeepBut.trans (by repeat (first | (with_reducible first | exact HK.out | apply KeepBut.set_ | apply keep_drewN | apply keep_drew | apply keep_alloc | refine keep_far ?_ GW465.out _ | refine keep_far ?_ GW474.out _) | exact HK.out)) hk (.inl rfl)); have n4_ := Aside0.mk (hb); have n5_ := Aside0.mk (hi); clear HO_475003; clear BK465; clear BK474; clear HK; clear HB; clear HI0; have HO_475003 := n0_; have BK465 := n1_; have BK474 := n2_; have HK := n3_; have HB := n4_; have HI0 := n5_; clear n0_ n1_ n2_ n3_ n4_ n5_; (try clear hb); (try clear hb2); (try clear hk); (try clear hi)) | ((with_reducible refine gate_callee (f := 87) rfl ?_); refine goesL_ (some 28) rfl rfl Try.func87 (by kernel_rfl) rfl #[.pointer (some ⟨g, 0, none⟩)] rfl (by (try simp only [List.map_toArray, List.map_cons, List.map_nil]); first | done | rfl) ?_; (with_reducible refine (spec_l2float.callsC kj3 g s0_0 t487 t488 t492 t493 t494 w0 _ ?side1 ?side2 A40.out).mono ?_); (case side1 => repeat (first | (with_reducible first | exact HI0.out | apply IsS83.alloc | apply IsS83.drewN | apply IsS83.drew | apply IsS83.set_1 | apply IsS83.set_2 | refine IsS83.far ?_ NB0_465.out _ | refine IsS83.far ?_ NB0_474.out _) | exact HI0.out)); (case side2 => repeat (first | (with_reducible first | exact HB.out | apply h1 | apply h2 | apply h3 | refine h4 ?_ (IsS83.ge HI0.out) | refine h4 ?_ GE465.out | refine h4 ?_ GE474.out) | exact HB.out)); rintro e w42 ⟨b492, rfl, hi, hb, hk, ⟨⟨hcnb492, hltb492⟩⟩⟩; refine ⟨_, rfl, ?_⟩; have LTb492 := Aside0.mk hltb492; clear hltb492; subst hcnb492; have n0_ := Aside0.mk (Kd.R_mono (Kd.R_keep (IsS83.apart (show IsS83 w0 _ g s0_0 t487 t488 from by repeat (first | (with_reducible first | exact HI0.out | apply IsS83.alloc | apply IsS83.drewN | apply IsS83.drew | apply IsS83.set_1 | apply IsS83.set_2 | refine IsS83.far ?_ NB0_465.out _ | refine IsS83.far ?_ NB0_474.out _) | exact HI0.out)) (Kd.rup HO_475003.out) (by decide)) hk (fun _ h => h.2)) (fun _ h => h.1)); have n1_ := Aside0.mk (KeepBut.blk hk (g' := gb465) (o := .cells #[.int .i64 0, .int .i64 0, .float .f64 0, .slice none 0 0] 25 (0, 0)) (bup BK465.out) NB465_0.out (by simp)); have n2_ := Aside0.mk (KeepBut.blk hk (g' := gb474) (o := .cells #[.int .i64 x475000_3, .int .i64 x475001_3, .float .f64 b475002_3, u475003] 25 (0, 0)) (bup BK474.out) NB474_0.out (by simp)); have n3_ := Aside0.mk (KeepBut.trans (by repeat (first | (with_reducible first | exact HK.out | apply KeepBut.set_ | apply keep_drewN | apply keep_drew | apply keep_alloc | refine keep_far ?_ GW465.out _ | refine keep_far ?_ GW474.out _) | exact HK.out)) hk (.inl rfl)); have n4_ := Aside0.mk (hb); have n5_ := Aside0.mk (hi); clear HO_475003; clear BK465; clear BK474; clear HK; clear HB; clear HI0; have HO_475003 := n0_; have BK465 := n1_; have BK474 := n2_; have HK := n3_; have HB := n4_; have HI0 := n5_; clear n0_ n1_ n2_ n3_ n4_ n5_; (try clear hb); (try clear hb2); (try clear hk); (try clear hi); have hnb43 := NB474_465.out; have hnc43 := NB465_474.out; have hnb44 := NB474_0.out; have hnc44 := NB0_474.out; obtain ⟨hcz45_0, hcz45_1, hcz45_2, hcz45_3⟩ := blk_cells4 BK474.out; obtain ⟨hfz45_0, hfz45_1, hfz45_2, hfz45_3⟩ := blk_frozens4 BK474.out; have hnb46 := NB465_0.out; have hnc46 := NB0_465.out; obtain ⟨hcz47_0, hcz47_1, hcz47_2, hcz47_3⟩ := blk_cells4 BK465.out; obtain ⟨hfz47_0, hfz47_1, hfz47_2, hfz47_3⟩ := blk_frozens4 BK465.out; obtain ⟨Ao48, co48, eo48⟩ := Kd.R_slice HO_475003.out; subst eo48))
      refine bodyPost_ret (results_cell_row rfl _ _ gb465 25 #[.int .i64 x475000_3, .int .i64 x475001_3, .float .f64 b492, .slice Ao48 x475003_3.length co48] (0, 0) _ rfl (bput BK465.out) Try.underlying25 rfl (by kernel_rfl)) rfl ?_
      exact ⟨_, _, by first | rfl | (simp [errW_none, errW_some] <;> rfl) | (simp [*, errW_none, errW_some] <;> rfl), by exact Kd.rup (Kd.R_mono (Kd.R_far (p := ⟨gb465, 3, none⟩) (Kd.R_far (p := ⟨gb465, 2, none⟩) (Kd.R_far (p := ⟨gb465, 1, none⟩) (Kd.R_far (p := ⟨gb465, 0, none⟩) (Kd.R_far (p := ⟨gb474, 2, none⟩) (Kd.R_types (Kd.R_types HO_475003.out BK474.out (by decide)) BK465.out (by decide)) (fun _ hk => hk.1.2) (.float .f64 b492)) (fun _ hk => hk.2) (.int .i64 x475000_3)) (fun _ hk => hk.2) (.int .i64 x475001_3)) (fun _ hk => hk.2) (.float .f64 b492)) (fun _ hk => hk.2) (.slice Ao48 x475003_3.length co48)) (fun _ hk => trivial)), by repeat (first | (with_reducible first | exact HI0.out | apply IsS83.alloc | apply IsS83.drewN | apply IsS83.drew | apply IsS83.set_1 | apply IsS83.set_2 | refine IsS83.far ?_ NB0_465.out _ | refine IsS83.far ?_ NB0_474.out _) | exact HI0.out), by repeat (first | (with_reducible first | exact HB.out | apply h1 | apply h2 | apply h3 | refine h4 ?_ (IsS83.ge HI0.out) | refine h4 ?_ GE465.out | refine h4 ?_ GE474.out) | exact HB.out), by repeat (first | (with_reducible first | exact HK.out | apply KeepBut.set_ | apply keep_drewN | apply keep_drew | apply keep_alloc | refine keep_far ?_ GW465.out _ | refine keep_far ?_ GW474.out _) | exact HK.out), (by first | exact ⟨⟨rfl, LTb468.out⟩⟩ | exact ⟨⟨rfl, LTb475002_3.out⟩⟩ | exact ⟨⟨rfl, LTb492.out⟩⟩ | exact ⟨⟨by first | rfl | decide, by decide⟩⟩ | exact ⟨⟨rfl, fquo_lt (by assumption)⟩⟩)⟩
     ·rw [if_neg c39] at H
      have c39b0 : (t486 == 2) = false := beq_eq_false_iff_ne.mpr c39
      have c39b1 : (t486 != 2) = true := bne_iff_ne.mpr c39
      by_cases c49 : t486 = 3
      ·rw [if_pos c49] at H
       have c49b0 : (t486 == 3) = true := beq_iff_eq.mpr c49
       have c49b1 : (t486 != 3) = false := bne_eq_false_iff_eq.mpr c49
       clear c49
       replace H := Option.bind_eq_some_iff.mp H
       obtain ⟨⟨t495, t498, t499⟩, A500, H⟩ := H
       (try dsimp only at H)
       have A50 := Aside0.mk A500
       clear A500
       by_cases c51 : x475003_3.length + t495.length < 140737488355328
       ·rw [if_pos c51] at H
        have LMc51 := Aside0.mk c51
        clear c51
        obtain ⟨y500, hy500⟩ : ∃ y_ : List Int, y_ = (x475003_3 ++ t495) := ⟨_, rfl⟩
        replace H : (some (x475000_3, x475001_3, (cn b475002_3), y500, t498, t499)) = some (r1, r2, r3, r4, r5, r6) := by first | (rw [hy500]; with_reducible exact H) | (have H2_ := (Option.bind_some _ _).symm.trans H; rw [hy500]; with_reducible exact H2_) | (have H2_ := (Option.bind_some _ _).symm.trans H; with_reducible exact H2_) | with_reducible exact H | (rw [hy500]; exact H) | exact H
        have Ny500 := Aside0.mk hy500
        clear hy500
        simp only [Option.some.injEq, Prod.mk.injEq] at H
        obtain ⟨rfl, rfl, rfl, rfl, rfl, rfl⟩ := H
        try go_wp2_with (first | ((with_reducible refine gate_callee (f := 59) rfl ?_); refine goesL_ (some 12) rfl rfl Try.func59 (by kernel_rfl) rfl #[.pointer (some ⟨g, 0, none⟩), .int .i64 14] rfl (by (try simp only [List.map_toArray, List.map_cons, List.map_nil]); first | done | rfl) ?_; (with_reducible refine (spec_l1Below.calls g s0_0 x1001_3 x1002_3 14 t486 t487 t488 w0 _ ?side1 ?side2 A20.out).mono ?_); (case side1 => repeat (first | (with_reducible first | exact HI0.out | apply IsS83.alloc | apply IsS83.drewN | apply IsS83.drew | apply IsS83.set_1 | apply IsS83.set_2 | refine IsS83.far ?_ NB0_465.out _ | refine IsS83.far ?_ NB0_474.out _) | exact HI0.out)); (case side2 => repeat (first | (with_reducible first | exact HB.out | apply h1 | apply h2 | apply h3 | refine h4 ?_ (IsS83.ge HI0.out) | refine h4 ?_ GE465.out | refine h4 ?_ GE474.out) | exact HB.out)); rintro e w52 ⟨rfl, hi, hb, hk⟩; refine ⟨_, rfl, ?_⟩; have n0_ := Aside0.mk (Kd.R_mono (Kd.R_keep (IsS83.apart (show IsS83 w0 _ g s0_0 x1001_3 x1002_3 from by repeat (first | (with_reducible first | exact HI0.out | apply IsS83.alloc | apply IsS83.drewN | apply IsS83.drew | apply IsS83.set_1 | apply IsS83.set_2 | refine IsS83.far ?_ NB0_465.out _ | refine IsS83.far ?_ NB0_474.out _) | exact HI0.out)) (Kd.rup HO_475003.out) (by decide)) hk (fun _ h => h.2)) (fun _ h => h.1)); have n1_ := Aside0.mk (KeepBut.blk hk (g' := gb465) (o := .cells #[.int .i64 0, .int .i64 0, .float .f64 0, .slice none 0 0] 25 (0, 0)) (bup BK465.out) NB465_0.out (by simp)); have n2_ := Aside0.mk (KeepBut.blk hk (g' := gb474) (o := .cells #[.int .i64 x475000_3, .int .i64 x475001_3, .float .f64 b475002_3, u475003] 25 (0, 0)) (bup BK474.out) NB474_0.out (by simp)); have n3_ := Aside0.mk (KeepBut.trans (by repeat (first | (with_reducible first | exact HK.out | apply KeepBut.set_ | apply keep_drewN | apply keep_drew | apply keep_alloc | refine keep_far ?_ GW465.out _ | refine keep_far ?_ GW474.out _) | exact HK.out)) hk (.inl rfl)); have n4_ := Aside0.mk (hb); have n5_ := Aside0.mk (hi); clear HO_475003; clear BK465; clear BK474; clear HK; clear HB; clear HI0; have HO_475003 := n0_; have BK465 := n1_; have BK474 := n2_; have HK := n3_; have HB := n4_; have HI0 := n5_; clear n0_ n1_ n2_ n3_ n4_ n5_; (try clear hb); (try clear hb2); (try clear hk); (try clear hi)))
        have n0_ := Aside0.mk (Kd.R_drew HO_475003.out)
        have n1_ := Aside0.mk (blk_drew BK465.out)
        have n2_ := Aside0.mk (blk_drew BK474.out)
        have n3_ := Aside0.mk (IsS83.drew HI0.out)
        have n4_ := Aside0.mk (keep_drew HK.out)
        have n5_ := Aside0.mk (below_drew1 HB.out)
        clear HO_475003
        clear BK465
        clear BK474
        clear HI0
        clear HK
        clear HB
        have HO_475003 := n0_
        have BK465 := n1_
        have BK474 := n2_
        have HI0 := n3_
        have HK := n4_
        have HB := n5_
        clear n0_ n1_ n2_ n3_ n4_ n5_
        refine start_ (n := 7) (S := fun w' => w'.cell? ⟨gb474, 0, none⟩ = some (.int .i64 x475000_3) ∧ w'.cell? ⟨gb474, 1, none⟩ = some (.int .i64 x475001_3) ∧ w'.cell? ⟨gb474, 2, none⟩ = some (.float .f64 b475002_3) ∧ w'.cell? ⟨gb474, 3, none⟩ = some (u475003)) (ds := [6]) #[false, false, false, false, false, false, false] (by kernel_rfl) rfl rfl (blk_cells4 BK474.out) (fun hHeld => ?_)
        generalize w52.drew = w53 at HO_475003 BK465 BK474 HI0 HK HB hHeld ⊢
        refine pure_ (i := 0) (N := some 32) (v := ?_) (a' := ?_) #[true, false, false, false, false, false, false] rfl rfl (by kernel_rfl) (fun _ _ _ h => h) (Or.inl ⟨by rfl, ?_⟩) ?_ ?_
        rotate_left
        ·intro w'
         go_simp
         with_reducible rfl
        rotate_left
        ·simp only [Act.put, List.setIfInBounds_toArray, List.set_cons_zero, List.set_cons_succ, i64_w, i32_w]
         rfl
        refine pure_ (i := 2) (N := some 34) (v := ?_) (a' := ?_) #[true, false, true, false, false, false, false] rfl rfl (by kernel_rfl) (fun _ _ _ h => h) (Or.inl ⟨by rfl, ?_⟩) ?_ ?_
        rotate_left
        ·intro w'
         go_simp
         with_reducible rfl
        rotate_left
        ·simp only [Act.put, List.setIfInBounds_toArray, List.set_cons_zero, List.set_cons_succ, i64_w, i32_w]
         rfl
        refine take_ (i := 1) (N := some 33) (v := ?_) (a' := ?_) #[true, true, true, false, false, false, false] rfl rfl (by kernel_rfl) (fun _ _ _ h => h) (Or.inl ⟨by rfl, ?_⟩) hHeld ?_ ?_
        rotate_left
        ·rintro w' ⟨s0, s1, s2, s3⟩
         go_simp
         with_reducible rfl
        rotate_left
        ·simp only [Act.put, List.setIfInBounds_toArray, List.set_cons_zero, List.set_cons_succ, i64_w, i32_w]
         rfl
        refine one_ (i := 3) (N := some 35) #[true, true, true, true, false, false, false] rfl rfl (by kernel_rfl) (by decide) (fun K hK => ?_)
        refine goes_ Try.func61 (by kernel_rfl) rfl #[.pointer (some ⟨g, 0, none⟩), .int .i64 3] (by rfl) rfl rfl (by (try simp only [List.map_toArray, List.map_cons, List.map_nil]); first | done | rfl) ?_
        with_reducible refine (spec_l1some.calls kj3 g s0_0 t487 t488 3 t495 t498 t499 w0 _ ?side1 ?side2 A50.out).mono ?_
        (case side1 => repeat (first | (with_reducible first | exact HI0.out | apply IsS83.alloc | apply IsS83.drewN | apply IsS83.drew | apply IsS83.set_1 | apply IsS83.set_2 | refine IsS83.far ?_ NB0_465.out _ | refine IsS83.far ?_ NB0_474.out _) | exact HI0.out))
        (case side2 => repeat (first | (with_reducible first | exact HB.out | apply h1 | apply h2 | apply h3 | refine h4 ?_ (IsS83.ge HI0.out) | refine h4 ?_ GE465.out | refine h4 ?_ GE474.out) | exact HB.out))
        rintro e w54 ⟨v496, rfl, ho0, hi, hb, hk⟩
        refine ⟨_, rfl, ?_⟩
        have n0_ := Aside0.mk (Kd.R_mono (Kd.R_told (Kd.R_oldK (IsS83.apart (show IsS83 w0 _ g s0_0 t487 t488 from by repeat (first | (with_reducible first | exact HI0.out | apply IsS83.alloc | apply IsS83.drewN | apply IsS83.drew | apply IsS83.set_1 | apply IsS83.set_2 | refine IsS83.far ?_ NB0_465.out _ | refine IsS83.far ?_ NB0_474.out _) | exact HI0.out)) (Kd.rup HO_475003.out) (by decide)) hk) (Kd.R_base ho0)) (fun _ h_ => h_.1))
        have n1_ := Aside0.mk (KeepBut.blk hk (g' := gb465) (o := .cells #[.int .i64 0, .int .i64 0, .float .f64 0, .slice none 0 0] 25 (0, 0)) (bup BK465.out) NB465_0.out (by simp))
        have n2_ := Aside0.mk (KeepBut.blk hk (g' := gb474) (o := .cells #[.int .i64 x475000_3, .int .i64 x475001_3, .float .f64 b475002_3, u475003] 25 (0, 0)) (bup BK474.out) NB474_0.out (by simp))
        have n3_ := Aside0.mk (Kd.R_lower (Kd.R_new' ho0 (Kd.R_lt (Kd.rup HO_475003.out))) (keep_size (w := w) (g := g) (row := none) (by repeat (first | (with_reducible first | exact HK.out | apply KeepBut.set_ | apply keep_drewN | apply keep_drew | apply keep_alloc | refine keep_far ?_ GW465.out _ | refine keep_far ?_ GW474.out _) | exact HK.out))))
        have n4_ := Aside0.mk (KeepBut.trans (by repeat (first | (with_reducible first | exact HK.out | apply KeepBut.set_ | apply keep_drewN | apply keep_drew | apply keep_alloc | refine keep_far ?_ GW465.out _ | refine keep_far ?_ GW474.out _) | exact HK.out)) hk (.inl rfl))
        have n5_ := Aside0.mk (hb)
        have n6_ := Aside0.mk (hi)
        clear HO_475003
        clear BK465
        clear BK474
        clear HK
        clear HB
        clear HI0
        have HO_475003 := n0_
        have BK465 := n1_
        have BK474 := n2_
        have HO497 := n3_
        have HK := n4_
        have HB := n5_
        have HI0 := n6_
        clear n0_ n1_ n2_ n3_ n4_ n5_ n6_
        (try clear hb)
        (try clear hb2)
        (try clear hk)
        (try clear hi)
        (try clear ho0)
        obtain ⟨Ao56, co56, eo56⟩ := Kd.R_slice HO497.out
        (first | subst eo56 | (injection eo56 with f1_ f2_ f3_; have f4_ := f1_.symm; have f5_ := f3_.symm; clear f1_ f2_ f3_; subst f4_; subst f5_))
        refine hK.out _ _ (blk_cells4 BK474.out) (fun hHeld => ?_)
        clear hK K
        refine norm_ (a' := ?_) ?_ ?_
        rotate_left
        ·show Act.put _ (some 35) _ = _
         simp only [Act.put, List.setIfInBounds_toArray, List.set_cons_zero, List.set_cons_succ, i64_w, i32_w]
         rfl
        refine one_ (i := 4) (N := some 36) #[true, true, true, true, true, false, false] rfl rfl (by kernel_rfl) (by decide) (fun K hK => ?_)
        refine Kd.R_append_rows_step (Kd.int .u8) w.heap.size (by rfl) (.tmp 33) (.tmp 35) 22 5 (.int .u8 0) 1 rfl Try.underlying22 info5 rfl (by decide) (by omega) u475003 x475003_3 t495 _ _ _ (fun k_ => some k_ ≠ (.slice Ao56 t495.length co56 : Value).ownBlock) (fun _ => False) rfl rfl ?aO ?aR (fun _ _ h => h) (fun _ h => h.elim) ?aF (Below.refl _ _) ?aS ?aL ?_
        (case aR => repeat (first | exact (Kd.R_reads' HO497.out).2.2 | (with_reducible refine Kd.C_alloc ?_ _) | (with_reducible refine Kd.C_drewN ?_ _) | (with_reducible refine Kd.C_drew ?_)))
        (case aF => exact (fun k_ hk => Kd.fresh' (Kd.R_lt (Kd.rup HO497.out)) k_ hk))
        (case aO => exact (by exact Kd.rup (Kd.R_mono HO_475003.out (fun _ hk => hk.2))))
        (case aS => exact (keep_size (w := w) (g := g) (row := none) (by repeat (first | (with_reducible first | exact HK.out | apply KeepBut.set_ | apply keep_drewN | apply keep_drew | apply keep_alloc | refine keep_far ?_ GW465.out _ | refine keep_far ?_ GW474.out _) | exact HK.out))))
        (case aL => have := LMc51.out; omega)
        intro v501 w55 ho hb hg hat
        rw [← Ny500.out] at ho
        have n0_ := Aside0.mk (blk_grown (g := gb465) (o := .cells #[.int .i64 0, .int .i64 0, .float .f64 0, .slice none 0 0] 25 (0, 0)) (bup BK465.out) hg (Kd.R_ne HO_475003.out BK465.out (by decide)))
        have n1_ := Aside0.mk (blk_grown (g := gb474) (o := .cells #[.int .i64 x475000_3, .int .i64 x475001_3, .float .f64 b475002_3, u475003] 25 (0, 0)) (bup BK474.out) hg (Kd.R_ne HO_475003.out BK474.out (by decide)))
        have n2_ := Aside0.mk (IsS83.grown (by repeat (first | (with_reducible first | exact HI0.out | apply IsS83.alloc | apply IsS83.drewN | apply IsS83.drew | apply IsS83.set_1 | apply IsS83.set_2 | refine IsS83.far ?_ NB0_465.out _ | refine IsS83.far ?_ NB0_474.out _) | exact HI0.out)) hg (IsS83.own_ne HI0.out HO_475003.out (by decide)))
        have n3_ := Aside0.mk (Kd.R_after (ok := (fun _ => True)) (Kd.rup HO497.out) hg hat)
        have n4_ := Aside0.mk (below_weaken (by repeat (first | (with_reducible first | exact HB.out | apply h1 | apply h2 | apply h3 | refine h4 ?_ (IsS83.ge HI0.out) | refine h4 ?_ GE465.out | refine h4 ?_ GE474.out) | exact HB.out)) HL.out hb)
        have n5_ := Aside0.mk (KeepBut.trans (by repeat (first | (with_reducible first | exact HK.out | apply KeepBut.set_ | apply keep_drewN | apply keep_drew | apply keep_alloc | refine keep_far ?_ GW465.out _ | refine keep_far ?_ GW474.out _) | exact HK.out)) (KeepBut.of_grown hg g) (Kd.R_base2 HO_475003.out))
        have n6_ := Aside0.mk (ho)
        clear BK465
        clear BK474
        clear HI0
        clear HO497
        clear HB
        clear HK
        clear HO_475003
        have BK465 := n0_
        have BK474 := n1_
        have HI0 := n2_
        have HO497 := n3_
        have HB := n4_
        have HK := n5_
        have HO502 := n6_
        clear n0_ n1_ n2_ n3_ n4_ n5_ n6_
        clear ho hb hg hat
        obtain ⟨Ao57, co57, eo57⟩ := Kd.R_slice HO502.out
        (first | subst eo57 | (injection eo57 with f1_ f2_ f3_; have f4_ := f1_.symm; have f5_ := f3_.symm; clear f1_ f2_ f3_; subst f4_; subst f5_))
        refine hK.out _ _ (blk_cells4 BK474.out) (fun hHeld => ?_)
        clear hK K
        refine norm_ (a' := ?_) ?_ ?_
        rotate_left
        ·show Act.put _ (some 36) _ = _
         simp only [Act.put, List.setIfInBounds_toArray, List.set_cons_zero, List.set_cons_succ, i64_w, i32_w]
         rfl
        refine pure_ (i := 5) (N := some 37) (v := ?_) (a' := ?_) #[true, true, true, true, true, true, false] rfl rfl (by kernel_rfl) (fun _ _ _ h => h) (Or.inl ⟨by rfl, ?_⟩) ?_ ?_
        rotate_left
        ·intro w'
         go_simp
         with_reducible rfl
        rotate_left
        ·simp only [Act.put, List.setIfInBounds_toArray, List.set_cons_zero, List.set_cons_succ, i64_w, i32_w]
         rfl
        refine last_ (i := 6) (N := none) #[true, true, true, true, true, true, true] rfl rfl (by kernel_rfl) (by decide) (fun K hK => ?_)
        have hs58 : w55.cell? ⟨gb474, 3, none⟩ = some (u475003) := (blk_cell BK474.out 3).trans rfl
        have hfs58 := blk_frozen BK474.out 3
        have hns58_0 := NB465_474.out
        have hms58_0 := NB474_465.out
        refine skip_ (w1 := ?_) ?hw_ ?hN_ ?_ ?_
        case hN_ => rfl
        case hw_ => rfl
        rotate_left
        ·go_simp
         rfl
        refine hK.out _ _ ?_
        clear hK K
        refine done_ (by kernel_rfl) ?_
        have hnb59 := NB474_465.out
        have hnc59 := NB465_474.out
        have hnb60 := NB474_0.out
        have hnc60 := NB0_474.out
        obtain ⟨hcz61_0, hcz61_1, hcz61_2, hcz61_3⟩ := blk_cells4 BK474.out
        obtain ⟨hfz61_0, hfz61_1, hfz61_2, hfz61_3⟩ := blk_frozens4 BK474.out
        have hnb62 := NB465_0.out
        have hnc62 := NB0_465.out
        obtain ⟨hcz63_0, hcz63_1, hcz63_2, hcz63_3⟩ := blk_cells4 BK465.out
        obtain ⟨hfz63_0, hfz63_1, hfz63_2, hfz63_3⟩ := blk_frozens4 BK465.out
        try go_wp2
        refine bodyPost_ret (results_cell_row rfl _ _ gb465 25 #[.int .i64 x475000_3, .int .i64 x475001_3, .float .f64 b475002_3, .slice Ao57 y500.length co57] (0, 0) _ rfl (bput BK465.out) Try.underlying25 rfl (by kernel_rfl)) rfl ?_
        exact ⟨_, _, by first | rfl | (simp [errW_none, errW_some] <;> rfl) | (simp [*, errW_none, errW_some] <;> rfl), by exact Kd.rup (Kd.R_mono (Kd.R_far (p := ⟨gb465, 3, none⟩) (Kd.R_far (p := ⟨gb465, 2, none⟩) (Kd.R_far (p := ⟨gb465, 1, none⟩) (Kd.R_far (p := ⟨gb465, 0, none⟩) (Kd.R_far (p := ⟨gb474, 3, none⟩) (Kd.R_types (Kd.R_types HO502.out BK474.out (by decide)) BK465.out (by decide)) (fun _ hk => hk.1.2) (.slice Ao57 y500.length co57)) (fun _ hk => hk.2) (.int .i64 x475000_3)) (fun _ hk => hk.2) (.int .i64 x475001_3)) (fun _ hk => hk.2) (.float .f64 b475002_3)) (fun _ hk => hk.2) (.slice Ao57 y500.length co57)) (fun _ hk => trivial)), by repeat (first | (with_reducible first | exact HI0.out | apply IsS83.alloc | apply IsS83.drewN | apply IsS83.drew | apply IsS83.set_1 | apply IsS83.set_2 | refine IsS83.far ?_ NB0_465.out _ | refine IsS83.far ?_ NB0_474.out _) | exact HI0.out), by repeat (first | (with_reducible first | exact HB.out | apply h1 | apply h2 | apply h3 | refine h4 ?_ (IsS83.ge HI0.out) | refine h4 ?_ GE465.out | refine h4 ?_ GE474.out) | exact HB.out), by repeat (first | (with_reducible first | exact HK.out | apply KeepBut.set_ | apply keep_drewN | apply keep_drew | apply keep_alloc | refine keep_far ?_ GW465.out _ | refine keep_far ?_ GW474.out _) | exact HK.out), (by first | exact ⟨⟨rfl, LTb468.out⟩⟩ | exact ⟨⟨rfl, LTb475002_3.out⟩⟩ | exact ⟨⟨by first | rfl | decide, by decide⟩⟩ | exact ⟨⟨rfl, fquo_lt (by assumption)⟩⟩)⟩
       ·rw [if_neg c51] at H
        exact absurd H (by simp)
      ·rw [if_neg c49] at H
       have c49b0 : (t486 == 3) = false := beq_eq_false_iff_ne.mpr c49
       have c49b1 : (t486 != 3) = true := bne_iff_ne.mpr c49
       by_cases c64 : t486 = 4
       ·rw [if_pos c64] at H
        have c64b0 : (t486 == 4) = true := beq_iff_eq.mpr c64
        have c64b1 : (t486 != 4) = false := bne_eq_false_iff_eq.mpr c64
        clear c64
        have H' := Aside0.mk H
        clear H
        go_wp2_with (first | ((with_reducible refine gate_callee (f := 59) rfl ?_); refine goesL_ (some 12) rfl rfl Try.func59 (by kernel_rfl) rfl #[.pointer (some ⟨g, 0, none⟩), .int .i64 14] rfl (by (try simp only [List.map_toArray, List.map_cons, List.map_nil]); first | done | rfl) ?_; (with_reducible refine (spec_l1Below.calls g s0_0 x1001_3 x1002_3 14 t486 t487 t488 w0 _ ?side1 ?side2 A20.out).mono ?_); (case side1 => repeat (first | (with_reducible first | exact HI0.out | apply IsS83.alloc | apply IsS83.drewN | apply IsS83.drew | apply IsS83.set_1 | apply IsS83.set_2 | refine IsS83.far ?_ NB0_465.out _ | refine IsS83.far ?_ NB0_474.out _) | exact HI0.out)); (case side2 => repeat (first | (with_reducible first | exact HB.out | apply h1 | apply h2 | apply h3 | refine h4 ?_ (IsS83.ge HI0.out) | refine h4 ?_ GE465.out | refine h4 ?_ GE474.out) | exact HB.out)); rintro e w65 ⟨rfl, hi, hb, hk⟩; refine ⟨_, rfl, ?_⟩; have n0_ := Aside0.mk (Kd.R_mono (Kd.R_keep (IsS83.apart (show IsS83 w0 _ g s0_0 x1001_3 x1002_3 from by repeat (first | (with_reducible first | exact HI0.out | apply IsS83.alloc | apply IsS83.drewN | apply IsS83.drew | apply IsS83.set_1 | apply IsS83.set_2 | refine IsS83.far ?_ NB0_465.out _ | refine IsS83.far ?_ NB0_474.out _) | exact HI0.out)) (Kd.rup HO_475003.out) (by decide)) hk (fun _ h => h.2)) (fun _ h => h.1)); have n1_ := Aside0.mk (KeepBut.blk hk (g' := gb465) (o := .cells #[.int .i64 0, .int .i64 0, .float .f64 0, .slice none 0 0] 25 (0, 0)) (bup BK465.out) NB465_0.out (by simp)); have n2_ := Aside0.mk (KeepBut.blk hk (g' := gb474) (o := .cells #[.int .i64 x475000_3, .int .i64 x475001_3, .float .f64 b475002_3, u475003] 25 (0, 0)) (bup BK474.out) NB474_0.out (by simp)); have n3_ := Aside0.mk (KeepBut.trans (by repeat (first | (with_reducible first | exact HK.out | apply KeepBut.set_ | apply keep_drewN | apply keep_drew | apply keep_alloc | refine keep_far ?_ GW465.out _ | refine keep_far ?_ GW474.out _) | exact HK.out)) hk (.inl rfl)); have n4_ := Aside0.mk (hb); have n5_ := Aside0.mk (hi); clear HO_475003; clear BK465; clear BK474; clear HK; clear HB; clear HI0; have HO_475003 := n0_; have BK465 := n1_; have BK474 := n2_; have HK := n3_; have HB := n4_; have HI0 := n5_; clear n0_ n1_ n2_ n3_ n4_ n5_; (try clear hb); (try clear hb2); (try clear hk); (try clear hi)))
        go_loopg [] kj3 (fun kq w' => ∃ (x1001_2 : Int) (x1002_2 : Int) (x475003_2 : List Int) (u475003 : Value), Aside0 (spec_l3any.l0 kq s0_0 x1001_2 x1002_2 x475000_3 x475001_3 (cn b475002_3) x475003_2 = some (r1, r2, r3, r4, r5, r6)) ∧ Aside0 (kq ≤ kj3) ∧ Aside0 (Kd.R (Kd.int .u8) 5 w' w.heap.size (fun _ => True) u475003 x475003_2) ∧ Aside0 (w'.heap[gb465]? = some (.cells #[.int .i64 0, .int .i64 0, .float .f64 0, (.slice none 0 0)] 25 (0, 0))) ∧ Aside0 (w'.heap[gb474]? = some (.cells #[.int .i64 x475000_3, .int .i64 x475001_3, .float .f64 b475002_3, u475003] 25 (0, 0))) ∧ Aside0 (IsS83 w0 w' g s0_0 x1001_2 x1002_2) ∧ Aside0 (KeepBut w w' g none) ∧ Aside0 (Below w0.heap.size w0 w'))
        case atStart => exact ⟨(t487), (t488), (x475003_3), (u475003), H', ⟨Nat.le_refl _⟩, ⟨by exact Kd.rup HO_475003.out⟩, ⟨by exact bup BK465.out⟩, ⟨by exact bup BK474.out⟩, ⟨by repeat (first | (with_reducible first | exact HI0.out | apply IsS83.alloc | apply IsS83.drewN | apply IsS83.drew | apply IsS83.set_1 | apply IsS83.set_2 | refine IsS83.far ?_ NB0_465.out _ | refine IsS83.far ?_ NB0_474.out _) | exact HI0.out)⟩, ⟨by repeat (first | (with_reducible first | exact HK.out | apply KeepBut.set_ | apply keep_drewN | apply keep_drew | apply keep_alloc | refine keep_far ?_ GW465.out _ | refine keep_far ?_ GW474.out _) | exact HK.out)⟩, ⟨by repeat (first | (with_reducible first | exact HB.out | apply h1 | apply h2 | apply h3 | refine h4 ?_ (IsS83.ge HI0.out) | refine h4 ?_ GE465.out | refine h4 ?_ GE474.out) | exact HB.out)⟩⟩
        case round =>
         clear H'
         try clear c1
         try clear c2
         try clear p2
         try clear c3
         try clear c4
         try clear c5
         try clear c6
         try clear p6
         try clear c8
         try clear c9
         try clear c13
         try clear c16
         try clear c17
         try clear c21
         try clear c21b0
         try clear c21b1
         try clear c25
         try clear c26
         try clear c28
         try clear c31
         try clear c31b0
         try clear c31b1
         try clear c33
         try clear c34
         try clear c36
         try clear c39
         try clear c39b0
         try clear c39b1
         try clear c43
         try clear c44
         try clear c46
         try clear c49
         try clear c49b0
         try clear c49b1
         try clear c51
         try clear c58
         try clear c59
         try clear c60
         try clear c61
         try clear c62
         try clear c64
         try clear c64b0
         try clear c64b1
         try clear p64
         try clear hcz10_0
         try clear hcz10_1
         try clear hcz10_2
         try clear hcz10_3
         try clear hcz18_0
         try clear hcz18_1
         try clear hcz18_2
         try clear hcz18_3
         try clear hcz27_0
         try clear hcz27_1
         try clear hcz27_2
         try clear hcz27_3
         try clear hcz29_0
         try clear hcz29_1
         try clear hcz29_2
         try clear hcz29_3
         try clear hcz35_0
         try clear hcz35_1
         try clear hcz35_2
         try clear hcz35_3
         try clear hcz37_0
         try clear hcz37_1
         try clear hcz37_2
         try clear hcz37_3
         try clear hcz45_0
         try clear hcz45_1
         try clear hcz45_2
         try clear hcz45_3
         try clear hcz47_0
         try clear hcz47_1
         try clear hcz47_2
         try clear hcz47_3
         try clear hcz61_0
         try clear hcz61_1
         try clear hcz61_2
         try clear hcz61_3
         try clear hcz63_0
         try clear hcz63_1
         try clear hcz63_2
         try clear hcz63_3
         try clear hfz10_0
         try clear hfz10_1
         try clear hfz10_2
         try clear hfz10_3
         try clear hfz18_0
         try clear hfz18_1
         try clear hfz18_2
         try clear hfz18_3
         try clear hfz27_0
         try clear hfz27_1
         try clear hfz27_2
         try clear hfz27_3
         try clear hfz29_0
         try clear hfz29_1
         try clear hfz29_2
         try clear hfz29_3
         try clear hfz35_0
         try clear hfz35_1
         try clear hfz35_2
         try clear hfz35_3
         try clear hfz37_0
         try clear hfz37_1
         try clear hfz37_2
         try clear hfz37_3
         try clear hfz45_0
         try clear hfz45_1
         try clear hfz45_2
         try clear hfz45_3
         try clear hfz47_0
         try clear hfz47_1
         try clear hfz47_2
         try clear hfz47_3
         try clear hfz61_0
         try clear hfz61_1
         try clear hfz61_2
         try clear hfz61_3
         try clear hfz63_0
         try clear hfz63_1
         try clear hfz63_2
         try clear hfz63_3
         try clear p2
         obtain ⟨x1001_2, x1002_2, x475003_2, u475003, HA, HK2, HO_475003, BK465, BK474, HI0, HK, HB⟩ := hrel
         cases gk with
         | zero => exact absurd HA.out (by simp [spec_l3any.l0])
         | succ k2 =>
          have H := HA.out
          clear HA
          simp only [spec_l3any.l0] at H
          replace H := Option.bind_eq_some_iff.mp H
          obtain ⟨⟨t503, t504, t505⟩, A660, H⟩ := H
          (try dsimp only at H)
          have A66 := Aside0.mk A660
          clear A660
          by_cases c67 : (x475003_2.length : Int) < (wrap64 (40 + t503))
          ·rw [if_pos c67] at H
           have c67b0 : decide ((x475003_2.length : Int) < (wrap64 (40 + t503))) = true := decide_eq_true c67
           clear c67
           by_cases c68 : x475003_2.length < 140737488355328
           ·rw [if_pos c68] at H
            have LMc68 := Aside0.mk c68
            clear c68
            obtain ⟨y506, hy506⟩ : ∃ y_ : List Int, y_ = (x475003_2 ++ [120]) := ⟨_, rfl⟩
            replace H : (spec_l3any.l0 k2 s0_0 t504 t505 x475000_3 x475001_3 (cn b475002_3) y506) = some (r1, r2, r3, r4, r5, r6) := by first | (rw [hy506]; with_reducible exact H) | (have H2_ := (Option.bind_some _ _).symm.trans H; rw [hy506]; with_reducible exact H2_) | (have H2_ := (Option.bind_some _ _).symm.trans H; with_reducible exact H2_) | with_reducible exact H | (rw [hy506]; exact H) | exact H
            have Ny506 := Aside0.mk hy506
            clear hy506
            have H' := Aside0.mk H
            clear H
            try go_wp2
            have n0_ := Aside0.mk (Kd.R_drew HO_475003.out)
            have n1_ := Aside0.mk (blk_drew BK465.out)
            have n2_ := Aside0.mk (blk_drew BK474.out)
            have n3_ := Aside0.mk (IsS83.drew HI0.out)
            have n4_ := Aside0.mk (keep_drew HK.out)
            have n5_ := Aside0.mk (below_drew1 HB.out)
            clear HO_475003
            clear BK465
            clear BK474
            clear HI0
            clear HK
            clear HB
            have HO_475003 := n0_
            have BK465 := n1_
            have BK474 := n2_
            have HI0 := n3_
            have HK := n4_
            have HB := n5_
            clear n0_ n1_ n2_ n3_ n4_ n5_
            obtain ⟨Ao70, co70, eo70⟩ := Kd.R_slice HO_475003.out
            (first | subst eo70 | (injection eo70 with f1_ f2_ f3_; have f4_ := f1_.symm; have f5_ := f3_.symm; clear f1_ f2_ f3_; subst f4_; subst f5_))
            refine start_ (n := 7) (S := fun w' => w'.cell? ⟨gb474, 0, none⟩ = some (.int .i64 x475000_3) ∧ w'.cell? ⟨gb474, 1, none⟩ = some (.int .i64 x475001_3) ∧ w'.cell? ⟨gb474, 2, none⟩ = some (.float .f64 b475002_3) ∧ w'.cell? ⟨gb474, 3, none⟩ = some (.slice Ao70 x475003_2.length co70)) (ds := []) #[false, false, false, false, false, false, false] (by kernel_rfl) rfl rfl (blk_cells4 BK474.out) (fun hHeld => ?_)
            generalize wr.drew = w69 at HO_475003 BK465 BK474 HI0 HK HB hHeld ⊢
            refine pure_ (i := 0) (N := some 40) (v := ?_) (a' := ?_) #[true, false, false, false, false, false, false] rfl rfl (by kernel_rfl) (fun _ _ _ h => h) (Or.inl ⟨by rfl, ?_⟩) ?_ ?_
            rotate_left
            ·intro w'
             go_simp
             with_reducible rfl
            rotate_left
            ·simp only [Act.put, List.setIfInBounds_toArray, List.set_cons_zero, List.set_cons_succ, i64_w, i32_w]
             rfl
            refine pure_ (i := 3) (N := some 43) (v := ?_) (a' := ?_) #[true, false, false, true, false, false, false] rfl rfl (by kernel_rfl) (fun _ _ _ h => h) (Or.inl ⟨by rfl, ?_⟩) ?_ ?_
            rotate_left
            ·intro w'
             go_simp
             with_reducible rfl
            rotate_left
            ·simp only [Act.put, List.setIfInBounds_toArray, List.set_cons_zero, List.set_cons_succ, i64_w, i32_w]
             rfl
            refine take_ (i := 1) (N := some 41) (v := ?_) (a' := ?_) #[true, true, false, true, false, false, false] rfl rfl (by kernel_rfl) (fun _ _ _ h => h) (Or.inl ⟨by rfl, ?_⟩) hHeld ?_ ?_
            rotate_left
            ·rintro w' ⟨s0, s1, s2, s3⟩
             go_simp
             with_reducible rfl
            rotate_left
            ·simp only [Act.put, List.setIfInBounds_toArray, List.set_cons_zero, List.set_cons_succ, i64_w, i32_w]
             rfl
            refine pure_ (i := 2) (N := some 42) (v := ?_) (a' := ?_) #[true, true, true, true, false, false, false] rfl rfl (by kernel_rfl) (fun _ _ _ h => h) (Or.inl ⟨by rfl, ?_⟩) ?_ ?_
            rotate_left
            ·intro w'
             go_simp
             with_reducible rfl
            rotate_left
            ·simp only [Act.put, List.setIfInBounds_toArray, List.set_cons_zero, List.set_cons_succ, i64_w, i32_w]
             rfl
            refine one_ (i := 4) (N := some 44) #[true, true, true, true, true, false, false] rfl rfl (by kernel_rfl) (by decide) (fun K hK => ?_)
            refine goes_ Try.func59 (by kernel_rfl) rfl #[.pointer (some ⟨g, 0, none⟩), .int .i64 2] (by rfl) rfl rfl (by (try simp only [List.map_toArray, List.map_cons, List.map_nil]); first | done | rfl) ?_
            with_reducible refine (spec_l1Below.calls g s0_0 x1001_2 x1002_2 2 t503 t504 t505 w0 _ ?side1 ?side2 A66.out).mono ?_
            (case side1 => repeat (first | (with_reducible first | exact HI0.out | apply IsS83.alloc | apply IsS83.drewN | apply IsS83.drew | apply IsS83.set_1 | apply IsS83.set_2 | refine IsS83.far ?_ NB0_465.out _ | refine IsS83.far ?_ NB0_474.out _) | exact HI0.out))
            (case side2 => repeat (first | (with_reducible first | exact HB.out | apply h1 | apply h2 | apply h3 | refine h4 ?_ (IsS83.ge HI0.out) | refine h4 ?_ GE465.out | refine h4 ?_ GE474.out) | exact HB.out))
            rintro e w71 ⟨rfl, hi, hb, hk⟩
            refine ⟨_, rfl, ?_⟩
            have n0_ := Aside0.mk (Kd.R_mono (Kd.R_keep (IsS83.apart (show IsS83 w0 _ g s0_0 x1001_2 x1002_2 from by repeat (first | (with_reducible first | exact HI0.out | apply IsS83.alloc | apply IsS83.drewN | apply IsS83.drew | apply IsS83.set_1 | apply IsS83.set_2 | refine IsS83.far ?_ NB0_465.out _ | refine IsS83.far ?_ NB0_474.out _) | exact HI0.out)) (Kd.rup HO_475003.out) (by decide)) hk (fun _ h => h.2)) (fun _ h => h.1))
            have n1_ := Aside0.mk (KeepBut.blk hk (g' := gb465) (o := .cells #[.int .i64 0, .int .i64 0, .float .f64 0, .slice none 0 0] 25 (0, 0)) (bup BK465.out) NB465_0.out (by simp))
            have n2_ := Aside0.mk (KeepBut.blk hk (g' := gb474) (o := .cells #[.int .i64 x475000_3, .int .i64 x475001_3, .float .f64 b475002_3, .slice Ao70 x475003_2.length co70] 25 (0, 0)) (bup BK474.out) NB474_0.out (by simp))
            have n3_ := Aside0.mk (KeepBut.trans (by repeat (first | (with_reducible first | exact HK.out | apply KeepBut.set_ | apply keep_drewN | apply keep_drew | apply keep_alloc | refine keep_far ?_ GW465.out _ | refine keep_far ?_ GW474.out _) | exact HK.out)) hk (.inl rfl))
            have n4_ := Aside0.mk (hb)
            have n5_ := Aside0.mk (hi)
            clear HO_475003
            clear BK465
            clear BK474
            clear HK
            clear HB
            clear HI0
            have HO_475003 := n0_
            have BK465 := n1_
            have BK474 := n2_
            have HK := n3_
            have HB := n4_
            have HI0 := n5_
            clear n0_ n1_ n2_ n3_ n4_ n5_
            (try clear hb)
            (try clear hb2)
            (try clear hk)
            (try clear hi)
            refine hK.out _ _ (blk_cells4 BK474.out) (fun hHeld => ?_)
            clear hK K
            refine norm_ (a' := ?_) ?_ ?_
            rotate_left
            ·show Act.put _ (some 44) _ = _
             simp only [Act.put, List.setIfInBounds_toArray, List.set_cons_zero, List.set_cons_succ, i64_w, i32_w]
             rfl
            refine pure_ (i := 5) (N := some 45) (v := ?_) (a' := ?_) #[true, true, true, true, true, true, false] rfl rfl (by kernel_rfl) (fun _ _ _ h => h) (Or.inl ⟨by rfl, ?_⟩) ?_ ?_
            rotate_left
            ·intro w'
             go_simp
             with_reducible rfl
            rotate_left
            ·simp only [Act.put, List.setIfInBounds_toArray, List.set_cons_zero, List.set_cons_succ, i64_w, i32_w]
             rfl
            refine pure_ (i := 6) (N := some 46) (v := ?_) (a' := ?_) #[true, true, true, true, true, true, true] rfl rfl (by kernel_rfl) (fun _ _ _ h => h) (Or.inl ⟨by rfl, ?_⟩) ?_ ?_
            rotate_left
            ·intro w'
             go_simp
             with_reducible rfl
            rotate_left
            ·simp only [Act.put, List.setIfInBounds_toArray, List.set_cons_zero, List.set_cons_succ, i64_w, i32_w]
             rfl
            refine done_ (by kernel_rfl) ?_
            have hnb72 := NB474_465.out
            have hnc72 := NB465_474.out
            have hnb73 := NB474_0.out
            have hnc73 := NB0_474.out
            obtain ⟨hcz74_0, hcz74_1, hcz74_2, hcz74_3⟩ := blk_cells4 BK474.out
            obtain ⟨hfz74_0, hfz74_1, hfz74_2, hfz74_3⟩ := blk_frozens4 BK474.out
            try go_wp2_with (first | ((with_reducible refine gate_builtin (b := .append) (xs := #[.tmp 48, .tmp 49]) rfl ?_); at_builtin; refine Kd.R_append (Kd.int .u8) w.heap.size rfl (.tmp 48) (.tmp 49) 22 5 (.int .u8 0) 1 rfl Try.underlying22 info5 rfl (by decide) (by omega) (.slice Ao70 x475003_2.length co70) x475003_2 120 [.int .u8 120] (fun _ => True) (fun _ => False) rfl rfl ?aP (fun _ hk => hk.elim) ?aF ?aO (Below.refl _ _) ?aS ?aL ?_; (case aP => exact rfl); (case aF => exact (fun _ _ => trivial)); (case aO => exact (Kd.rup HO_475003.out)); (case aS => exact (keep_size (w := w) (g := g) (row := none) (by repeat (first | (with_reducible first | exact HK.out | apply KeepBut.set_ | apply keep_drewN | apply keep_drew | apply keep_alloc | refine keep_far ?_ GW465.out _ | refine keep_far ?_ GW474.out _) | exact HK.out)))); (case aL => have := LMc68.out; omega); intro v507 w75 ho hb hg hat; rw [← Ny506.out] at ho; have n0_ := Aside0.mk (blk_grown (g := gb465) (o := .cells #[.int .i64 0, .int .i64 0, .float .f64 0, .slice none 0 0] 25 (0, 0)) (bup BK465.out) hg (Kd.R_ne HO_475003.out BK465.out (by decide))); have n1_ := Aside0.mk (blk_grown (g := gb474) (o := .cells #[.int .i64 x475000_3, .int .i64 x475001_3, .float .f64 b475002_3, .slice Ao70 x475003_2.length co70] 25 (0, 0)) (bup BK474.out) hg (Kd.R_ne HO_475003.out BK474.out (by decide))); have n2_ := Aside0.mk (IsS83.grown (by repeat (first | (with_reducible first | exact HI0.out | apply IsS83.alloc | apply IsS83.drewN | apply IsS83.drew | apply IsS83.set_1 | apply IsS83.set_2 | refine IsS83.far ?_ NB0_465.out _ | refine IsS83.far ?_ NB0_474.out _) | exact HI0.out)) hg (IsS83.own_ne HI0.out HO_475003.out (by decide))); have n3_ := Aside0.mk (below_weaken (by repeat (first | (with_reducible first | exact HB.out | apply h1 | apply h2 | apply h3 | refine h4 ?_ (IsS83.ge HI0.out) | refine h4 ?_ GE465.out | refine h4 ?_ GE474.out) | exact HB.out)) HL.out hb); have n4_ := Aside0.mk (KeepBut.trans (by repeat (first | (with_reducible first | exact HK.out | apply KeepBut.set_ | apply keep_drewN | apply keep_drew | apply keep_alloc | refine keep_far ?_ GW465.out _ | refine keep_far ?_ GW474.out _) | exact HK.out)) (KeepBut.of_grown hg g) (Kd.R_base2 HO_475003.out)); have n5_ := Aside0.mk (ho); clear BK465; clear BK474; clear HI0; clear HB; clear HK; clear HO_475003; have BK465 := n0_; have BK474 := n1_; have HI0 := n2_; have HB := n3_; have HK := n4_; have HO508 := n5_; clear n0_ n1_ n2_ n3_ n4_ n5_; clear ho hb hg hat; obtain ⟨Ao76, co76, eo76⟩ := Kd.R_slice HO508.out; subst eo76; obtain ⟨hcz77_0, hcz77_1, hcz77_2, hcz77_3⟩ := blk_cells4 BK474.out; obtain ⟨hfz77_0, hfz77_1, hfz77_2, hfz77_3⟩ := blk_frozens4 BK474.out))
            go_roundg k2
            case measure => have := HJ3.out; have := HK2.out; omega
            case rel => exact ⟨(t504), (t505), (y506), (.slice Ao76 y506.length co76), H', ⟨by have := HJ3.out; have := HK2.out; omega⟩, ⟨by exact Kd.rup (Kd.R_mono (Kd.R_far (p := ⟨gb474, 3, none⟩) (Kd.R_types HO508.out BK474.out (by decide)) (fun _ hk => hk.2) (.slice Ao76 y506.length co76)) (fun _ hk => trivial))⟩, ⟨bput BK465.out⟩, ⟨bput BK474.out⟩, ⟨by repeat (first | (with_reducible first | exact HI0.out | apply IsS83.alloc | apply IsS83.drewN | apply IsS83.drew | apply IsS83.set_1 | apply IsS83.set_2 | refine IsS83.far ?_ NB0_465.out _ | refine IsS83.far ?_ NB0_474.out _) | exact HI0.out)⟩, ⟨by repeat (first | (with_reducible first | exact HK.out | apply KeepBut.set_ | apply keep_drewN | apply keep_drew | apply keep_alloc | refine keep_far ?_ GW465.out _ | refine keep_far ?_ GW474.out _) | exact HK.out)⟩, ⟨by repeat (first | (with_reducible first | exact HB.out | apply h1 | apply h2 | apply h3 | refine h4 ?_ (IsS83.ge HI0.out) | refine h4 ?_ GE465.out | refine h4 ?_ GE474.out) | exact HB.out)⟩⟩
           ·rw [if_neg c68] at H
            exact absurd H (by simp)
          ·rw [if_neg c67] at H
           have c67b0 : decide ((x475003_2.length : Int) < (wrap64 (40 + t503))) = false := decide_eq_false c67
           clear c67
           simp only [Option.some.injEq, Prod.mk.injEq] at H
           obtain ⟨rfl, rfl, rfl, rfl, rfl, rfl⟩ := H
           try go_wp2
           have n0_ := Aside0.mk (Kd.R_drew HO_475003.out)
           have n1_ := Aside0.mk (blk_drew BK465.out)
           have n2_ := Aside0.mk (blk_drew BK474.out)
           have n3_ := Aside0.mk (IsS83.drew HI0.out)
           have n4_ := Aside0.mk (keep_drew HK.out)
           have n5_ := Aside0.mk (below_drew1 HB.out)
           clear HO_475003
           clear BK465
           clear BK474
           clear HI0
           clear HK
           clear HB
           have HO_475003 := n0_
           have BK465 := n1_
           have BK474 := n2_
           have HI0 := n3_
           have HK := n4_
           have HB := n5_
           clear n0_ n1_ n2_ n3_ n4_ n5_
           obtain ⟨Ao79, co79, eo79⟩ := Kd.R_slice HO_475003.out
           (first | subst eo79 | (injection eo79 with f1_ f2_ f3_; have f4_ := f1_.symm; have f5_ := f3_.symm; clear f1_ f2_ f3_; subst f4_; subst f5_))
           refine start_ (n := 7) (S := fun w' => w'.cell? ⟨gb474, 0, none⟩ = some (.int .i64 x475000_3) ∧ w'.cell? ⟨gb474, 1, none⟩ = some (.int .i64 x475001_3) ∧ w'.cell? ⟨gb474, 2, none⟩ = some (.float .f64 b475002_3) ∧ w'.cell? ⟨gb474, 3, none⟩ = some (.slice Ao79 x475003_2.length co79)) (ds := []) #[false, false, false, false, false, false, false] (by kernel_rfl) rfl rfl (blk_cells4 BK474.out) (fun hHeld => ?_)
           generalize wr.drew = w78 at HO_475003 BK465 BK474 HI0 HK HB hHeld ⊢
           refine pure_ (i := 0) (N := some 40) (v := ?_) (a' := ?_) #[true, false, false, false, false, false, false] rfl rfl (by kernel_rfl) (fun _ _ _ h => h) (Or.inl ⟨by rfl, ?_⟩) ?_ ?_
           rotate_left
           ·intro w'
            go_simp
            with_reducible rfl
           rotate_left
           ·simp only [Act.put, List.setIfInBounds_toArray, List.set_cons_zero, List.set_cons_succ, i64_w, i32_w]
            rfl
           refine pure_ (i := 3) (N := some 43) (v := ?_) (a' := ?_) #[true, false, false, true, false, false, false] rfl rfl (by kernel_rfl) (fun _ _ _ h => h) (Or.inl ⟨by rfl, ?_⟩) ?_ ?_
           rotate_left
           ·intro w'
            go_simp
            with_reducible rfl
           rotate_left
           ·simp only [Act.put, List.setIfInBounds_toArray, List.set_cons_zero, List.set_cons_succ, i64_w, i32_w]
            rfl
           refine take_ (i := 1) (N := some 41) (v := ?_) (a' := ?_) #[true, true, false, true, false, false, false] rfl rfl (by kernel_rfl) (fun _ _ _ h => h) (Or.inl ⟨by rfl, ?_⟩) hHeld ?_ ?_
           rotate_left
           ·rintro w' ⟨s0, s1, s2, s3⟩
            go_simp
            with_reducible rfl
           rotate_left
           ·simp only [Act.put, List.setIfInBounds_toArray, List.set_cons_zero, List.set_cons_succ, i64_w, i32_w]
            rfl
           refine pure_ (i := 2) (N := some 42) (v := ?_) (a' := ?_) #[true, true, true, true, false, false, false] rfl rfl (by kernel_rfl) (fun _ _ _ h => h) (Or.inl ⟨by rfl, ?_⟩) ?_ ?_
           rotate_left
           ·intro w'
            go_simp
            with_reducible rfl
           rotate_left
           ·simp only [Act.put, List.setIfInBounds_toArray, List.set_cons_zero, List.set_cons_succ, i64_w, i32_w]
            rfl
           refine one_ (i := 4) (N := some 44) #[true, true, true, true, true, false, false] rfl rfl (by kernel_rfl) (by decide) (fun K hK => ?_)
           refine goes_ Try.func59 (by kernel_rfl) rfl #[.pointer (some ⟨g, 0, none⟩), .int .i64 2] (by rfl) rfl rfl (by (try simp only [List.map_toArray, List.map_cons, List.map_nil]); first | done | rfl) ?_
           with_reducible refine (spec_l1Below.calls g s0_0 x1001_2 x1002_2 2 t503 t504 t505 w0 _ ?side1 ?side2 A66.out).mono ?_
           (case side1 => repeat (first | (with_reducible first | exact HI0.out | apply IsS83.alloc | apply IsS83.drewN | apply IsS83.drew | apply IsS83.set_1 | apply IsS83.set_2 | refine IsS83.far ?_ NB0_465.out _ | refine IsS83.far ?_ NB0_474.out _) | exact HI0.out))
           (case side2 => repeat (first | (with_reducible first | exact HB.out | apply h1 | apply h2 | apply h3 | refine h4 ?_ (IsS83.ge HI0.out) | refine h4 ?_ GE465.out | refine h4 ?_ GE474.out) | exact HB.out))
           rintro e w80 ⟨rfl, hi, hb, hk⟩
           refine ⟨_, rfl, ?_⟩
           have n0_ := Aside0.mk (Kd.R_mono (Kd.R_keep (IsS83.apart (show IsS83 w0 _ g s0_0 x1001_2 x1002_2 from by repeat (first | (with_reducible first | exact HI0.out | apply IsS83.alloc | apply IsS83.drewN | apply IsS83.drew | apply IsS83.set_1 | apply IsS83.set_2 | refine IsS83.far ?_ NB0_465.out _ | refine IsS83.far ?_ NB0_474.out _) | exact HI0.out)) (Kd.rup HO_475003.out) (by decide)) hk (fun _ h => h.2)) (fun _ h => h.1))
           have n1_ := Aside0.mk (KeepBut.blk hk (g' := gb465) (o := .cells #[.int .i64 0, .int .i64 0, .float .f64 0, .slice none 0 0] 25 (0, 0)) (bup BK465.out) NB465_0.out (by simp))
           have n2_ := Aside0.mk (KeepBut.blk hk (g' := gb474) (o := .cells #[.int .i64 x475000_3, .int .i64 x475001_3, .float .f64 b475002_3, .slice Ao79 x475003_2.length co79] 25 (0, 0)) (bup BK474.out) NB474_0.out (by simp))
           have n3_ := Aside0.mk (KeepBut.trans (by repeat (first | (with_reducible first | exact HK.out | apply KeepBut.set_ | apply keep_drewN | apply keep_drew | apply keep_alloc | refine keep_far ?_ GW465.out _ | refine keep_far ?_ GW474.out _) | exact HK.out)) hk (.inl rfl))
           have n4_ := Aside0.mk (hb)
           have n5_ := Aside0.mk (hi)
           clear HO_475003
           clear BK465
           clear BK474
           clear HK
           clear HB
           clear HI0
           have HO_475003 := n0_
           have BK465 := n1_
           have BK474 := n2_
           have HK := n3_
           have HB := n4_
           have HI0 := n5_
           clear n0_ n1_ n2_ n3_ n4_ n5_
           (try clear hb)
           (try clear hb2)
           (try clear hk)
           (try clear hi)
           refine hK.out _ _ (blk_cells4 BK474.out) (fun hHeld => ?_)
           clear hK K
           refine norm_ (a' := ?_) ?_ ?_
           rotate_left
           ·show Act.put _ (some 44) _ = _
            simp only [Act.put, List.setIfInBounds_toArray, List.set_cons_zero, List.set_cons_succ, i64_w, i32_w]
            rfl
           refine pure_ (i := 5) (N := some 45) (v := ?_) (a' := ?_) #[true, true, true, true, true, true, false] rfl rfl (by kernel_rfl) (fun _ _ _ h => h) (Or.inl ⟨by rfl, ?_⟩) ?_ ?_
           rotate_left
           ·intro w'
            go_simp
            with_reducible rfl
           rotate_left
           ·simp only [Act.put, List.setIfInBounds_toArray, List.set_cons_zero, List.set_cons_succ, i64_w, i32_w]
            rfl
           refine pure_ (i := 6) (N := some 46) (v := ?_) (a' := ?_) #[true, true, true, true, true, true, true] rfl rfl (by kernel_rfl) (fun _ _ _ h => h) (Or.inl ⟨by rfl, ?_⟩) ?_ ?_
           rotate_left
           ·intro w'
            go_simp
            with_reducible rfl
           rotate_left
           ·simp only [Act.put, List.setIfInBounds_toArray, List.set_cons_zero, List.set_cons_succ, i64_w, i32_w]
            rfl
           refine done_ (by kernel_rfl) ?_
           have hnb81 := NB474_465.out
           have hnc81 := NB465_474.out
           have hnb82 := NB474_0.out
           have hnc82 := NB0_474.out
           obtain ⟨hcz83_0, hcz83_1, hcz83_2, hcz83_3⟩ := blk_cells4 BK474.out
           obtain ⟨hfz83_0, hfz83_1, hfz83_2, hfz83_3⟩ := blk_frozens4 BK474.out
           have hnb84 := NB465_0.out
           have hnc84 := NB0_465.out
           obtain ⟨hcz85_0, hcz85_1, hcz85_2, hcz85_3⟩ := blk_cells4 BK465.out
           obtain ⟨hfz85_0, hfz85_1, hfz85_2, hfz85_3⟩ := blk_frozens4 BK465.out
           try go_wp2
           refine bodyPost_ret (results_cell_row rfl _ _ gb465 25 #[.int .i64 3, .int .i64 0, .float .f64 0, .slice Ao79 x475003_2.length co79] (0, 0) _ rfl (bput BK465.out) Try.underlying25 rfl (by kernel_rfl)) rfl ?_
           exact ⟨_, _, by first | rfl | (simp [errW_none, errW_some] <;> rfl) | (simp [*, errW_none, errW_some] <;> rfl), by exact Kd.rup (Kd.R_mono (Kd.R_far (p := ⟨gb465, 3, none⟩) (Kd.R_far (p := ⟨gb465, 2, none⟩) (Kd.R_far (p := ⟨gb465, 1, none⟩) (Kd.R_far (p := ⟨gb465, 0, none⟩) (Kd.R_far (p := ⟨gb474, 2, none⟩) (Kd.R_far (p := ⟨gb474, 1, none⟩) (Kd.R_far (p := ⟨gb474, 0, none⟩) (Kd.R_types (Kd.R_types HO_475003.out BK474.out (by decide)) BK465.out (by decide)) (fun _ hk => hk.1.2) (.int .i64 3)) (fun _ hk => hk.1.2) (.int .i64 0)) (fun _ hk => hk.1.2) (.float .f64 0)) (fun _ hk => hk.2) (.int .i64 3)) (fun _ hk => hk.2) (.int .i64 0)) (fun _ hk => hk.2) (.float .f64 0)) (fun _ hk => hk.2) (.slice Ao79 x475003_2.length co79)) (fun _ hk => trivial)), by repeat (first | (with_reducible first | exact HI0.out | apply IsS83.alloc | apply IsS83.drewN | apply IsS83.drew | apply IsS83.set_1 | apply IsS83.set_2 | refine IsS83.far ?_ NB0_465.out _ | refine IsS83.far ?_ NB0_474.out _) | exact HI0.out), by repeat (first | (with_reducible first | exact HB.out | apply h1 | apply h2 | apply h3 | refine h4 ?_ (IsS83.ge HI0.out) | refine h4 ?_ GE465.out | refine h4 ?_ GE474.out) | exact HB.out), by repeat (first | (with_reducible first | exact HK.out | apply KeepBut.set_ | apply keep_drewN | apply keep_drew | apply keep_alloc | refine keep_far ?_ GW465.out _ | refine keep_far ?_ GW474.out _) | exact HK.out), (by first | exact ⟨⟨rfl, LTb468.out⟩⟩ | exact ⟨⟨rfl, LTb475002_3.out⟩⟩ | exact ⟨⟨by first | rfl | decide, by decide⟩⟩ | exact ⟨⟨rfl, fquo_lt (by assumption)⟩⟩)⟩
       ·rw [if_neg c64] at H
        have c64b0 : (t486 == 4) = false := beq_eq_false_iff_ne.mpr c64
        have c64b1 : (t486 != 4) = true := bne_iff_ne.mpr c64
        repeat (first | ((fail_if_success (with_reducible refine gate_callee (f := 59) rfl ?_)); first | go_values | go_skip | go_guarded | go_step | go_upon | go_back | (simp only [Int.not_lt, Int.not_le] at *; go_simp)))
        (with_reducible refine gate_callee (f := 59) rfl ?_); refine goesL_ (some 12) rfl rfl Try.func59 (by kernel_rfl) rfl #[.pointer (some ⟨g, 0, none⟩), .int .i64 14] rfl (by (try simp only [List.map_toArray, List.map_cons, List.map_nil]); first | done | rfl) ?_; (with_reducible refine (spec_l1Below.calls g s0_0 x1001_3 x1002_3 14 t486 t487 t488 w0 _ ?side1 ?side2 A20.out).mono ?_); (case side1 => repeat (first | (with_reducible first | exact HI0.out | apply IsS83.alloc | apply IsS83.drewN | apply IsS83.drew | apply IsS83.set_1 | apply IsS83.set_2 | refine IsS83.far ?_ NB0_465.out _ | refine IsS83.far ?_ NB0_474.out _) | exact HI0.out)); (case side2 => repeat (first | (with_reducible first | exact HB.out | apply h1 | apply h2 | apply h3 | refine h4 ?_ (IsS83.ge HI0.out) | refine h4 ?_ GE465.out | refine h4 ?_ GE474.out) | exact HB.out)); rintro e w87 ⟨rfl, hi, hb, hk⟩; refine ⟨_, rfl, ?_⟩; have n0_ := Aside0.mk (Kd.R_mono (Kd.R_keep (IsS83.apart (show IsS83 w0 _ g s0_0 x1001_3 x1002_3 from by repeat (first | (with_reducible first | exact HI0.out | apply IsS83.alloc | apply IsS83.drewN | apply IsS83.drew | apply IsS83.set_1 | apply IsS83.set_2 | refine IsS83.far ?_ NB0_465.out _ | refine IsS83.far ?_ NB0_474.out _) | exact HI0.out)) (Kd.rup HO_475003.out) (by decide)) hk (fun _ h => h.2)) (fun _ h => h.1)); have n1_ := Aside0.mk (KeepBut.blk hk (g' := gb465) (o := .cells #[.int .i64 0, .int .i64 0, .float .f64 0, .slice none 0 0] 25 (0, 0)) (bup BK465.out) NB465_0.out (by simp)); have n2_ := Aside0.mk (KeepBut.blk hk (g' := gb474) (o := .cells #[.int .i64 x475000_3, .int .i64 x475001_3, .float .f64 b475002_3, u475003] 25 (0, 0)) (bup BK474.out) NB474_0.out (by simp)); have n3_ := Aside0.mk (KeepBut.trans (by repeat (first | (with_reducible first | exact HK.out | apply KeepBut.set_ | apply keep_drewN | apply keep_drew | apply keep_alloc | refine keep_far ?_ GW465.out _ | refine keep_far ?_ GW474.out _) | exact HK.out)) hk (.inl rfl)); have n4_ := Aside0.mk (hb); have n5_ := Aside0.mk (hi); clear HO_475003; clear BK465; clear BK474; clear HK; clear HB; clear HI0; have HO_475003 := n0_; have BK465 := n1_; have BK474 := n2_; have HK := n3_; have HB := n4_; have HI0 := n5_; clear n0_ n1_ n2_ n3_ n4_ n5_; (try clear hb); (try clear hb2); (try clear hk); (try clear hi); have hnb88 := NB474_465.out; have hnc88 := NB465_474.out; have hnb89 := NB474_0.out; have hnc89 := NB0_474.out; obtain ⟨hcz90_0, hcz90_1, hcz90_2, hcz90_3⟩ := blk_cells4 BK474.out; obtain ⟨hfz90_0, hfz90_1, hfz90_2, hfz90_3⟩ := blk_frozens4 BK474.out; have hnb91 := NB465_0.out; have hnc91 := NB0_465.out; obtain ⟨hcz92_0, hcz92_1, hcz92_2, hcz92_3⟩ := blk_cells4 BK465.out
        by_cases c86 : t486 = 5
        ·rw [if_pos c86] at H
         have c86b0 : (t486 == 5) = true := beq_iff_eq.mpr c86
         have c86b1 : (t486 != 5) = false := bne_eq_false_iff_eq.mpr c86
         (try simp only [c86b0, c86b1, Bool.not_true, Bool.not_false])
         clear c86
         simp only [Option.some.injEq, Prod.mk.injEq] at H
         obtain ⟨rfl, rfl, rfl, rfl, rfl, rfl⟩ := H
         obtain ⟨hfz92_0, hfz92_1, hfz92_2, hfz92_3⟩ := blk_frozens4 BK465.out
         try go_wp2
         refine bodyPost_ret (results_cell_row rfl _ _ gb465 25 #[.int .i64 2, .int .i64 0, .float .f64 (fneg 0), .slice none 0 0] (0, 0) _ rfl (bput BK465.out) Try.underlying25 rfl (by kernel_rfl)) rfl ?_
         exact ⟨_, _, by first | rfl | (simp [errW_none, errW_some] <;> rfl) | (simp [*, errW_none, errW_some] <;> rfl), by first | exact Kd.R_nil _ _ _ _ _ | exact Kd.N_nil _ _ _ _ _ | exact Kd.V_nil _ _ _ _ _ | exact Kd.Q_nil _ _ _ _ _ | exact Kd.S_nil _ _ _ _ _, by repeat (first | (with_reducible first | exact HI0.out | apply IsS83.alloc | apply IsS83.drewN | apply IsS83.drew | apply IsS83.set_1 | apply IsS83.set_2 | refine IsS83.far ?_ NB0_465.out _ | refine IsS83.far ?_ NB0_474.out _) | exact HI0.out), by repeat (first | (with_reducible first | exact HB.out | apply h1 | apply h2 | apply h3 | refine h4 ?_ (IsS83.ge HI0.out) | refine h4 ?_ GE465.out | refine h4 ?_ GE474.out) | exact HB.out), by repeat (first | (with_reducible first | exact HK.out | apply KeepBut.set_ | apply keep_drewN | apply keep_drew | apply keep_alloc | refine keep_far ?_ GW465.out _ | refine keep_far ?_ GW474.out _) | exact HK.out), (by first | exact ⟨⟨rfl, LTb468.out⟩⟩ | exact ⟨⟨rfl, LTb475002_3.out⟩⟩ | exact ⟨⟨by first | rfl | decide, by decide⟩⟩ | exact ⟨⟨rfl, fquo_lt (by assumption)⟩⟩)⟩
        ·rw [if_neg c86] at H
         have c86b0 : (t486 == 5) = false := beq_eq_false_iff_ne.mpr c86
         have c86b1 : (t486 != 5) = true := bne_iff_ne.mpr c86
         (try simp only [c86b0, c86b1, Bool.not_true, Bool.not_false])
         simp only [Option.some.injEq, Prod.mk.injEq] at H
         obtain ⟨rfl, rfl, rfl, rfl, rfl, rfl⟩ := H
         obtain ⟨hfz98_0, hfz98_1, hfz98_2, hfz98_3⟩ := blk_frozens4 BK465.out; obtain ⟨Ao99, co99, eo99⟩ := Kd.R_slice HO_475003.out; subst eo99
         try go_wp2
         refine bodyPost_ret (results_cell_row rfl _ _ gb465 25 #[.int .i64 x475000_3, .int .i64 x475001_3, .float .f64 b475002_3, .slice Ao99 x475003_3.length co99] (0, 0) _ rfl (bput BK465.out) Try.underlying25 rfl (by kernel_rfl)) rfl ?_
         exact ⟨_, _, by first | rfl | (simp [errW_none, errW_some] <;> rfl) | (simp [*, errW_none, errW_some] <;> rfl), by exact Kd.rup (Kd.R_mono (Kd.R_far (p := ⟨gb465, 3, none⟩) (Kd.R_far (p := ⟨gb465, 2, none⟩) (Kd.R_far (p := ⟨gb465, 1, none⟩) (Kd.R_far (p := ⟨gb465, 0, none⟩) (Kd.R_types HO_475003.out BK465.out (by decide)) (fun _ hk => hk.2) (.int .i64 x475000_3)) (fun _ hk => hk.2) (.int .i64 x475001_3)) (fun _ hk => hk.2) (.float .f64 b475002_3)) (fun _ hk => hk.2) (.slice Ao99 x475003_3.length co99)) (fun _ hk => trivial)), by repeat (first | (with_reducible first | exact HI0.out | apply IsS83.alloc | apply IsS83.drewN | apply IsS83.drew | apply IsS83.set_1 | apply IsS83.set_2 | refine IsS83.far ?_ NB0_465.out _ | refine IsS83.far ?_ NB0_474.out _) | exact HI0.out), by repeat (first | (with_reducible first | exact HB.out | apply h1 | apply h2 | apply h3 | refine h4 ?_ (IsS83.ge HI0.out) | refine h4 ?_ GE465.out | refine h4 ?_ GE474.out) | exact HB.out), by repeat (first | (with_reducible first | exact HK.out | apply KeepBut.set_ | apply keep_drewN | apply keep_drew | apply keep_alloc | refine keep_far ?_ GW465.out _ | refine keep_far ?_ GW474.out _) | exact HK.out), (by first | exact ⟨⟨rfl, LTb468.out⟩⟩ | exact ⟨⟨rfl, LTb475002_3.out⟩⟩ | exact ⟨⟨by first | rfl | decide, by decide⟩⟩ | exact ⟨⟨rfl, fquo_lt (by assumption)⟩⟩)⟩
def spec_l6tuple.f (k : Nat) (s0_0 : List Int) (s0_1 : Int) (s0_2 : Int) : Option (Int × Int × Int × Int × Nat × List Int × Int × Int × Nat × List Int × Int × Int) := (spec_l1Below.f s0_0 s0_1 s0_2 9).bind fun bt510 => ((spec_l3key.f k s0_0 bt510.2.1 bt510.2.2).bind fun bt513 => ((spec_l3value.f k s0_0 bt513.2.2.2.2.1 bt513.2.2.2.2.2).bind fun bt521 => ((spec_l1Once.f s0_0 bt521.2.2.2.2.1 bt521.2.2.2.2.2 3).bind fun bt530 => (if bt530.1 = true then ((spec_l1Below.f s0_0 bt530.2.1 bt530.2.2 9).bind fun bt533 => (some (wrap64 (1 + bt510.1), wrap64 (1 + bt533.1), bt513.1, bt513.2.1, bt513.2.2.1, bt513.2.2.2.1, bt521.1, bt521.2.1, bt521.2.2.1, bt521.2.2.2.1, bt533.2.1, bt533.2.2))) else (some (wrap64 (1 + bt510.1), 0, bt513.1, bt513.2.1, bt513.2.2.1, bt513.2.2.2.1, bt521.1, bt521.2.1, bt521.2.2.1, bt521.2.2.2.1, bt530.2.1, bt530.2.2))))))
theorem spec_l6tuple.mono : ∀ a0 a1 a2 k, LeO (spec_l6tuple.f k a0 a1 a2) (spec_l6tuple.f (k + 1) a0 a1 a2) := by
 intro a0 a1 a2 k
 unfold spec_l6tuple.f
 repeat' with_reducible first | exact spec_l3key.mono _ _ _ _ | exact spec_l3value.mono _ _ _ _ | exact LeO.refl _ | exact LeO.none _ | refine LeO.ite ?_ ?_ | refine LeO.bind ?_ (fun _ => ?_)
set_option maxHeartbeats 8000000 in
set_option maxRecDepth 100000 in
theorem spec_l6tuple.callsC (k : Nat) (g : Nat) (s0_0 : List Int) (s0_1 : Int) (s0_2 : Int) (r1 : Int) (r2 : Int) (r3 : Int) (r4 : Int) (r5 : Nat) (r6 : List Int) (r7 : Int) (r8 : Int) (r9 : Nat) (r10 : List Int) (r11 : Int) (r12 : Int) (w0 w : World) (hI : IsS83 w0 w g s0_0 s0_1 s0_2) (hB : Below w0.heap.size w0 w) (h : spec_l6tuple.f k s0_0 s0_1 s0_2 = some (r1, r2, r3, r4, r5, r6, r7, r8, r9, r10, r11, r12)) :
  Calls Try.prog 77 #[.pointer (some ⟨g, 0, none⟩)] w fun e w' => ∃ b1_ : Nat, ∃ b2_ : Nat, ∃ v5_ v9_ : Value, e = .returned (.agg #[.int .i64 r1, .int .i64 r2, .int .i64 r3, .int .i64 r4, .float .f64 b1_, v5_, .int .i64 r7, .int .i64 r8, .float .f64 b2_, v9_]) ∧ Kd.R (Kd.int .u8) 5 w' w.heap.size (fun k_ => some k_ ≠ (v9_ : Value).ownBlock) v5_ r6 ∧ Kd.R (Kd.int .u8) 5 w' w.heap.size (fun k_ => some k_ ≠ (v5_ : Value).ownBlock) v9_ r10 ∧ IsS83 w0 w' g s0_0 r11 r12 ∧ Below w0.heap.size w0 w' ∧ KeepBut w w' g none ∧ Aside0 (cn b1_ = r5 ∧ b1_ < 2 ^ 64) ∧ Aside0 (cn b2_ = r9 ∧ b2_ < 2 ^ 64) := by
 have hu49 := Try.underlying49
 have HI0 := Aside0.mk hI
 have HK := Aside0.mk (KeepBut.refl w g none)
 have HL := Aside0.mk hB.size
 clear hI
 have HW0 := Aside0.mk hB.size
 have HB := Aside0.mk hB
 clear hB
 have H := h
 clear h
 unfold spec_l6tuple.f at H
 replace H := Option.bind_eq_some_iff.mp H
 obtain ⟨⟨t510, t511, t512⟩, A20, H⟩ := H
 (try dsimp only at H)
 have A2 := Aside0.mk A20
 clear A20
 replace H := Option.bind_eq_some_iff.mp H
 obtain ⟨⟨t513, t514, t515, t516, t519, t520⟩, A30, H⟩ := H
 (try dsimp only at H)
 have A3 := Aside0.mk A30
 clear A30
 replace H := Option.bind_eq_some_iff.mp H
 obtain ⟨⟨t521, t522, t523, t524, t527, t528⟩, A40, H⟩ := H
 (try dsimp only at H)
 have A4 := Aside0.mk A40
 clear A40
 replace H := Option.bind_eq_some_iff.mp H
 obtain ⟨⟨t530, t531, t532⟩, A50, H⟩ := H
 (try dsimp only at H)
 have A5 := Aside0.mk A50
 clear A50
 go_enter Try.func77, Try.ntmps77
 repeat (first | ((with_reducible refine gate_dst (N := 2) rfl ?_); refine box_event ?hg (N := 2) ?hd (cs := #[.int .i64 0, .int .i64 0, .int .i64 0, .int .i64 0, .float .f64 0, .slice none 0 0, .int .i64 0, .int .i64 0, .float .f64 0, .slice none 0 0]) (t := 49) ?hr ?_; (case hd => rfl); (case hg => rfl); (case hr => first | (go_simp; done) | (go_simp; rfl)); intro gb509 hg w8 hbox hb; have n0_ := Aside0.mk (IsS83.below (by repeat (first | (with_reducible first | exact HI0.out | apply IsS83.alloc | apply IsS83.drewN | apply IsS83.drew | apply IsS83.set_1 | apply IsS83.set_2) | exact HI0.out)) hb); have n1_ := Aside0.mk (KeepBut.trans (by repeat (first | (with_reducible first | exact HK.out | apply KeepBut.set_ | apply keep_drewN | apply keep_drew | apply keep_alloc) | exact HK.out)) (KeepBut.of_below hb g none) (.inl rfl)); have n2_ := Aside0.mk (below_step (by repeat (first | (with_reducible first | exact HB.out | apply h1 | apply h2 | apply h3 | refine h4 ?_ (IsS83.ge HI0.out)) | exact HB.out)) hb); have n3_ := Aside0.mk (hbox); have n4_ := Geq.mk ((by rw [hg]; exact (keep_size (w := w) (g := g) (row := none) (by repeat (first | (with_reducible first | exact HK.out | apply KeepBut.set_ | apply keep_drewN | apply keep_drew | apply keep_alloc) | exact HK.out))) : w.heap.size ≤ gb509)); have n5_ := Aside0.mk ((Nat.le_trans HW0.out (by rw [hg]; exact (keep_size (w := w) (g := g) (row := none) (by repeat (first | (with_reducible first | exact HK.out | apply KeepBut.set_ | apply keep_drewN | apply keep_drew | apply keep_alloc) | exact HK.out))) : w.heap.size ≤ gb509) : w0.heap.size ≤ gb509)); have n6_ := Aside0.mk ((by rw [hg]; exact Nat.ne_of_lt (IsS83.lt (show IsS83 w0 _ g s0_0 s0_1 s0_2 from by repeat (first | (with_reducible first | exact HI0.out | apply IsS83.alloc | apply IsS83.drewN | apply IsS83.drew | apply IsS83.set_1 | apply IsS83.set_2) | exact HI0.out))) : g ≠ gb509)); have n7_ := Aside0.mk ((by rw [hg]; exact Nat.ne_of_gt (IsS83.lt (show IsS83 w0 _ g s0_0 s0_1 s0_2 from by repeat (first | (with_reducible first | exact HI0.out | apply IsS83.alloc | apply IsS83.drewN | apply IsS83.drew | apply IsS83.set_1 | apply IsS83.set_2) | exact HI0.out))) : gb509 ≠ g)); clear HI0; clear HK; clear HB; have HI0 := n0_; have HK := n1_; have HB := n2_; have BK509 := n3_; have GW509 := n4_; have GE509 := n5_; have NB0_509 := n6_; have NB509_0 := n7_; clear n0_ n1_ n2_ n3_ n4_ n5_ n6_ n7_; clear hb hbox hg) | ((with_reducible refine gate_callee (f := 59) rfl ?_); refine goesL_ (some 5) rfl rfl Try.func59 (by kernel_rfl) rfl #[.pointer (some ⟨g, 0, none⟩), .int .i64 9] rfl (by (try simp only [List.map_toArray, List.map_cons, List.map_nil]); first | done | rfl) ?_; (with_reducible refine (spec_l1Below.calls g s0_0 s0_1 s0_2 9 t510 t511 t512 w0 _ ?side1 ?side2 A2.out).mono ?_); (case side1 => repeat (first | (with_reducible first | exact HI0.out | apply IsS83.alloc | apply IsS83.drewN | apply IsS83.drew | apply IsS83.set_1 | apply IsS83.set_2 | refine IsS83.far ?_ NB0_509.out _) | exact HI0.out)); (case side2 => repeat (first | (with_reducible first | exact HB.out | apply h1 | apply h2 | apply h3 | refine h4 ?_ (IsS83.ge HI0.out) | refine h4 ?_ GE509.out) | exact HB.out)); rintro e w9 ⟨rfl, hi, hb, hk⟩; refine ⟨_, rfl, ?_⟩; have n0_ := Aside0.mk (KeepBut.blk hk (g' := gb509) (o := .cells #[.int .i64 0, .int .i64 0, .int .i64 0, .int .i64 0, .float .f64 0, .slice none 0 0, .int .i64 0, .int .i64 0, .float .f64 0, .slice none 0 0] 49 (0, 0)) (bup BK509.out) NB509_0.out (by simp)); have n1_ := Aside0.mk (KeepBut.trans (by repeat (first | (with_reducible first | exact HK.out | apply KeepBut.set_ | apply keep_drewN | apply keep_drew | apply keep_alloc | refine keep_far ?_ GW509.out _) | exact HK.out)) hk (.inl rfl)); have n2_ := Aside0.mk (hb); have n3_ := Aside0.mk (hi); clear BK509; clear HK; clear HB; clear HI0; have BK509 := n0_; have HK := n1_; have HB := n2_; have HI0 := n3_; clear n0_ n1_ n2_ n3_; (try clear hb); (try clear hb2); (try clear hk); (try clear hi)) | ((with_reducible refine gate_callee (f := 62) rfl ?_); refine goesL_ (some 8) rfl rfl Try.func62 (by kernel_rfl) rfl #[.pointer (some ⟨g, 0, none⟩)] rfl (by (try simp only [List.map_toArray, List.map_cons, List.map_nil]); first | done | rfl) ?_; (with_reducible refine (spec_l3key.callsC k g s0_0 t511 t512 t513 t514 t515 t516 t519 t520 w0 _ ?side1 ?side2 A3.out).mono ?_); (case side1 => repeat (first | (with_reducible first | exact HI0.out | apply IsS83.alloc | apply IsS83.drewN | apply IsS83.drew | apply IsS83.set_1 | apply IsS83.set_2 | refine IsS83.far ?_ NB0_509.out _) | exact HI0.out)); (case side2 => repeat (first | (with_reducible first | exact HB.out | apply h1 | apply h2 | apply h3 | refine h4 ?_ (IsS83.ge HI0.out) | refine h4 ?_ GE509.out) | exact HB.out)); rintro e w10 ⟨b515, v517, rfl, ho0, hi, hb, hk, ⟨⟨hcnb515, hltb515⟩⟩⟩; refine ⟨_, rfl, ?_⟩; have LTb515 := Aside0.mk hltb515; clear hltb515; subst hcnb515; have n0_ := Aside0.mk (KeepBut.blk hk (g' := gb509) (o := .cells #[.int .i64 0, .int .i64 0, .int .i64 0, .int .i64 0, .float .f64 0, .slice none 0 0, .int .i64 0, .int .i64 0, .float .f64 0, .slice none 0 0] 49 (0, 0)) (bup BK509.out) NB509_0.out (by simp)); have n1_ := Aside0.mk (Kd.R_lower ho0 (keep_size (w := w) (g := g) (row := none) (by repeat (first | (with_reducible first | exact HK.out | apply KeepBut.set_ | apply keep_drewN | apply keep_drew | apply keep_alloc | refine keep_far ?_ GW509.out _) | exact HK.out)))); have n2_ := Aside0.mk (KeepBut.trans (by repeat (first | (with_reducible first | exact HK.out | apply KeepBut.set_ | apply keep_drewN | apply keep_drew | apply keep_alloc | refine keep_far ?_ GW509.out _) | exact HK.out)) hk (.inl rfl)); have n3_ := Aside0.mk (hb); have n4_ := Aside0.mk (hi); clear BK509; clear HK; clear HB; clear HI0; have BK509 := n0_; have HO518 := n1_; have HK := n2_; have HB := n3_; have HI0 := n4_; clear n0_ n1_ n2_ n3_ n4_; (try clear hb); (try clear hb2); (try clear hk); (try clear hi); (try clear ho0)) | ((with_reducible refine gate_callee (f := 66) rfl ?_); refine goesL_ (some 10) rfl rfl Try.func66 (by kernel_rfl) rfl #[.pointer (some ⟨g, 0, none⟩)] rfl (by (try simp only [List.map_toArray, List.map_cons, List.map_nil]); first | done | rfl) ?_; (with_reducible refine (spec_l3value.callsC k g s0_0 t519 t520 t521 t522 t523 t524 t527 t528 w0 _ ?side1 ?side2 A4.out).mono ?_); (case side1 => repeat (first | (with_reducible first | exact HI0.out | apply IsS83.alloc | apply IsS83.drewN | apply IsS83.drew | apply IsS83.set_1 | apply IsS83.set_2 | refine IsS83.far ?_ NB0_509.out _) | exact HI0.out)); (case side2 => repeat (first | (with_reducible first | exact HB.out | apply h1 | apply h2 | apply h3 | refine h4 ?_ (IsS83.ge HI0.out) | refine h4 ?_ GE509.out) | exact HB.out)); rintro e w11 ⟨b523, v525, rfl, ho0, hi, hb, hk, ⟨⟨hcnb523, hltb523⟩⟩⟩; refine ⟨_, rfl, ?_⟩; have LTb523 := Aside0.mk hltb523; clear hltb523; subst hcnb523; have n0_ := Aside0.mk (KeepBut.blk hk (g' := gb509) (o := .cells #[.int .i64 0, .int .i64 0, .int .i64 0, .int .i64 0, .float .f64 0, .slice none 0 0, .int .i64 0, .int .i64 0, .float .f64 0, .slice none 0 0] 49 (0, 0)) (bup BK509.out) NB509_0.out (by simp)); have n1_ := Aside0.mk (Kd.R_mono (Kd.R_told (Kd.R_oldK (IsS83.apart (show IsS83 w0 _ g s0_0 t519 t520 from by repeat (first | (with_reducible first | exact HI0.out | apply IsS83.alloc | apply IsS83.drewN | apply IsS83.drew | apply IsS83.set_1 | apply IsS83.set_2 | refine IsS83.far ?_ NB0_509.out _) | exact HI0.out)) (Kd.rup HO518.out) (by decide)) hk) (Kd.R_base ho0)) (fun _ h_ => h_.1)); have n2_ := Aside0.mk (Kd.R_lower (Kd.R_new' ho0 (Kd.R_lt (Kd.rup HO518.out))) (keep_size (w := w) (g := g) (row := none) (by repeat (first | (with_reducible first | exact HK.out | apply KeepBut.set_ | apply keep_drewN | apply keep_drew | apply keep_alloc | refine keep_far ?_ GW509.out _) | exact HK.out)))); have n3_ := Aside0.mk (KeepBut.trans (by repeat (first | (with_reducible first | exact HK.out | apply KeepBut.set_ | apply keep_drewN | apply keep_drew | apply keep_alloc | refine keep_far ?_ GW509.out _) | exact HK.out)) hk (.inl rfl)); have n4_ := Aside0.mk (hb); have n5_ := Aside0.mk (hi); clear BK509; clear HO518; clear HK; clear HB; clear HI0; have BK509 := n0_; have HO518 := n1_; have HO526 := n2_; have HK := n3_; have HB := n4_; have HI0 := n5_; clear n0_ n1_ n2_ n3_ n4_ n5_; (try clear hb); (try clear hb2); (try clear hk); (try clear hi); (try clear ho0); obtain ⟨Ao12, co12, eo12⟩ := Kd.R_slice HO526.out; subst eo12; obtain ⟨Ao13, co13, eo13⟩ := Kd.R_slice HO518.out; subst eo13) | ((with_reducible refine gate_dst (N := 3) rfl ?_); refine box_event ?hg (N := 3) ?hd (cs := #[.int .i64 0, .int .i64 0, .int .i64 0, .int .i64 0, .float .f64 0, .slice none 0 0, .int .i64 0, .int .i64 0, .float .f64 0, .slice none 0 0]) (t := 49) ?hr ?_; (case hd => rfl); (case hg => rfl); (case hr => first | (go_simp; done) | (go_simp; rfl)); intro gb529 hg w14 hbox hb; have n0_ := Aside0.mk (Kd.R_below (Kd.rup HO518.out) hb); have n1_ := Aside0.mk (Kd.R_below (Kd.rup HO526.out) hb); have n2_ := Aside0.mk (IsS83.below (by repeat (first | (with_reducible first | exact HI0.out | apply IsS83.alloc | apply IsS83.drewN | apply IsS83.drew | apply IsS83.set_1 | apply IsS83.set_2 | refine IsS83.far ?_ NB0_509.out _) | exact HI0.out)) hb); have n3_ := Aside0.mk (blk_below (bup BK509.out) hb); have n4_ := Aside0.mk (KeepBut.trans (by repeat (first | (with_reducible first | exact HK.out | apply KeepBut.set_ | apply keep_drewN | apply keep_drew | apply keep_alloc | refine keep_far ?_ GW509.out _) | exact HK.out)) (KeepBut.of_below hb g none) (.inl rfl)); have n5_ := Aside0.mk (below_step (by repeat (first | (with_reducible first | exact HB.out | apply h1 | apply h2 | apply h3 | refine h4 ?_ (IsS83.ge HI0.out) | refine h4 ?_ GE509.out) | exact HB.out)) hb); have n6_ := Aside0.mk (hbox); have n7_ := Geq.mk ((by rw [hg]; exact (keep_size (w := w) (g := g) (row := none) (by repeat (first | (with_reducible first | exact HK.out | apply KeepBut.set_ | apply keep_drewN | apply keep_drew | apply keep_alloc | refine keep_far ?_ GW509.out _) | exact HK.out))) : w.heap.size ≤ gb529)); have n8_ := Aside0.mk ((Nat.le_trans HW0.out (by rw [hg]; exact (keep_size (w := w) (g := g) (row := none) (by repeat (first | (with_reducible first | exact HK.out | apply KeepBut.set_ | apply keep_drewN | apply keep_drew | apply keep_alloc | refine keep_far ?_ GW509.out _) | exact HK.out))) : w.heap.size ≤ gb529) : w0.heap.size ≤ gb529)); have n9_ := Neq.mk ((by rw [hg]; exact Nat.ne_of_lt (blk_lt (g := gb509) (o := .cells #[.int .i64 0, .int .i64 0, .int .i64 0, .int .i64 0, .float .f64 0, .slice none 0 0, .int .i64 0, .int .i64 0, .float .f64 0, .slice none 0 0] 49 (0, 0)) (bup BK509.out)) : gb509 ≠ gb529)); have n10_ := Neq.mk ((by rw [hg]; exact Nat.ne_of_gt (blk_lt (g := gb509) (o := .cells #[.int .i64 0, .int .i64 0, .int .i64 0, .int .i64 0, .float .f64 0, .slice none 0 0, .int .i64 0, .int .i64 0, .float .f64 0, .slice none 0 0] 49 (0, 0)) (bup BK509.out)) : gb529 ≠ gb509)); have n11_ := Aside0.mk ((by rw [hg]; exact Nat.ne_of_lt (IsS83.lt (show IsS83 w0 _ g s0_0 t527 t528 from by repeat (first | (with_reducible first | exact HI0.out | apply IsS83.alloc | apply IsS83.drewN | apply IsS83.drew | apply IsS83.set_1 | apply IsS83.set_2 | refine IsS83.far ?_ NB0_509.out _) | exact HI0.out))) : g ≠ gb529)); have n12_ := Aside0.mk ((by rw [hg]; exact Nat.ne_of_gt (IsS83.lt (show IsS83 w0 _ g s0_0 t527 t528 from by repeat (first | (with_reducible first | exact HI0.out | apply IsS83.alloc | apply IsS83.drewN | apply IsS83.drew | apply IsS83.set_1 | apply IsS83.set_2 | refine IsS83.far ?_ NB0_509.out _) | exact HI0.out))) : gb529 ≠ g)); clear HO518; clear HO526; clear HI0; clear BK509; clear HK; clear HB; have HO518 := n0_; have HO526 := n1_; have HI0 := n2_; have BK509 := n3_; have HK := n4_; have HB := n5_; have BK529 := n6_; have GW529 := n7_; have GE529 := n8_; have NB509_529 := n9_; have NB529_509 := n10_; have NB0_529 := n11_; have NB529_0 := n12_; clear n0_ n1_ n2_ n3_ n4_ n5_ n6_ n7_ n8_ n9_ n10_ n11_ n12_; clear hb hbox hg; have hnb15 := NB529_509.out; have hnc15 := NB509_529.out; have hnb16 := NB529_0.out; have hnc16 := NB0_529.out; obtain ⟨hcz17_0, hcz17_1, hcz17_2, hcz17_3, hcz17_4, hcz17_5, hcz17_6, hcz17_7, hcz17_8, hcz17_9⟩ := blk_cells10 BK529.out; obtain ⟨hfz17_0, hfz17_1, hfz17_2, hfz17_3, hfz17_4, hfz17_5, hfz17_6, hfz17_7, hfz17_8, hfz17_9⟩ := blk_frozens10 BK529.out) | ((fail_if_success (with_reducible refine gate_callee (f := 67) rfl ?_)); first | go_values | go_skip | go_guarded | go_step | go_upon | go_back | (simp only [Int.not_lt, Int.not_le] at *; go_simp)))
 (with_reducible refine gate_callee (f := 67) rfl ?_); refine goesL_ (some 13) rfl rfl Try.func67 (by kernel_rfl) rfl #[.pointer (some ⟨g, 0, none⟩), .int .i64 3] rfl (by (try simp only [List.map_toArray, List.map_cons, List.map_nil]); first | done | rfl) ?_; (with_reducible refine (spec_l1Once.calls g s0_0 t527 t528 3 t530 t531 t532 w0 _ ?side1 ?side2 A5.out).mono ?_); (case side1 => repeat (first | (with_reducible first | exact HI0.out | apply IsS83.alloc | apply IsS83.drewN | apply IsS83.drew | apply IsS83.set_1 | apply IsS83.set_2 | refine IsS83.far ?_ NB0_509.out _ | refine IsS83.far ?_ NB0_529.out _) | exact HI0.out)); (case side2 => repeat (first | (with_reducible first | exact HB.out | apply h1 | apply h2 | apply h3 | refine h4 ?_ (IsS83.ge HI0.out) | refine h4 ?_ GE509.out | refine h4 ?_ GE529.out) | exact HB.out)); rintro e w18 ⟨rfl, hi, hb, hk⟩; refine ⟨_, rfl, ?_⟩; have n0_ := Aside0.mk (KeepBut.blk hk (g' := gb509) (o := .cells #[.int .i64 0, .int .i64 0, .int .i64 0, .int .i64 0, .float .f64 0, .slice none 0 0, .int .i64 0, .int .i64 0, .float .f64 0, .slice none 0 0] 49 (0, 0)) (bput BK509.out) NB509_0.out (by simp)); have n1_ := Aside0.mk (Kd.R_mono (Kd.R_keep (IsS83.apart (show IsS83 w0 _ g s0_0 t527 t528 from by repeat (first | (with_reducible first | exact HI0.out | apply IsS83.alloc | apply IsS83.drewN | apply IsS83.drew | apply IsS83.set_1 | apply IsS83.set_2 | refine IsS83.far ?_ NB0_509.out _ | refine IsS83.far ?_ NB0_529.out _) | exact HI0.out)) ((Kd.roff1 HO518.out BK529.out (by decide))) (by decide)) hk (fun _ h => h.2)) (fun _ h => h.1)); have n2_ := Aside0.mk (Kd.R_mono (Kd.R_keep (IsS83.apart (show IsS83 w0 _ g s0_0 t527 t528 from by repeat (first | (with_reducible first | exact HI0.out | apply IsS83.alloc | apply IsS83.drewN | apply IsS83.drew | apply IsS83.set_1 | apply IsS83.set_2 | refine IsS83.far ?_ NB0_509.out _ | refine IsS83.far ?_ NB0_529.out _) | exact HI0.out)) ((Kd.roff1 HO526.out BK529.out (by decide))) (by decide)) hk (fun _ h => h.2)) (fun _ h => h.1)); have n3_ := Aside0.mk (KeepBut.blk hk (g' := gb529) (o := .cells #[.int .i64 (wrap64 (1 + t510)), .int .i64 0, .int .i64 t513, .int .i64 t514, .float .f64 b515, .slice Ao13 t516.length co13, .int .i64 t521, .int .i64 t522, .float .f64 b523, .slice Ao12 t524.length co12] 49 (0, 0)) (bput BK529.out) NB529_0.out (by simp)); have n4_ := Aside0.mk (KeepBut.trans (by repeat (first | (with_reducible first | exact HK.out | apply KeepBut.set_ | apply keep_drewN | apply keep_drew | apply keep_alloc | refine keep_far ?_ GW509.out _ | refine keep_far ?_ GW529.out _) | exact HK.out)) hk (.inl rfl)); have n5_ := Aside0.mk (hb); have n6_ := Aside0.mk (hi); clear BK509; clear HO518; clear HO526; clear BK529; clear HK; clear HB; clear HI0; have BK509 := n0_; have HO518 := n1_; have HO526 := n2_; have BK529 := n3_; have HK := n4_; have HB := n5_; have HI0 := n6_; clear n0_ n1_ n2_ n3_ n4_ n5_ n6_; (try clear hb); (try clear hb2); (try clear hk)
 by_cases c6 : t530 = true
 ·subst c6
  rw [if_pos rfl] at H
  (try dsimp only at H)
  replace H := Option.bind_eq_some_iff.mp H
  obtain ⟨⟨t533, t534, t535⟩, A70, H⟩ := H
  (try dsimp only at H)
  have A7 := Aside0.mk A70
  clear A70
  simp only [Option.some.injEq, Prod.mk.injEq] at H
  obtain ⟨rfl, rfl, rfl, rfl, rfl, rfl, rfl, rfl, rfl, rfl, rfl, rfl⟩ := H
  (try clear hi)
  try go_wp2_with (first | ((with_reducible refine gate_callee (f := 59) rfl ?_); refine goesL_ (some 15) rfl rfl Try.func59 (by kernel_rfl) rfl #[.pointer (some ⟨g, 0, none⟩), .int .i64 9] rfl (by (try simp only [List.map_toArray, List.map_cons, List.map_nil]); first | done | rfl) ?_; (with_reducible refine (spec_l1Below.calls g s0_0 t531 t532 9 t533 t534 t535 w0 _ ?side1 ?side2 A7.out).mono ?_); (case side1 => repeat (first | (with_reducible first | exact HI0.out | apply IsS83.alloc | apply IsS83.drewN | apply IsS83.drew | apply IsS83.set_1 | apply IsS83.set_2 | refine IsS83.far ?_ NB0_509.out _ | refine IsS83.far ?_ NB0_529.out _) | exact HI0.out)); (case side2 => repeat (first | (with_reducible first | exact HB.out | apply h1 | apply h2 | apply h3 | refine h4 ?_ (IsS83.ge HI0.out) | refine h4 ?_ GE509.out | refine h4 ?_ GE529.out) | exact HB.out)); rintro e w19 ⟨rfl, hi, hb, hk⟩; refine ⟨_, rfl, ?_⟩; have n0_ := Aside0.mk (KeepBut.blk hk (g' := gb509) (o := .cells #[.int .i64 0, .int .i64 0, .int .i64 0, .int .i64 0, .float .f64 0, .slice none 0 0, .int .i64 0, .int .i64 0, .float .f64 0, .slice none 0 0] 49 (0, 0)) (bup BK509.out) NB509_0.out (by simp)); have n1_ := Aside0.mk (Kd.R_mono (Kd.R_keep (IsS83.apart (show IsS83 w0 _ g s0_0 t531 t532 from by repeat (first | (with_reducible first | exact HI0.out | apply IsS83.alloc | apply IsS83.drewN | apply IsS83.drew | apply IsS83.set_1 | apply IsS83.set_2 | refine IsS83.far ?_ NB0_509.out _ | refine IsS83.far ?_ NB0_529.out _) | exact HI0.out)) (Kd.rup HO518.out) (by decide)) hk (fun _ h => h.2)) (fun _ h => h.1)); have n2_ := Aside0.mk (Kd.R_mono (Kd.R_keep (IsS83.apart (show IsS83 w0 _ g s0_0 t531 t532 from by repeat (first | (with_reducible first | exact HI0.out | apply IsS83.alloc | apply IsS83.drewN | apply IsS83.drew | apply IsS83.set_1 | apply IsS83.set_2 | refine IsS83.far ?_ NB0_509.out _ | refine IsS83.far ?_ NB0_529.out _) | exact HI0.out)) (Kd.rup HO526.out) (by decide)) hk (fun _ h => h.2)) (fun _ h => h.1)); have n3_ := Aside0.mk (KeepBut.blk hk (g' := gb529) (o := .cells #[.int .i64 (wrap64 (1 + t510)), .int .i64 0, .int .i64 t513, .int .i64 t514, .float .f64 b515, .slice Ao13 t516.length co13, .int .i64 t521, .int .i64 t522, .float .f64 b523, .slice Ao12 t524.length co12] 49 (0, 0)) (bup BK529.out) NB529_0.out (by simp)); have n4_ := Aside0.mk (KeepBut.trans (by repeat (first | (with_reducible first | exact HK.out | apply KeepBut.set_ | apply keep_drewN | apply keep_drew | apply keep_alloc | refine keep_far ?_ GW509.out _ | refine keep_far ?_ GW529.out _) | exact HK.out)) hk (.inl rfl)); have n5_ := Aside0.mk (hb); have n6_ := Aside0.mk (hi); clear BK509; clear HO518; clear HO526; clear BK529; clear HK; clear HB; clear HI0; have BK509 := n0_; have HO518 := n1_; have HO526 := n2_; have BK529 := n3_; have HK := n4_; have HB := n5_; have HI0 := n6_; clear n0_ n1_ n2_ n3_ n4_ n5_ n6_; (try clear hb); (try clear hb2); (try clear hk); (try clear hi); obtain ⟨hcz20_0, hcz20_1, hcz20_2, hcz20_3, hcz20_4, hcz20_5, hcz20_6, hcz20_7, hcz20_8, hcz20_9⟩ := blk_cells10 BK529.out; obtain ⟨hfz20_0, hfz20_1, hfz20_2, hfz20_3, hfz20_4, hfz20_5, hfz20_6, hfz20_7, hfz20_8, hfz20_9⟩ := blk_frozens10 BK529.out; have hnb21 := NB509_0.out; have hnc21 := NB0_509.out; obtain ⟨hcz22_0, hcz22_1, hcz22_2, hcz22_3, hcz22_4, hcz22_5, hcz22_6, hcz22_7, hcz22_8, hcz22_9⟩ := blk_cells10 BK509.out; obtain ⟨hfz22_0, hfz22_1, hfz22_2, hfz22_3, hfz22_4, hfz22_5, hfz22_6, hfz22_7, hfz22_8, hfz22_9⟩ := blk_frozens10 BK509.out))
  refine bodyPost_ret (results_cell_row rfl _ _ gb509 49 #[.int .i64 (wrap64 (1 + t510)), .int .i64 (wrap64 (1 + t533)), .int .i64 t513, .int .i64 t514, .float .f64 b515, .slice Ao13 t516.length co13, .int .i64 t521, .int .i64 t522, .float .f64 b523, .slice Ao12 t524.length co12] (0, 0) _ rfl (bput BK509.out) Try.underlying49 rfl (by kernel_rfl)) rfl ?_
  exact ⟨_, _, _, _, by first | rfl | (simp [errW_none, errW_some] <;> rfl) | (simp [*, errW_none, errW_some] <;> rfl), (Kd.R_mono (Kd.roff2 HO518.out BK529.out (by decide) BK509.out (by decide)) (fun _ hk => hk.2)), (Kd.R_mono (Kd.roff2 HO526.out BK529.out (by decide) BK509.out (by decide)) (fun _ hk => hk.2)), by repeat (first | (with_reducible first | exact HI0.out | apply IsS83.alloc | apply IsS83.drewN | apply IsS83.drew | apply IsS83.set_1 | apply IsS83.set_2 | refine IsS83.far ?_ NB0_509.out _ | refine IsS83.far ?_ NB0_529.out _) | exact HI0.out), by repeat (first | (with_reducible first | exact HB.out | apply h1 | apply h2 | apply h3 | refine h4 ?_ (IsS83.ge HI0.out) | refine h4 ?_ GE509.out | refine h4 ?_ GE529.out) | exact HB.out), by repeat (first | (with_reducible first | exact HK.out | apply KeepBut.set_ | apply keep_drewN | apply keep_drew | apply keep_alloc | refine keep_far ?_ GW509.out _ | refine keep_far ?_ GW529.out _) | exact HK.out), (by first | exact ⟨⟨rfl, LTb515.out⟩⟩ | exact ⟨⟨rfl, LTb523.out⟩⟩ | exact ⟨⟨by first | rfl | decide, by decide⟩⟩ | exact ⟨⟨rfl, fquo_lt (by assumption)⟩⟩), (by first | exact ⟨⟨rfl, LTb515.out⟩⟩ | exact ⟨⟨rfl, LTb523.out⟩⟩ | exact ⟨⟨by first | rfl | decide, by decide⟩⟩ | exact ⟨⟨rfl, fquo_lt (by assumption)⟩⟩)⟩
 ·replace c6 := Bool.eq_false_iff.mpr c6
  subst c6
  rw [if_neg (show ¬ (false = true) by decide)] at H
  (try dsimp only at H)
  simp only [Option.some.injEq, Prod.mk.injEq] at H
  obtain ⟨rfl, rfl, rfl, rfl, rfl, rfl, rfl, rfl, rfl, rfl, rfl, rfl⟩ := H
  (try clear hi); obtain ⟨hcz34_0, hcz34_1, hcz34_2, hcz34_3, hcz34_4, hcz34_5, hcz34_6, hcz34_7, hcz34_8, hcz34_9⟩ := blk_cells10 BK529.out; obtain ⟨hfz34_0, hfz34_1, hfz34_2, hfz34_3, hfz34_4, hfz34_5, hfz34_6, hfz34_7, hfz34_8, hfz34_9⟩ := blk_frozens10 BK529.out; have hnb35 := NB509_0.out; have hnc35 := NB0_509.out; obtain ⟨hcz36_0, hcz36_1, hcz36_2, hcz36_3, hcz36_4, hcz36_5, hcz36_6, hcz36_7, hcz36_8, hcz36_9⟩ := blk_cells10 BK509.out; obtain ⟨hfz36_0, hfz36_1, hfz36_2, hfz36_3, hfz36_4, hfz36_5, hfz36_6, hfz36_7, hfz36_8, hfz36_9⟩ := blk_frozens10 BK509.out
  try go_wp2
  refine bodyPost_ret (results_cell_row rfl _ _ gb509 49 #[.int .i64 (wrap64 (1 + t510)), .int .i64 0, .int .i64 t513, .int .i64 t514, .float .f64 b515, .slice Ao13 t516.length co13, .int .i64 t521, .int .i64 t522, .float .f64 b523, .slice Ao12 t524.length co12] (0, 0) _ rfl (bput BK509.out) Try.underlying49 rfl (by kernel_rfl)) rfl ?_
  exact ⟨_, _, _, _, by first | rfl | (simp [errW_none, errW_some] <;> rfl) | (simp [*, errW_none, errW_some] <;> rfl), (Kd.R_mono (Kd.roff1 HO518.out BK509.out (by decide)) (fun _ hk => hk.2)), (Kd.R_mono (Kd.roff1 HO526.out BK509.out (by decide)) (fun _ hk => hk.2)), by repeat (first | (with_reducible first | exact HI0.out | apply IsS83.alloc | apply IsS83.drewN | apply IsS83.drew | apply IsS83.set_1 | apply IsS83.set_2 | refine IsS83.far ?_ NB0_509.out _ | refine IsS83.far ?_ NB0_529.out _) | exact HI0.out), by repeat (first | (with_reducible first | exact HB.out | apply h1 | apply h2 | apply h3 | refine h4 ?_ (IsS83.ge HI0.out) | refine h4 ?_ GE509.out | refine h4 ?_ GE529.out) | exact HB.out), by repeat (first | (with_reducible first | exact HK.out | apply KeepBut.set_ | apply keep_drewN | apply keep_drew | apply keep_alloc | refine keep_far ?_ GW509.out _ | refine keep_far ?_ GW529.out _) | exact HK.out), (by first | exact ⟨⟨rfl, LTb515.out⟩⟩ | exact ⟨⟨rfl, LTb523.out⟩⟩ | exact ⟨⟨by first | rfl | decide, by decide⟩⟩ | exact ⟨⟨rfl, fquo_lt (by assumption)⟩⟩), (by first | exact ⟨⟨rfl, LTb515.out⟩⟩ | exact ⟨⟨rfl, LTb523.out⟩⟩ | exact ⟨⟨by first | rfl | decide, by decide⟩⟩ | exact ⟨⟨rfl, fquo_lt (by assumption)⟩⟩)⟩
end Go.Proofs.Ytjjkhlphdbmdfaa.PFnTuples
