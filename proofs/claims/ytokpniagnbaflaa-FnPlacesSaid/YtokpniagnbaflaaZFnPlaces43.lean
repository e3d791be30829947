import Derived.Test.YtokpniagnbaflaaZFnPlaces29
import Derived.Test.YtokpniagnbaflaaZFnPlacesA
import Derived.Test.YtokpniagnbaflaaZFnPlaces32
import Derived.Test.YtokpniagnbaflaaZFnPlaces33
import Derived.Test.YtokpniagnbaflaaZFnPlaces35
import Derived.Test.YtokpniagnbaflaaZFnPlaces42
namespace Go.Proofs.Ytokpniagnbaflaa.PFnPlaces
open Go.RowKit Go.Proofs.YtokpniagnbaflaaW.PrintWords Go.Proofs.YtokpniagnbaflaaW.PrintLast Go.Proofs.YtokpniagnbaflaaW.PrintMore
attribute [local go_sem] max2_int min2_int max_two min_two max_three min_three max_four min_four   -- for this text's walks alone
attribute [local go_sem high] fl_eql fl_neq fl_lss fl_leq fl_gtr fl_geq fl_add fl_sub fl_mul fl_quo fl_neg fl_ofInt fl_toInt fl_store sub_sign fl_nan_quo fl_nan_add fl_nan_mul fl_nan_sub
open Go.Proofs.YtokpniagnbaflaaW.PrintWords renaming below_alloc → h1, pw_below_drewN → h2, below_drew1 → h3, below_set → h4, blk_drewN → b1, blk_drew → b2, blk_alloc → b3
set_option linter.unusedVariables false
set_option linter.unusedSimpArgs false
def spec_l7bent.l0 : Nat → List Int → Int → Int → Int → List (List Int) → Option (Int × (List (List Int)) × Int × Int)
 | 0, _, _, _, _, _ => none
 | k + 1, x1000, x1001, x1002, x567000, x567001 => (spec_l1Below.f x1000 x1001 x1002 2).bind fun bt580 => (if (x567001.length : Int) < (wrap64 (16 + bt580.1)) then (if x567001.length < 5864062014805 then (spec_l7bent.l0 k x1000 bt580.2.1 bt580.2.2 x567000 (x567001 ++ [(([7] : List Int))])) else (none)) else (some (x567000, x567001, bt580.2.1, bt580.2.2)))
def spec_l7bent.f (k : Nat) (s0_0 : List Int) (s0_1 : Int) (s0_2 : Int) (a1_0 : Int) (l1_1 : List (List Int)) : Option (Int × (List (List Int)) × Int × Int) := (some (a1_0, l1_1) : Option (Int × List (List Int))).bind fun bt562 => ((spec_l1Below.f s0_0 s0_1 s0_2 14).bind fun bt568 => (if bt568.1 = 0 then ((spec_l1PickInt.f s0_0 bt568.2.1 bt568.2.2 (([(-1), 1000000, 1000001] : List Int))).bind fun bt574 => (some (bt574.1, bt562.2, bt574.2.1, bt574.2.2))) else (if bt568.1 = 1 then (if bt562.2.length < 5864062014805 then (some (bt562.1, (bt562.2 ++ [[]]), bt568.2.1, bt568.2.2)) else (none)) else (if bt568.1 = 2 then (spec_l7bent.l0 k s0_0 bt568.2.1 bt568.2.2 bt562.1 bt562.2) else (if bt568.1 = 3 then ((spec_l1Below.f s0_0 bt568.2.1 bt568.2.2 2).bind fun bt589 => (if 0 ≤ (wrap64 (92 + bt589.1)) then (if (wrap64 (92 + bt589.1) : Int).toNat ≤ 281474976710656 then (if bt562.2.length < 5864062014805 then (some (bt562.1, (bt562.2 ++ [(List.replicate (wrap64 (92 + bt589.1) : Int).toNat 0)]), bt589.2.1, bt589.2.2)) else (none)) else (none)) else (none))) else (if bt568.1 = 4 then (if 92 ≤ 281474976710656 then ((some (([(List.replicate 92 0), (List.replicate 92 0)] : List (List Int)) : List (List Int))).bind fun y604 => (if bt562.2.length + y604.length < 5864062014805 then (some (bt562.1, (bt562.2 ++ y604), bt568.2.1, bt568.2.2)) else (none))) else (none)) else (some (bt562.1, bt562.2, bt568.2.1, bt568.2.2))))))))
theorem spec_l7bent.mono_l : ∀ k, (∀ y0 y1 y2 y3 y4, LeO (spec_l7bent.l0 k y0 y1 y2 y3 y4) (spec_l7bent.l0 (k + 1) y0 y1 y2 y3 y4))
 | 0 => fun _ _ _ _ _ r h => by simp [spec_l7bent.l0] at h
 | k + 1 => by
  have ih0 := spec_l7bent.mono_l k
  ·intro y0 y1 y2 y3 y4
   unfold spec_l7bent.l0
   repeat' with_reducible first | exact ih0 _ _ _ _ _ | exact spec_l7copy.mono _ _ _ | exact LeO.refl _ | exact LeO.none _ | refine LeO.ite ?_ ?_ | refine LeO.bind ?_ (fun _ => ?_)
theorem spec_l7bent.mono : ∀ a0 a1 a2 a3 a4 k, LeO (spec_l7bent.f k a0 a1 a2 a3 a4) (spec_l7bent.f (k + 1) a0 a1 a2 a3 a4) := by
 intro a0 a1 a2 a3 a4 k
 have ih0 := spec_l7bent.mono_l k
 unfold spec_l7bent.f
 repeat' with_reducible first | exact ih0 _ _ _ _ _ | exact spec_l7copy.mono _ _ _ | exact LeO.refl _ | exact LeO.none _ | refine LeO.ite ?_ ?_ | refine LeO.bind ?_ (fun _ => ?_)
def spec_l7bent.T10 : Bool × List (List Nat × List Nat) := (true, [([], []), ([0], [0]), ([], []), ([2], [2]), ([3], [3]), ([4, 4], [4]), ([5], [5]), ([1, 6, 3], [1, 6]), ([0, 1, 2, 3, 4, 5, 6, 7], []), ([8, 7, 7, 0, 1, 2, 3, 4, 5, 6, 7], [7, 8])])
def spec_l7bent.B10 : List Nat := [0, 1, 0, 4, 12, 28, 60, 127, 255, 511]
theorem spec_l7bent.tab10 : rtab .any (opsOf Try.f60 10) = spec_l7bent.T10 := by kernel_rfl
theorem spec_l7bent.bits10 : waitsOk spec_l7bent.T10.2 spec_l7bent.B10 = true := by kernel_rfl
def spec_l7bent.T12 : Bool × List (List Nat × List Nat) := (true, [([], []), ([0], [0]), ([], []), ([], []), ([2, 3], [2, 3]), ([1, 4], [1, 4]), ([0, 1, 2, 3, 4, 5], []), ([6, 5, 5, 0, 1, 2, 3, 4, 5], [5, 6])])
def spec_l7bent.B12 : List Nat := [0, 1, 0, 0, 12, 31, 63, 127]
theorem spec_l7bent.tab12 : rtab .any (opsOf Try.f60 12) = spec_l7bent.T12 := by kernel_rfl
theorem spec_l7bent.bits12 : waitsOk spec_l7bent.T12.2 spec_l7bent.B12 = true := by kernel_rfl
set_option maxHeartbeats 8000000 in
set_option maxRecDepth 100000 in
theorem spec_l7bent.calls (k : Nat) (g : Nat) (s0_0 : List Int) (s0_1 : Int) (s0_2 : Int) (a1_0 : Int) (A1_1 : Option Addr) (c1_1 : Nat) (l1_1 : List (List Int)) (r1 : Int) (r2 : List (List Int)) (r3 : Int) (r4 : Int) (w0 w wa : World) (gb560 gb561 : Nat) (x0_ x1_ y0_ y1_ : Value) (hL : w0.heap.size ≤ w.heap.size) (hI : IsS82 w0 wa g s0_0 s0_1 s0_2) (hB : Below w0.heap.size w0 wa) (hK : KeepBut w wa g none) (hO : Kd.N (Kd.slice 5 (Kd.int .u8)) 36 wa w.heap.size (fun k_ => (w.heap.size ≤ k_) ∧ k_ ≠ gb560 ∧ k_ ≠ gb561 ∧ k_ ≠ g) (.slice A1_1 l1_1.length c1_1) l1_1) (hX : wa.heap[gb560]? = some (.cells #[x0_, x1_] 27 (0, 0))) (hY : wa.heap[gb561]? = some (.cells #[y0_, y1_] 27 (0, 0))) (hgx : w.heap.size ≤ gb560) (hgy : w.heap.size ≤ gb561) (hxy : gb560 ≠ gb561) (hxg : gb560 ≠ g) (hyg : gb561 ≠ g) (h : spec_l7bent.f k s0_0 s0_1 s0_2 a1_0 l1_1 = some (r1, r2, r3, r4)) :
  Calls Try.prog 60 #[.pointer (some ⟨g, 0, none⟩), .agg #[.int .i64 a1_0, .slice A1_1 l1_1.length c1_1]] wa fun e w' => ∃ v1_ : Value, e = .returned (.agg #[.int .i64 r1, v1_]) ∧ Kd.N (Kd.slice 5 (Kd.int .u8)) 36 w' w.heap.size (fun k_ => (w.heap.size ≤ k_) ∧ k_ ≠ gb560 ∧ k_ ≠ gb561 ∧ k_ ≠ g) v1_ r2 ∧ IsS82 w0 w' g s0_0 r3 r4 ∧ Below w0.heap.size w0 w' ∧ KeepBut w w' g none ∧ w'.heap[gb560]? = some (.cells #[x0_, x1_] 27 (0, 0)) ∧ w'.heap[gb561]? = some (.cells #[y0_, y1_] 27 (0, 0)) := by
 have hu27 := Try.underlying27
 have HI0 := ZA hI
 have HK := ZA hK
 have HL := ZA hL
 clear hI
 have HW0 := ZA hL
 have BK560 := ZA hX
 have BK561 := ZA hY
 have GW560 := Geq.mk hgx
 have GW561 := Geq.mk hgy
 have GE560 := ZA (Nat.le_trans hL hgx)
 have GE561 := ZA (Nat.le_trans hL hgy)
 have NB560_561 := Neq.mk hxy
 have NB561_560 := Neq.mk hxy.symm
 have NB0_560 := ZA hxg.symm
 have NB560_0 := ZA hxg
 have NB0_561 := ZA hyg.symm
 have NB561_0 := ZA hyg
 have HO565 := ZA hO
 clear hO hX hY hgx hgy hxy hxg hyg hK hL
 have HB := ZA hB
 clear hB
 have H := h
 clear h
 unfold spec_l7bent.f at H
 replace H := Option.bind_eq_some_iff.mp H
 obtain ⟨⟨t562, t563⟩, A30, H⟩ := H
 obtain ⟨e1_, e2_⟩ : t562 = a1_0 ∧ t563 = l1_1 := by have q_ := Option.some.inj A30; simp only [Prod.mk.injEq] at q_; exact ⟨q_.1.symm, q_.2.symm⟩
 subst e1_
 subst e2_
 (try dsimp only at H)
 have A3 := ZA A30
 clear A30
 replace H := Option.bind_eq_some_iff.mp H
 obtain ⟨⟨t568, t569, t570⟩, A40, H⟩ := H
 (try dsimp only at H)
 have A4 := ZA A40
 clear A40
 by_cases c5 : t568 = 0
 ·rw [if_pos c5] at H
  have c5b0 : (t568 == 0) = true := beq_iff_eq.mpr c5
  have c5b1 : (t568 != 0) = false := bne_eq_false_iff_eq.mpr c5
  clear c5
  obtain ⟨y571, hy571⟩ : ∃ y_ : List Int, y_ = (([(-1), 1000000, 1000001] : List Int)) := ⟨_, rfl⟩
  replace H : ((spec_l1PickInt.f s0_0 t569 t570 y571).bind fun bt574 => (some (bt574.1, t563, bt574.2.1, bt574.2.2))) = some (r1, r2, r3, r4) := by first | (rw [hy571]; with_reducible exact H) | (have H2_ := (Option.bind_some _ _).symm.trans H; rw [hy571]; with_reducible exact H2_) | (have H2_ := (Option.bind_some _ _).symm.trans H; with_reducible exact H2_) | with_reducible exact H | (rw [hy571]; exact H) | exact H
  have Ny571 := ZA hy571
  clear hy571
  replace H := Option.bind_eq_some_iff.mp H
  obtain ⟨⟨t574, t575, t576⟩, A60, H⟩ := H
  (try dsimp only at H)
  have A6 := ZA A60
  clear A60
  simp only [Option.some.injEq, Prod.mk.injEq] at H
  obtain ⟨rfl, rfl, rfl, rfl⟩ := H
  go_enter Try.func60, Try.ntmps60
  obtain ⟨w9, ew_⟩ : ∃ w_, w_ = wa := ⟨_, rfl⟩
  subst ew_
  generalize (Value.slice A1_1 t563.length c1_1) = v564 at HO565 ⊢
  obtain ⟨Ao10, co10, eo10⟩ := Kd.N_slice HO565.out
  subst eo10
  go_wp2_with (first | ((with_reducible refine gate_dst (N := 3) rfl ?_); refine box_event ?hg (N := 3) ?hd (cs := #[.int .i64 t562, .slice Ao10 t563.length co10]) (t := 27) ?hr ?_; (case hd => rfl); (case hg => rfl); (case hr => first | (go_simp; done) | (go_simp; rfl)); intro gb566 hg w11 hbox hb; have n0_ := ZA (Kd.N_below (Kd.N_elderB Z21 gb566 (Nat.le_of_eq hg.symm)) hb); have n1_ := ZA (IsS82.below (Z22) hb); have n2_ := ZA (blk_below (bup BK560.out) hb); have n3_ := ZA (blk_below (bup BK561.out) hb); have n4_ := ZA (KeepBut.trans Z14 (KeepBut.of_below hb g none) (.inl rfl)); have n5_ := ZA (below_step Z50 hb); have n6_ := ZA (hbox); have n7_ := Geq.mk ((Z55 : w.heap.size ≤ gb566)); have n8_ := ZA ((Nat.le_trans HW0.out (Z55 : w.heap.size ≤ gb566) : w0.heap.size ≤ gb566)); have n9_ := Neq.mk ((Z40 : gb560 ≠ gb566)); have n10_ := Neq.mk ((Z42 : gb566 ≠ gb560)); have n11_ := Neq.mk ((Z39 : gb561 ≠ gb566)); have n12_ := Neq.mk ((Z41 : gb566 ≠ gb561)); have n13_ := ZA ((Z80 : g ≠ gb566)); have n14_ := ZA ((Z82 : gb566 ≠ g)); clear HO565 HI0 BK560 BK561 HK HB; have HO565 := n0_; have HI0 := n1_; have BK560 := n2_; have BK561 := n3_; have HK := n4_; have HB := n5_; have BK566 := n6_; have GW566 := n7_; have GE566 := n8_; have NB560_566 := n9_; have NB566_560 := n10_; have NB561_566 := n11_; have NB566_561 := n12_; have NB0_566 := n13_; have NB566_0 := n14_; clear n0_ n1_ n2_ n3_ n4_ n5_ n6_ n7_ n8_ n9_ n10_ n11_ n12_ n13_ n14_ hb hbox hg) | ((with_reducible refine gate_dst (N := 4) rfl ?_); refine box_event ?hg (N := 4) ?hd (cs := #[.int .i64 0, .slice none 0 0]) (t := 27) ?hr ?_; (case hd => rfl); (case hg => rfl); (case hr => first | (go_simp; done) | (go_simp; rfl)); intro gb567 hg w12 hbox hb; have n0_ := ZA (Kd.N_below (Kd.N_elderB Z21 gb567 (Nat.le_of_eq hg.symm)) hb); have n1_ := ZA (IsS82.below (Z19) hb); have n2_ := ZA (blk_below (bup BK560.out) hb); have n3_ := ZA (blk_below (bup BK561.out) hb); have n4_ := ZA (blk_below (bup BK566.out) hb); have n5_ := ZA (KeepBut.trans Z11 (KeepBut.of_below hb g none) (.inl rfl)); have n6_ := ZA (below_step Z46 hb); have n7_ := ZA (hbox); have n8_ := Geq.mk ((Z56 : w.heap.size ≤ gb567)); have n9_ := ZA ((Nat.le_trans HW0.out (Z56 : w.heap.size ≤ gb567) : w0.heap.size ≤ gb567)); have n10_ := Neq.mk ((Z40 : gb560 ≠ gb567)); have n11_ := Neq.mk ((Z42 : gb567 ≠ gb560)); have n12_ := Neq.mk ((Z39 : gb561 ≠ gb567)); have n13_ := Neq.mk ((Z41 : gb567 ≠ gb561)); have n14_ := Neq.mk ((by rw [hg]; exact Nat.ne_of_lt (blk_lt (g := gb566) (o := .cells #[.int .i64 t562, .slice Ao10 t563.length co10] 27 (0, 0)) (bup BK566.out)) : gb566 ≠ gb567)); have n15_ := Neq.mk ((by rw [hg]; exact Nat.ne_of_gt (blk_lt (g := gb566) (o := .cells #[.int .i64 t562, .slice Ao10 t563.length co10] 27 (0, 0)) (bup BK566.out)) : gb567 ≠ gb566)); have n16_ := ZA ((Z81 : g ≠ gb567)); have n17_ := ZA ((Z83 : gb567 ≠ g)); clear HO565 HI0 BK560 BK561 BK566 HK HB; have HO565 := n0_; have HI0 := n1_; have BK560 := n2_; have BK561 := n3_; have BK566 := n4_; have HK := n5_; have HB := n6_; have BK567 := n7_; have GW567 := n8_; have GE567 := n9_; have NB560_567 := n10_; have NB567_560 := n11_; have NB561_567 := n12_; have NB567_561 := n13_; have NB566_567 := n14_; have NB567_566 := n15_; have NB0_567 := n16_; have NB567_0 := n17_; clear n0_ n1_ n2_ n3_ n4_ n5_ n6_ n7_ n8_ n9_ n10_ n11_ n12_ n13_ n14_ n15_ n16_ n17_ hb hbox hg) | ((with_reducible refine gate_callee (f := 63) rfl ?_); refine goesL_ (some 6) rfl rfl Try.func63 Z12 rfl #[.pointer (some ⟨g, 0, none⟩), .int .i64 14] rfl Z1 ?_; (with_reducible refine (spec_l1Below.calls g s0_0 s0_1 s0_2 14 t568 t569 t570 w0 _ ?side1 ?side2 A4.out).mono ?_); (case side1 => repeat (first | (with_reducible first | exact HI0.out | apply IsS82.alloc | apply IsS82.drewN | apply IsS82.drew | apply IsS82.set_1 | apply IsS82.set_2 | refine IsS82.far ?_ NB0_560.out _ | refine IsS82.far ?_ NB0_561.out _ | refine IsS82.far ?_ NB0_566.out _ | refine IsS82.far ?_ NB0_567.out _) | exact HI0.out)); (case side2 => repeat (first | (with_reducible first | exact HB.out | apply h1 | apply h2 | apply h3 | refine h4 ?_ (IsS82.ge HI0.out) | refine h4 ?_ GE560.out | refine h4 ?_ GE561.out | refine h4 ?_ GE566.out | refine h4 ?_ GE567.out) | exact HB.out)); rintro e w13 ⟨rfl, hi, hb, hk⟩; refine ⟨_, rfl, ?_⟩; have n0_ := ZA (KeepBut.blk hk (g' := gb560) (o := .cells #[x0_, x1_] 27 (0, 0)) (bup BK560.out) NB560_0.out Z44); have n1_ := ZA (KeepBut.blk hk (g' := gb561) (o := .cells #[y0_, y1_] 27 (0, 0)) (bup BK561.out) NB561_0.out Z44); have n2_ := ZA (Kd.N_mono (Kd.N_keep (Kd.N_mono (ok := fun k_ => (((((w.heap.size ≤ k_)) ∧ (k_ ≠ gb560 ∧ (k_ ≠ gb561 ∧ k_ ≠ g))) ∧ k_ ≠ gb566) ∧ k_ ≠ gb567)) Z21 (fun k_ hk_ => (⟨hk_, hk_.1.1.2.2.2⟩ : _ ∧ k_ ≠ g))) hk (fun _ h => h.2)) (fun _ h => h.1)); have n3_ := ZA (KeepBut.blk hk (g' := gb566) (o := .cells #[.int .i64 t562, .slice Ao10 t563.length co10] 27 (0, 0)) (bup BK566.out) NB566_0.out Z44); have n4_ := ZA (KeepBut.blk hk (g' := gb567) (o := .cells #[.int .i64 0, .slice none 0 0] 27 (0, 0)) (bup BK567.out) NB567_0.out Z44); have n5_ := ZA (KeepBut.trans Z0 hk (.inl rfl)); have n6_ := ZA (hb); have n7_ := ZA (hi); clear BK560 BK561 HO565 BK566 BK567 HK HB HI0; have BK560 := n0_; have BK561 := n1_; have HO565 := n2_; have BK566 := n3_; have BK567 := n4_; have HK := n5_; have HB := n6_; have HI0 := n7_; clear n0_ n1_ n2_ n3_ n4_ n5_ n6_ n7_; (try clear hb); (try clear hb2); (try clear hk); (try clear hi)) | ((with_reducible refine gate_dst (N := 10) rfl ?_); refine Kd.R_lit (Kd.int .i64) _ 3 ?hg (N := 10) ?hd (xs := ([(-1), 1000000, 1000001] : List Int)) (inner := [.int .i64 (-1), .int .i64 1000000, .int .i64 1000001]) (ok := fun _ => True) (okp := fun _ => True) ?hr ?hp (fun _ hk => hk) trivial (Below.refl _ _) (Nat.le_refl _) Z44 ?_; (case hd => rfl); (case hg => rfl); (case hr => first | (go_simp; done) | (go_simp; rfl)); (case hp => exact (Reps.one (show Kd.M (Kd.int .i64) _ _ _ (-1) [.int .i64 (-1)] from rfl) (Reps.one (show Kd.M (Kd.int .i64) _ _ _ 1000000 [.int .i64 1000000] from rfl) (Reps.one (show Kd.M (Kd.int .i64) _ _ _ 1000001 [.int .i64 1000001] from rfl) (Reps.none _ _))))); intro v572 w14 ho15 hb hg_ hnew_; clear hg_ hnew_; (first | rw [← Ny571.out] at ho15 | (simp only [Int.reduceToNat] at ho15; rw [← Ny571.out] at ho15)); have n0_ := ZA (Kd.N_elder' Z21 (Kd.R_base ho15) hb); have n1_ := ZA (Kd.R_lower (Kd.R_newM (M := fun k_ => (w.heap.size ≤ k_)) ho15 (keep_size (w := w) (g := g) (row := none) Z0) (fun k_ h_ => h_)) (keep_size (w := w) (g := g) (row := none) Z0)); have n2_ := ZA (IsS82.below Z5 hb); have n3_ := ZA (blk_below (bup BK560.out) hb); have n4_ := ZA (blk_below (bup BK561.out) hb); have n5_ := ZA (blk_below (bup BK566.out) hb); have n6_ := ZA (blk_below (bup BK567.out) hb); have n7_ := ZA (KeepBut.trans Z0 (KeepBut.of_below hb g none) (.inl rfl)); have n8_ := ZA (below_step Z17 hb); clear HO565 HI0 BK560 BK561 BK566 BK567 HK HB; have HO565 := n0_; have HO573 := n1_; have HI0 := n2_; have BK560 := n3_; have BK561 := n4_; have BK566 := n5_; have BK567 := n6_; have HK := n7_; have HB := n8_; clear n0_ n1_ n2_ n3_ n4_ n5_ n6_ n7_ n8_ hb ho15; obtain ⟨Ao16, co16, eo16⟩ := Kd.R_slice HO573.out; subst eo16) | ((with_reducible refine gate_callee (f := 64) rfl ?_); refine goesL_ (some 11) rfl rfl Try.func64 Z12 rfl #[.pointer (some ⟨g, 0, none⟩), .slice Ao16 y571.length co16] rfl Z1 ?_; (with_reducible refine (spec_l1PickInt.calls g s0_0 t569 t570 _ _ y571 t574 t575 t576 w0 _ ?side1 ?side2 ?side3 ?side4 ?side5 A6.out).mono ?_); (case side1 => repeat (first | (with_reducible first | exact HI0.out | apply IsS82.alloc | apply IsS82.drewN | apply IsS82.drew | apply IsS82.set_1 | apply IsS82.set_2 | refine IsS82.far ?_ NB0_560.out _ | refine IsS82.far ?_ NB0_561.out _ | refine IsS82.far ?_ NB0_566.out _ | refine IsS82.far ?_ NB0_567.out _) | exact HI0.out)); (case side2 => repeat (first | (with_reducible first | exact HB.out | apply h1 | apply h2 | apply h3 | refine h4 ?_ (IsS82.ge HI0.out) | refine h4 ?_ GE560.out | refine h4 ?_ GE561.out | refine h4 ?_ GE566.out | refine h4 ?_ GE567.out) | exact HB.out)); (case side3 => repeat (first | exact (Kd.R_reads' HO573.out).2.2 | (with_reducible refine Kd.C_alloc ?_ _) | (with_reducible refine Kd.C_drewN ?_ _) | (with_reducible refine Kd.C_drew ?_))); (case side4 => exact (Kd.R_reads' HO573.out).2.1); (case side5 => exact far_slice (IsS82.own_ne HI0.out HO573.out Z25)); rintro e w17 ⟨rfl, hi, hb, hk⟩; refine ⟨_, rfl, ?_⟩; have n0_ := ZA (KeepBut.blk hk (g' := gb560) (o := .cells #[x0_, x1_] 27 (0, 0)) (bup BK560.out) NB560_0.out Z44); have n1_ := ZA (KeepBut.blk hk (g' := gb561) (o := .cells #[y0_, y1_] 27 (0, 0)) (bup BK561.out) NB561_0.out Z44); have n2_ := ZA (Kd.N_mono (Kd.N_keep (Kd.N_mono (ok := fun k_ => ((((((w.heap.size ≤ k_)) ∧ (k_ ≠ gb560 ∧ (k_ ≠ gb561 ∧ k_ ≠ g))) ∧ k_ ≠ gb566) ∧ k_ ≠ gb567) ∧ some k_ ≠ (.slice Ao16 y571.length co16 : Value).ownBlock)) Z21 (fun k_ hk_ => (⟨hk_, hk_.1.1.1.2.2.2⟩ : _ ∧ k_ ≠ g))) hk (fun _ h => h.2)) (fun _ h => h.1)); have n3_ := ZA (KeepBut.blk hk (g' := gb566) (o := .cells #[.int .i64 t562, .slice Ao10 t563.length co10] 27 (0, 0)) (bup BK566.out) NB566_0.out Z44); have n4_ := ZA (KeepBut.blk hk (g' := gb567) (o := .cells #[.int .i64 0, .slice none 0 0] 27 (0, 0)) (bup BK567.out) NB567_0.out Z44); have n5_ := ZA (Kd.R_mono (Kd.R_keep (IsS82.apart (show IsS82 w0 _ g s0_0 t569 t570 from Z23) (Kd.rup HO573.out) Z25) hk (fun _ h => h.2)) (fun _ h => h.1)); have n6_ := ZA (KeepBut.trans Z0 hk (.inl rfl)); have n7_ := ZA (hb); have n8_ := ZA (hi); clear BK560 BK561 HO565 BK566 BK567 HO573 HK HB HI0; have BK560 := n0_; have BK561 := n1_; have HO565 := n2_; have BK566 := n3_; have BK567 := n4_; have HO573 := n5_; have HK := n6_; have HB := n7_; have HI0 := n8_; clear n0_ n1_ n2_ n3_ n4_ n5_ n6_ n7_ n8_; (try clear hb); (try clear hb2); (try clear hk); (try clear hi); have hnb18 := NB566_560.out; have hnc18 := NB560_566.out; have hnb19 := NB566_561.out; have hnc19 := NB561_566.out; have hnb20 := NB566_567.out; have hnc20 := NB567_566.out; have hnb21 := NB566_0.out; have hnc21 := NB0_566.out; obtain ⟨hcz22_0, hcz22_1⟩ := blk_cells2 BK566.out; obtain ⟨hfz22_0, hfz22_1⟩ := blk_frozens2 BK566.out; have hnb23 := NB560_561.out; have hnc23 := NB561_560.out; have hnb24 := NB560_567.out; have hnc24 := NB567_560.out; have hnb25 := NB560_0.out; have hnc25 := NB0_560.out; obtain ⟨hcz26_0, hcz26_1⟩ := blk_cells2 BK560.out; obtain ⟨hfz26_0, hfz26_1⟩ := blk_frozens2 BK560.out; have hnb27 := NB561_567.out; have hnc27 := NB567_561.out; have hnb28 := NB561_0.out; have hnc28 := NB0_561.out; obtain ⟨hcz29_0, hcz29_1⟩ := blk_cells2 BK561.out; obtain ⟨hfz29_0, hfz29_1⟩ := blk_frozens2 BK561.out; have hnb30 := NB567_0.out; have hnc30 := NB0_567.out; obtain ⟨hcz31_0, hcz31_1⟩ := blk_cells2 BK567.out; obtain ⟨hfz31_0, hfz31_1⟩ := blk_frozens2 BK567.out))
  refine bodyPost_ret (results_cell_row rfl _ _ gb567 27 #[.int .i64 t574, .slice Ao10 t563.length co10] (0, 0) _ rfl (bput BK567.out) Try.underlying27 rfl Z12) rfl ?_
  exact ⟨_, by first | rfl | (simp [errW_none, errW_some] <;> rfl) | (simp [*, errW_none, errW_some] <;> rfl), by (with_reducible repeat (first | apply Kd.N_alloc | apply Kd.N_drewN | apply Kd.N_drew)); exact Kd.N_mono (Kd.N_far (p := ⟨gb567, 1, none⟩) (Kd.N_far (p := ⟨gb567, 0, none⟩) (Kd.N_far (p := ⟨gb566, 0, none⟩) (Kd.N_mono (Kd.N_mono HO565.out (fun k_ hk => (⟨hk, hk.1.1.2⟩ : _ ∧ k_ ≠ gb566))) (fun k_ hk => (⟨hk, hk.1.1.2⟩ : _ ∧ k_ ≠ gb567))) (fun _ hk => hk.1.2) (.int .i64 t574)) (fun _ hk => hk.2) (.int .i64 t574)) (fun _ hk => hk.2) (.slice Ao10 t563.length co10)) (fun _ hk => by (try dsimp only at hk); omega), Z23, Z31, Z26, Z93, Z92⟩
 ·rw [if_neg c5] at H
  have c5b0 : (t568 == 0) = false := beq_eq_false_iff_ne.mpr c5
  have c5b1 : (t568 != 0) = true := bne_iff_ne.mpr c5
  by_cases c32 : t568 = 1
  ·rw [if_pos c32] at H
   have c32b0 : (t568 == 1) = true := beq_iff_eq.mpr c32
   have c32b1 : (t568 != 1) = false := bne_eq_false_iff_eq.mpr c32
   clear c32
   by_cases c33 : t563.length < 5864062014805
   ·rw [if_pos c33] at H
    have LMc33 := ZA c33
    clear c33
    obtain ⟨y577, hy577⟩ : ∃ y_ : List (List Int), y_ = (t563 ++ [[]]) := ⟨_, rfl⟩
    replace H : (some (t562, y577, t569, t570)) = some (r1, r2, r3, r4) := by first | (rw [hy577]; with_reducible exact H) | (have H2_ := (Option.bind_some _ _).symm.trans H; rw [hy577]; with_reducible exact H2_) | (have H2_ := (Option.bind_some _ _).symm.trans H; with_reducible exact H2_) | with_reducible exact H | (rw [hy577]; exact H) | exact H
    have Ny577 := ZA hy577
    clear hy577
    simp only [Option.some.injEq, Prod.mk.injEq] at H
    obtain ⟨rfl, rfl, rfl, rfl⟩ := H
    go_enter Try.func60, Try.ntmps60
    obtain ⟨w36, ew_⟩ : ∃ w_, w_ = wa := ⟨_, rfl⟩
    subst ew_
    generalize (Value.slice A1_1 t563.length c1_1) = v564 at HO565 ⊢
    obtain ⟨Ao37, co37, eo37⟩ := Kd.N_slice HO565.out
    subst eo37
    go_wp2_with (first | ((with_reducible refine gate_dst (N := 3) rfl ?_); refine box_event ?hg (N := 3) ?hd (cs := #[.int .i64 t562, .slice Ao37 t563.length co37]) (t := 27) ?hr ?_; (case hd => rfl); (case hg => rfl); (case hr => first | (go_simp; done) | (go_simp; rfl)); intro gb566 hg w38 hbox hb; have n0_ := ZA (Kd.N_below (Kd.N_elderB Z21 gb566 (Nat.le_of_eq hg.symm)) hb); have n1_ := ZA (IsS82.below (Z22) hb); have n2_ := ZA (blk_below (bup BK560.out) hb); have n3_ := ZA (blk_below (bup BK561.out) hb); have n4_ := ZA (KeepBut.trans Z14 (KeepBut.of_below hb g none) (.inl rfl)); have n5_ := ZA (below_step Z50 hb); have n6_ := ZA (hbox); have n7_ := Geq.mk ((Z55 : w.heap.size ≤ gb566)); have n8_ := ZA ((Nat.le_trans HW0.out (Z55 : w.heap.size ≤ gb566) : w0.heap.size ≤ gb566)); have n9_ := Neq.mk ((Z40 : gb560 ≠ gb566)); have n10_ := Neq.mk ((Z42 : gb566 ≠ gb560)); have n11_ := Neq.mk ((Z39 : gb561 ≠ gb566)); have n12_ := Neq.mk ((Z41 : gb566 ≠ gb561)); have n13_ := ZA ((Z80 : g ≠ gb566)); have n14_ := ZA ((Z82 : gb566 ≠ g)); clear HO565 HI0 BK560 BK561 HK HB; have HO565 := n0_; have HI0 := n1_; have BK560 := n2_; have BK561 := n3_; have HK := n4_; have HB := n5_; have BK566 := n6_; have GW566 := n7_; have GE566 := n8_; have NB560_566 := n9_; have NB566_560 := n10_; have NB561_566 := n11_; have NB566_561 := n12_; have NB0_566 := n13_; have NB566_0 := n14_; clear n0_ n1_ n2_ n3_ n4_ n5_ n6_ n7_ n8_ n9_ n10_ n11_ n12_ n13_ n14_ hb hbox hg) | ((with_reducible refine gate_dst (N := 4) rfl ?_); refine box_event ?hg (N := 4) ?hd (cs := #[.int .i64 0, .slice none 0 0]) (t := 27) ?hr ?_; (case hd => rfl); (case hg => rfl); (case hr => first | (go_simp; done) | (go_simp; rfl)); intro gb567 hg w39 hbox hb; have n0_ := ZA (Kd.N_below (Kd.N_elderB Z21 gb567 (Nat.le_of_eq hg.symm)) hb); have n1_ := ZA (IsS82.below (Z19) hb); have n2_ := ZA (blk_below (bup BK560.out) hb); have n3_ := ZA (blk_below (bup BK561.out) hb); have n4_ := ZA (blk_below (bup BK566.out) hb); have n5_ := ZA (KeepBut.trans Z11 (KeepBut.of_below hb g none) (.inl rfl)); have n6_ := ZA (below_step Z46 hb); have n7_ := ZA (hbox); have n8_ := Geq.mk ((Z56 : w.heap.size ≤ gb567)); have n9_ := ZA ((Nat.le_trans HW0.out (Z56 : w.heap.size ≤ gb567) : w0.heap.size ≤ gb567)); have n10_ := Neq.mk ((Z40 : gb560 ≠ gb567)); have n11_ := Neq.mk ((Z42 : gb567 ≠ gb560)); have n12_ := Neq.mk ((Z39 : gb561 ≠ gb567)); have n13_ := Neq.mk ((Z41 : gb567 ≠ gb561)); have n14_ := Neq.mk ((by rw [hg]; exact Nat.ne_of_lt (blk_lt (g := gb566) (o := .cells #[.int .i64 t562, .slice Ao37 t563.length co37] 27 (0, 0)) (bup BK566.out)) : gb566 ≠ gb567)); have n15_ := Neq.mk ((by rw [hg]; exact Nat.ne_of_gt (blk_lt (g := gb566) (o := .cells #[.int .i64 t562, .slice Ao37 t563.length co37] 27 (0, 0)) (bup BK566.out)) : gb567 ≠ gb566)); have n16_ := ZA ((Z81 : g ≠ gb567)); have n17_ := ZA ((Z83 : gb567 ≠ g)); clear HO565 HI0 BK560 BK561 BK566 HK HB; have HO565 := n0_; have HI0 := n1_; have BK560 := n2_; have BK561 := n3_; have BK566 := n4_; have HK := n5_; have HB := n6_; have BK567 := n7_; have GW567 := n8_; have GE567 := n9_; have NB560_567 := n10_; have NB567_560 := n11_; have NB561_567 := n12_; have NB567_561 := n13_; have NB566_567 := n14_; have NB567_566 := n15_; have NB0_567 := n16_; have NB567_0 := n17_; clear n0_ n1_ n2_ n3_ n4_ n5_ n6_ n7_ n8_ n9_ n10_ n11_ n12_ n13_ n14_ n15_ n16_ n17_ hb hbox hg) | ((with_reducible refine gate_callee (f := 63) rfl ?_); refine goesL_ (some 6) rfl rfl Try.func63 Z12 rfl #[.pointer (some ⟨g, 0, none⟩), .int .i64 14] rfl Z1 ?_; (with_reducible refine (spec_l1Below.calls g s0_0 s0_1 s0_2 14 t568 t569 t570 w0 _ ?side1 ?side2 A4.out).mono ?_); (case side1 => repeat (first | (with_reducible first | exact HI0.out | apply IsS82.alloc | apply IsS82.drewN | apply IsS82.drew | apply IsS82.set_1 | apply IsS82.set_2 | refine IsS82.far ?_ NB0_560.out _ | refine IsS82.far ?_ NB0_561.out _ | refine IsS82.far ?_ NB0_566.out _ | refine IsS82.far ?_ NB0_567.out _) | exact HI0.out)); (case side2 => repeat (first | (with_reducible first | exact HB.out | apply h1 | apply h2 | apply h3 | refine h4 ?_ (IsS82.ge HI0.out) | refine h4 ?_ GE560.out | refine h4 ?_ GE561.out | refine h4 ?_ GE566.out | refine h4 ?_ GE567.out) | exact HB.out)); rintro e w40 ⟨rfl, hi, hb, hk⟩; refine ⟨_, rfl, ?_⟩; have n0_ := ZA (KeepBut.blk hk (g' := gb560) (o := .cells #[x0_, x1_] 27 (0, 0)) (bup BK560.out) NB560_0.out Z44); have n1_ := ZA (KeepBut.blk hk (g' := gb561) (o := .cells #[y0_, y1_] 27 (0, 0)) (bup BK561.out) NB561_0.out Z44); have n2_ := ZA (Kd.N_mono (Kd.N_keep (Kd.N_mono (ok := fun k_ => (((((w.heap.size ≤ k_)) ∧ (k_ ≠ gb560 ∧ (k_ ≠ gb561 ∧ k_ ≠ g))) ∧ k_ ≠ gb566) ∧ k_ ≠ gb567)) Z21 (fun k_ hk_ => (⟨hk_, hk_.1.1.2.2.2⟩ : _ ∧ k_ ≠ g))) hk (fun _ h => h.2)) (fun _ h => h.1)); have n3_ := ZA (KeepBut.blk hk (g' := gb566) (o := .cells #[.int .i64 t562, .slice Ao37 t563.length co37] 27 (0, 0)) (bup BK566.out) NB566_0.out Z44); have n4_ := ZA (KeepBut.blk hk (g' := gb567) (o := .cells #[.int .i64 0, .slice none 0 0] 27 (0, 0)) (bup BK567.out) NB567_0.out Z44); have n5_ := ZA (KeepBut.trans Z0 hk (.inl rfl)); have n6_ := ZA (hb); have n7_ := ZA (hi); clear BK560 BK561 HO565 BK566 BK567 HK HB HI0; have BK560 := n0_; have BK561 := n1_; have HO565 := n2_; have BK566 := n3_; have BK567 := n4_; have HK := n5_; have HB := n6_; have HI0 := n7_; clear n0_ n1_ n2_ n3_ n4_ n5_ n6_ n7_; (try clear hb); (try clear hb2); (try clear hk); (try clear hi); have hnb41 := NB566_560.out; have hnc41 := NB560_566.out; have hnb42 := NB566_561.out; have hnc42 := NB561_566.out; have hnb43 := NB566_567.out; have hnc43 := NB567_566.out; have hnb44 := NB566_0.out; have hnc44 := NB0_566.out; obtain ⟨hcz45_0, hcz45_1⟩ := blk_cells2 BK566.out; obtain ⟨hfz45_0, hfz45_1⟩ := blk_frozens2 BK566.out) | ((with_reducible refine gate_builtin (b := .append) (xs := #[.tmp 16, .tmp 17]) rfl ?_); at_builtin; refine Kd.N_append (Kd.slice 5 (Kd.int .u8)) w.heap.size rfl (.tmp 16) (.tmp 17) 22 36 (.slice none 0 0) 24 rfl Try.underlying22 info36 rfl Z25 Z8 (.slice Ao37 t563.length co37) t563 ([] : List Int) [.slice none 0 0] (fun k_ => (w.heap.size ≤ k_) ∧ k_ ≠ gb560 ∧ k_ ≠ gb561 ∧ k_ ≠ gb566 ∧ k_ ≠ gb567 ∧ k_ ≠ g) (fun k_ => ((fun k_ => (w.heap.size ≤ k_) ∧ k_ ≠ gb560 ∧ k_ ≠ gb561 ∧ k_ ≠ gb566 ∧ k_ ≠ gb567 ∧ k_ ≠ g)) k_ ∧ some k_ ≠ (.slice Ao37 t563.length co37 : Value).ownBlock) rfl rfl ?aP (fun _ hk => hk) ?aF ?aO (Below.refl _ _) ?aS ?aL ?_; (case aP => exact (Kd.FK_slice_mk (Nat.le_refl _) (Kd.F_nil _ _ _))); (case aF => exact (fun k_ hk => ⟨(Nat.le_trans (keep_size (w := w) (g := g) (row := none) Z0) hk), Kd.freshB (g := gb560) (o := .cells #[x0_, x1_] 27 (0, 0)) (bup BK560.out) k_ hk, Kd.freshB (g := gb561) (o := .cells #[y0_, y1_] 27 (0, 0)) (bup BK561.out) k_ hk, Kd.freshB (g := gb566) (o := .cells #[.int .i64 t562, .slice Ao37 t563.length co37] 27 (0, 0)) (bup BK566.out) k_ hk, Kd.freshB (g := gb567) (o := .cells #[.int .i64 0, .slice none 0 0] 27 (0, 0)) (bup BK567.out) k_ hk, IsS82.fresh Z5 k_ hk⟩)); (case aO => exact (by (with_reducible repeat (first | apply Kd.N_alloc | apply Kd.N_drewN | apply Kd.N_drew)); exact Kd.N_mono HO565.out (fun _ hk => ⟨hk.1.1.1, ⟨hk.1.1.2.1, ⟨hk.1.1.2.2.1, ⟨hk.1.2, ⟨hk.2, hk.1.1.2.2.2⟩⟩⟩⟩⟩))); (case aS => exact (keep_size (w := w) (g := g) (row := none) Z0)); (case aL => have := LMc33.out; omega); intro v578 w46 ho hb hg hat; rw [← Ny577.out] at ho; have n0_ := ZA (IsS82.grown Z5 hg (IsS82.own_neN HI0.out HO565.out Z25)); have n1_ := ZA (blk_grown (g := gb560) (o := .cells #[x0_, x1_] 27 (0, 0)) (bup BK560.out) hg (Kd.N_ne HO565.out BK560.out Z25)); have n2_ := ZA (blk_grown (g := gb561) (o := .cells #[y0_, y1_] 27 (0, 0)) (bup BK561.out) hg (Kd.N_ne HO565.out BK561.out Z25)); have n3_ := ZA (blk_grown (g := gb566) (o := .cells #[.int .i64 t562, .slice Ao37 t563.length co37] 27 (0, 0)) (bup BK566.out) hg (Kd.N_ne HO565.out BK566.out Z25)); have n4_ := ZA (blk_grown (g := gb567) (o := .cells #[.int .i64 0, .slice none 0 0] 27 (0, 0)) (bup BK567.out) hg (Kd.N_ne HO565.out BK567.out Z25)); have n5_ := ZA (below_weaken Z17 HL.out hb); have n6_ := ZA (KeepBut.trans Z0 (KeepBut.of_grown hg g) (Kd.N_base2 HO565.out)); have n7_ := ZA (ho); clear HI0 BK560 BK561 BK566 BK567 HB HK HO565; have HI0 := n0_; have BK560 := n1_; have BK561 := n2_; have BK566 := n3_; have BK567 := n4_; have HB := n5_; have HK := n6_; have HO579 := n7_; clear n0_ n1_ n2_ n3_ n4_ n5_ n6_ n7_ ho hb hg hat; obtain ⟨Ao47, co47, eo47⟩ := Kd.N_slice HO579.out; subst eo47; obtain ⟨hcz48_0, hcz48_1⟩ := blk_cells2 BK566.out; obtain ⟨hfz48_0, hfz48_1⟩ := blk_frozens2 BK566.out; have hnb49 := NB560_561.out; have hnc49 := NB561_560.out; have hnb50 := NB560_567.out; have hnc50 := NB567_560.out; have hnb51 := NB560_0.out; have hnc51 := NB0_560.out; obtain ⟨hcz52_0, hcz52_1⟩ := blk_cells2 BK560.out; obtain ⟨hfz52_0, hfz52_1⟩ := blk_frozens2 BK560.out; have hnb53 := NB561_567.out; have hnc53 := NB567_561.out; have hnb54 := NB561_0.out; have hnc54 := NB0_561.out; obtain ⟨hcz55_0, hcz55_1⟩ := blk_cells2 BK561.out; obtain ⟨hfz55_0, hfz55_1⟩ := blk_frozens2 BK561.out; have hnb56 := NB567_0.out; have hnc56 := NB0_567.out; obtain ⟨hcz57_0, hcz57_1⟩ := blk_cells2 BK567.out; obtain ⟨hfz57_0, hfz57_1⟩ := blk_frozens2 BK567.out))
    refine bodyPost_ret (results_cell_row rfl _ _ gb567 27 #[.int .i64 t562, .slice Ao47 y577.length co47] (0, 0) _ rfl (bput BK567.out) Try.underlying27 rfl Z12) rfl ?_
    exact ⟨_, by first | rfl | (simp [errW_none, errW_some] <;> rfl) | (simp [*, errW_none, errW_some] <;> rfl), by (with_reducible repeat (first | apply Kd.N_alloc | apply Kd.N_drewN | apply Kd.N_drew)); exact Kd.N_mono (Kd.N_far (p := ⟨gb567, 1, none⟩) (Kd.N_far (p := ⟨gb567, 0, none⟩) (Kd.N_far (p := ⟨gb566, 1, none⟩) (Kd.N_mono (Kd.N_mono HO579.out (fun k_ hk => (⟨hk, hk.2.2.2.1⟩ : _ ∧ k_ ≠ gb566))) (fun k_ hk => (⟨hk, hk.1.2.2.2.2.1⟩ : _ ∧ k_ ≠ gb567))) (fun _ hk => hk.1.2) (.slice Ao47 y577.length co47)) (fun _ hk => hk.2) (.int .i64 t562)) (fun _ hk => hk.2) (.slice Ao47 y577.length co47)) (fun _ hk => by (try dsimp only at hk); omega), Z23, Z31, Z26, Z93, Z92⟩
   ·rw [if_neg c33] at H
    exact absurd H Z44
  ·rw [if_neg c32] at H
   have c32b0 : (t568 == 1) = false := beq_eq_false_iff_ne.mpr c32
   have c32b1 : (t568 != 1) = true := bne_iff_ne.mpr c32
   by_cases c58 : t568 = 2
   ·rw [if_pos c58] at H
    have c58b0 : (t568 == 2) = true := beq_iff_eq.mpr c58
    have c58b1 : (t568 != 2) = false := bne_eq_false_iff_eq.mpr c58
    clear c58
    have H' := ZA H
    clear H
    go_enter Try.func60, Try.ntmps60
    obtain ⟨w61, ew_⟩ : ∃ w_, w_ = wa := ⟨_, rfl⟩
    subst ew_
    generalize (Value.slice A1_1 t563.length c1_1) = v564 at HO565 ⊢
    obtain ⟨Ao62, co62, eo62⟩ := Kd.N_slice HO565.out
    subst eo62
    go_wp2_with (first | ((with_reducible refine gate_dst (N := 3) rfl ?_); refine box_event ?hg (N := 3) ?hd (cs := #[.int .i64 t562, .slice Ao62 t563.length co62]) (t := 27) ?hr ?_; (case hd => rfl); (case hg => rfl); (case hr => first | (go_simp; done) | (go_simp; rfl)); intro gb566 hg w63 hbox hb; have n0_ := ZA (Kd.N_below (Kd.N_elderB Z21 gb566 (Nat.le_of_eq hg.symm)) hb); have n1_ := ZA (IsS82.below (Z22) hb); have n2_ := ZA (blk_below (bup BK560.out) hb); have n3_ := ZA (blk_below (bup BK561.out) hb); have n4_ := ZA (KeepBut.trans Z14 (KeepBut.of_below hb g none) (.inl rfl)); have n5_ := ZA (below_step Z50 hb); have n6_ := ZA (hbox); have n7_ := Geq.mk ((Z55 : w.heap.size ≤ gb566)); have n8_ := ZA ((Nat.le_trans HW0.out (Z55 : w.heap.size ≤ gb566) : w0.heap.size ≤ gb566)); have n9_ := Neq.mk ((Z40 : gb560 ≠ gb566)); have n10_ := Neq.mk ((Z42 : gb566 ≠ gb560)); have n11_ := Neq.mk ((Z39 : gb561 ≠ gb566)); have n12_ := Neq.mk ((Z41 : gb566 ≠ gb561)); have n13_ := ZA ((Z80 : g ≠ gb566)); have n14_ := ZA ((Z82 : gb566 ≠ g)); clear HO565 HI0 BK560 BK561 HK HB; have HO565 := n0_; have HI0 := n1_; have BK560 := n2_; have BK561 := n3_; have HK := n4_; have HB := n5_; have BK566 := n6_; have GW566 := n7_; have GE566 := n8_; have NB560_566 := n9_; have NB566_560 := n10_; have NB561_566 := n11_; have NB566_561 := n12_; have NB0_566 := n13_; have NB566_0 := n14_; clear n0_ n1_ n2_ n3_ n4_ n5_ n6_ n7_ n8_ n9_ n10_ n11_ n12_ n13_ n14_ hb hbox hg) | ((with_reducible refine gate_dst (N := 4) rfl ?_); refine box_event ?hg (N := 4) ?hd (cs := #[.int .i64 0, .slice none 0 0]) (t := 27) ?hr ?_; (case hd => rfl); (case hg => rfl); (case hr => first | (go_simp; done) | (go_simp; rfl)); intro gb567 hg w64 hbox hb; have n0_ := ZA (Kd.N_below (Kd.N_elderB Z21 gb567 (Nat.le_of_eq hg.symm)) hb); have n1_ := ZA (IsS82.below (Z19) hb); have n2_ := ZA (blk_below (bup BK560.out) hb); have n3_ := ZA (blk_below (bup BK561.out) hb); have n4_ := ZA (blk_below (bup BK566.out) hb); have n5_ := ZA (KeepBut.trans Z11 (KeepBut.of_below hb g none) (.inl rfl)); have n6_ := ZA (below_step Z46 hb); have n7_ := ZA (hbox); have n8_ := Geq.mk ((Z56 : w.heap.size ≤ gb567)); have n9_ := ZA ((Nat.le_trans HW0.out (Z56 : w.heap.size ≤ gb567) : w0.heap.size ≤ gb567)); have n10_ := Neq.mk ((Z40 : gb560 ≠ gb567)); have n11_ := Neq.mk ((Z42 : gb567 ≠ gb560)); have n12_ := Neq.mk ((Z39 : gb561 ≠ gb567)); have n13_ := Neq.mk ((Z41 : gb567 ≠ gb561)); have n14_ := Neq.mk ((by rw [hg]; exact Nat.ne_of_lt (blk_lt (g := gb566) (o := .cells #[.int .i64 t562, .slice Ao62 t563.length co62] 27 (0, 0)) (bup BK566.out)) : gb566 ≠ gb567)); have n15_ := Neq.mk ((by rw [hg]; exact Nat.ne_of_gt (blk_lt (g := gb566) (o := .cells #[.int .i64 t562, .slice Ao62 t563.length co62] 27 (0, 0)) (bup BK566.out)) : gb567 ≠ gb566)); have n16_ := ZA ((Z81 : g ≠ gb567)); have n17_ := ZA ((Z83 : gb567 ≠ g)); clear HO565 HI0 BK560 BK561 BK566 HK HB; have HO565 := n0_; have HI0 := n1_; have BK560 := n2_; have BK561 := n3_; have BK566 := n4_; have HK := n5_; have HB := n6_; have BK567 := n7_; have GW567 := n8_; have GE567 := n9_; have NB560_567 := n10_; have NB567_560 := n11_; have NB561_567 := n12_; have NB567_561 := n13_; have NB566_567 := n14_; have NB567_566 := n15_; have NB0_567 := n16_; have NB567_0 := n17_; clear n0_ n1_ n2_ n3_ n4_ n5_ n6_ n7_ n8_ n9_ n10_ n11_ n12_ n13_ n14_ n15_ n16_ n17_ hb hbox hg) | ((with_reducible refine gate_callee (f := 63) rfl ?_); refine goesL_ (some 6) rfl rfl Try.func63 Z12 rfl #[.pointer (some ⟨g, 0, none⟩), .int .i64 14] rfl Z1 ?_; (with_reducible refine (spec_l1Below.calls g s0_0 s0_1 s0_2 14 t568 t569 t570 w0 _ ?side1 ?side2 A4.out).mono ?_); (case side1 => repeat (first | (with_reducible first | exact HI0.out | apply IsS82.alloc | apply IsS82.drewN | apply IsS82.drew | apply IsS82.set_1 | apply IsS82.set_2 | refine IsS82.far ?_ NB0_560.out _ | refine IsS82.far ?_ NB0_561.out _ | refine IsS82.far ?_ NB0_566.out _ | refine IsS82.far ?_ NB0_567.out _) | exact HI0.out)); (case side2 => repeat (first | (with_reducible first | exact HB.out | apply h1 | apply h2 | apply h3 | refine h4 ?_ (IsS82.ge HI0.out) | refine h4 ?_ GE560.out | refine h4 ?_ GE561.out | refine h4 ?_ GE566.out | refine h4 ?_ GE567.out) | exact HB.out)); rintro e w65 ⟨rfl, hi, hb, hk⟩; refine ⟨_, rfl, ?_⟩; have n0_ := ZA (KeepBut.blk hk (g' := gb560) (o := .cells #[x0_, x1_] 27 (0, 0)) (bup BK560.out) NB560_0.out Z44); have n1_ := ZA (KeepBut.blk hk (g' := gb561) (o := .cells #[y0_, y1_] 27 (0, 0)) (bup BK561.out) NB561_0.out Z44); have n2_ := ZA (Kd.N_mono (Kd.N_keep (Kd.N_mono (ok := fun k_ => (((((w.heap.size ≤ k_)) ∧ (k_ ≠ gb560 ∧ (k_ ≠ gb561 ∧ k_ ≠ g))) ∧ k_ ≠ gb566) ∧ k_ ≠ gb567)) Z21 (fun k_ hk_ => (⟨hk_, hk_.1.1.2.2.2⟩ : _ ∧ k_ ≠ g))) hk (fun _ h => h.2)) (fun _ h => h.1)); have n3_ := ZA (KeepBut.blk hk (g' := gb566) (o := .cells #[.int .i64 t562, .slice Ao62 t563.length co62] 27 (0, 0)) (bup BK566.out) NB566_0.out Z44); have n4_ := ZA (KeepBut.blk hk (g' := gb567) (o := .cells #[.int .i64 0, .slice none 0 0] 27 (0, 0)) (bup BK567.out) NB567_0.out Z44); have n5_ := ZA (KeepBut.trans Z0 hk (.inl rfl)); have n6_ := ZA (hb); have n7_ := ZA (hi); clear BK560 BK561 HO565 BK566 BK567 HK HB HI0; have BK560 := n0_; have BK561 := n1_; have HO565 := n2_; have BK566 := n3_; have BK567 := n4_; have HK := n5_; have HB := n6_; have HI0 := n7_; clear n0_ n1_ n2_ n3_ n4_ n5_ n6_ n7_; (try clear hb); (try clear hb2); (try clear hk); (try clear hi)))
    go_loopg [] k (fun kq w' => ∃ (x1001_1 : Int) (x1002_1 : Int) (x567001_1 : List (List Int)) (u567001 : Value), Aside0 (spec_l7bent.l0 kq s0_0 x1001_1 x1002_1 t562 x567001_1 = some (r1, r2, r3, r4)) ∧ Aside0 (kq ≤ k) ∧ Aside0 (Kd.N (Kd.slice 5 (Kd.int .u8)) 36 w' w.heap.size (fun k_ => (w.heap.size ≤ k_) ∧ k_ ≠ gb560 ∧ k_ ≠ gb561 ∧ k_ ≠ gb566 ∧ k_ ≠ gb567 ∧ k_ ≠ g) u567001 x567001_1) ∧ Aside0 (w'.heap[gb560]? = some (.cells #[x0_, x1_] 27 (0, 0))) ∧ Aside0 (w'.heap[gb561]? = some (.cells #[y0_, y1_] 27 (0, 0))) ∧ Aside0 (w'.heap[gb566]? = some (.cells #[.int .i64 t562, u567001] 27 (0, 0))) ∧ Aside0 (w'.heap[gb567]? = some (.cells #[.int .i64 0, (.slice none 0 0)] 27 (0, 0))) ∧ Aside0 (IsS82 w0 w' g s0_0 x1001_1 x1002_1) ∧ Aside0 (KeepBut w w' g none) ∧ Aside0 (Below w0.heap.size w0 w'))
    case atStart => exact ⟨(t569), (t570), (t563), (.slice Ao62 t563.length co62), H', ⟨Nat.le_refl _⟩, ⟨by (with_reducible repeat (first | apply Kd.N_alloc | apply Kd.N_drewN | apply Kd.N_drew)); exact Kd.N_mono HO565.out (fun _ hk => ⟨hk.1.1.1, ⟨hk.1.1.2.1, ⟨hk.1.1.2.2.1, ⟨hk.1.2, ⟨hk.2, hk.1.1.2.2.2⟩⟩⟩⟩⟩)⟩, ⟨by exact bup BK560.out⟩, ⟨by exact bup BK561.out⟩, ⟨by exact bup BK566.out⟩, ⟨by exact bup BK567.out⟩, ⟨Z23⟩, ⟨Z26⟩, ⟨Z31⟩⟩
    case round =>
     clear H'
     try clear c1
     try clear c2
     try clear p2
     try clear c3
     try clear c4
     try clear c5
     try clear c5b0
     try clear c5b1
     try clear c6
     try clear p6
     try clear c18
     try clear c19
     try clear c20
     try clear c21
     try clear c23
     try clear c24
     try clear c25
     try clear c27
     try clear c28
     try clear c30
     try clear c32
     try clear c32b0
     try clear c32b1
     try clear c33
     try clear c41
     try clear c42
     try clear c43
     try clear c44
     try clear c49
     try clear c50
     try clear c51
     try clear c53
     try clear c54
     try clear c56
     try clear c58
     try clear c58b0
     try clear c58b1
     try clear c60
     try clear c63
     try clear c64
     try clear p64
     try clear hcz22_0
     try clear hcz22_1
     try clear hcz26_0
     try clear hcz26_1
     try clear hcz29_0
     try clear hcz29_1
     try clear hcz31_0
     try clear hcz31_1
     try clear hcz45_0
     try clear hcz45_1
     try clear hcz48_0
     try clear hcz48_1
     try clear hcz52_0
     try clear hcz52_1
     try clear hcz55_0
     try clear hcz55_1
     try clear hcz57_0
     try clear hcz57_1
     try clear hfz22_0
     try clear hfz22_1
     try clear hfz26_0
     try clear hfz26_1
     try clear hfz29_0
     try clear hfz29_1
     try clear hfz31_0
     try clear hfz31_1
     try clear hfz45_0
     try clear hfz45_1
     try clear hfz48_0
     try clear hfz48_1
     try clear hfz52_0
     try clear hfz52_1
     try clear hfz55_0
     try clear hfz55_1
     try clear hfz57_0
     try clear hfz57_1
     obtain ⟨x1001_1, x1002_1, x567001_1, u567001, HA, HK1, HO_567001, BK560, BK561, BK566, BK567, HI0, HK, HB⟩ := hrel
     cases gk with
     | zero => exact absurd HA.out (by simp [spec_l7bent.l0])
     | succ k1 =>
      have H := HA.out
      clear HA
      simp only [spec_l7bent.l0] at H
      replace H := Option.bind_eq_some_iff.mp H
      obtain ⟨⟨t580, t581, t582⟩, A660, H⟩ := H
      (try dsimp only at H)
      have A66 := ZA A660
      clear A660
      by_cases c67 : (x567001_1.length : Int) < (wrap64 (16 + t580))
      ·rw [if_pos c67] at H
       have c67b0 : decide ((x567001_1.length : Int) < (wrap64 (16 + t580))) = true := decide_eq_true c67
       clear c67
       obtain ⟨y583, hy583⟩ : ∃ y_ : List Int, y_ = (([7] : List Int)) := ⟨_, rfl⟩
       replace H : (if x567001_1.length < 5864062014805 then (spec_l7bent.l0 k1 s0_0 t581 t582 t562 (x567001_1 ++ [y583])) else (none)) = some (r1, r2, r3, r4) := by first | (rw [hy583]; with_reducible exact H) | (have H2_ := (Option.bind_some _ _).symm.trans H; rw [hy583]; with_reducible exact H2_) | (have H2_ := (Option.bind_some _ _).symm.trans H; with_reducible exact H2_) | with_reducible exact H | (rw [hy583]; exact H) | exact H
       have Ny583 := ZA hy583
       clear hy583
       by_cases c68 : x567001_1.length < 5864062014805
       ·rw [if_pos c68] at H
        have LMc68 := ZA c68
        clear c68
        obtain ⟨y586, hy586⟩ : ∃ y_ : List (List Int), y_ = (x567001_1 ++ [y583]) := ⟨_, rfl⟩
        replace H : (spec_l7bent.l0 k1 s0_0 t581 t582 t562 y586) = some (r1, r2, r3, r4) := by first | (rw [hy586]; with_reducible exact H) | (have H2_ := (Option.bind_some _ _).symm.trans H; rw [hy586]; with_reducible exact H2_) | (have H2_ := (Option.bind_some _ _).symm.trans H; with_reducible exact H2_) | with_reducible exact H | (rw [hy586]; exact H) | exact H
        have Ny586 := ZA hy586
        clear hy586
        have H' := ZA H
        clear H
        try go_wp2
        have n0_ := ZA (Kd.N_drew HO_567001.out)
        have n1_ := ZA (blk_drew BK560.out)
        have n2_ := ZA (blk_drew BK561.out)
        have n3_ := ZA (blk_drew BK566.out)
        have n4_ := ZA (blk_drew BK567.out)
        have n5_ := ZA (IsS82.drew HI0.out)
        have n6_ := ZA (keep_drew HK.out)
        have n7_ := ZA (below_drew1 HB.out)
        clear HO_567001
        clear BK560
        clear BK561
        clear BK566
        clear BK567
        clear HI0
        clear HK
        clear HB
        have HO_567001 := n0_
        have BK560 := n1_
        have BK561 := n2_
        have BK566 := n3_
        have BK567 := n4_
        have HI0 := n5_
        have HK := n6_
        have HB := n7_
        clear n0_ n1_ n2_ n3_ n4_ n5_ n6_ n7_
        obtain ⟨Ao70, co70, eo70⟩ := Kd.N_slice HO_567001.out
        (first | subst eo70 | (injection eo70 with f1_ f2_ f3_; have f4_ := f1_.symm; have f5_ := f3_.symm; clear f1_ f2_ f3_; subst f4_; subst f5_))
        refine start_ (n := 7) (S := fun w' => w'.cell? ⟨gb566, 0, none⟩ = some (.int .i64 t562) ∧ w'.cell? ⟨gb566, 1, none⟩ = some (.slice Ao70 x567001_1.length co70)) (ds := []) #[false, false, false, false, false, false, false] Z12 rfl rfl (blk_cells2 BK566.out) (fun hHeld => ?_)
        generalize wr.drew = w69 at HO_567001 BK560 BK561 BK566 BK567 HI0 HK HB hHeld ⊢
        refine pure_ (i := 0) (N := some 22) (v := ?_) (a' := ?_) #[true, false, false, false, false, false, false] rfl rfl Z12 (fun _ _ _ h => h) (Or.inl ⟨by rfl, ?_⟩) ?_ ?_
        rotate_left
        ·intro w'
         go_simp
         with_reducible rfl
        rotate_left
        ·simp only [Act.put, List.setIfInBounds_toArray, List.set_cons_zero, List.set_cons_succ, i64_w, i32_w]
         rfl
        refine pure_ (i := 3) (N := some 25) (v := ?_) (a' := ?_) #[true, false, false, true, false, false, false] rfl rfl Z12 (fun _ _ _ h => h) (Or.inl ⟨by rfl, ?_⟩) ?_ ?_
        rotate_left
        ·intro w'
         go_simp
         with_reducible rfl
        rotate_left
        ·simp only [Act.put, List.setIfInBounds_toArray, List.set_cons_zero, List.set_cons_succ, i64_w, i32_w]
         rfl
        refine take_ (i := 1) (N := some 23) (v := ?_) (a' := ?_) #[true, true, false, true, false, false, false] rfl rfl Z12 (fun _ _ _ h => h) (Or.inl ⟨by rfl, ?_⟩) hHeld ?_ ?_
        rotate_left
        ·rintro w' ⟨s0, s1⟩
         go_simp
         with_reducible rfl
        rotate_left
        ·simp only [Act.put, List.setIfInBounds_toArray, List.set_cons_zero, List.set_cons_succ, i64_w, i32_w]
         rfl
        refine pure_ (i := 2) (N := some 24) (v := ?_) (a' := ?_) #[true, true, true, true, false, false, false] rfl rfl Z12 (fun _ _ _ h => h) (Or.inl ⟨by rfl, ?_⟩) ?_ ?_
        rotate_left
        ·intro w'
         go_simp
         with_reducible rfl
        rotate_left
        ·simp only [Act.put, List.setIfInBounds_toArray, List.set_cons_zero, List.set_cons_succ, i64_w, i32_w]
         rfl
        refine one_ (i := 4) (N := some 26) #[true, true, true, true, true, false, false] rfl rfl Z12 Z25 (fun K hK => ?_)
        refine goes_ Try.func63 Z12 rfl #[.pointer (some ⟨g, 0, none⟩), .int .i64 2] Z94 rfl rfl Z1 ?_
        with_reducible refine (spec_l1Below.calls g s0_0 x1001_1 x1002_1 2 t580 t581 t582 w0 _ ?side1 ?side2 A66.out).mono ?_
        (case side1 => repeat (first | (with_reducible first | exact HI0.out | apply IsS82.alloc | apply IsS82.drewN | apply IsS82.drew | apply IsS82.set_1 | apply IsS82.set_2 | refine IsS82.far ?_ NB0_560.out _ | refine IsS82.far ?_ NB0_561.out _ | refine IsS82.far ?_ NB0_566.out _ | refine IsS82.far ?_ NB0_567.out _) | exact HI0.out))
        (case side2 => repeat (first | (with_reducible first | exact HB.out | apply h1 | apply h2 | apply h3 | refine h4 ?_ (IsS82.ge HI0.out) | refine h4 ?_ GE560.out | refine h4 ?_ GE561.out | refine h4 ?_ GE566.out | refine h4 ?_ GE567.out) | exact HB.out))
        rintro e w71 ⟨rfl, hi, hb, hk⟩
        refine ⟨_, rfl, ?_⟩
        have n0_ := ZA (Kd.N_mono (Kd.N_keep (Kd.N_mono (ok := fun k_ => (((w.heap.size ≤ k_)) ∧ (k_ ≠ gb560 ∧ (k_ ≠ gb561 ∧ (k_ ≠ gb566 ∧ (k_ ≠ gb567 ∧ k_ ≠ g)))))) Z96 (fun k_ hk_ => (⟨hk_, hk_.2.2.2.2.2⟩ : _ ∧ k_ ≠ g))) hk (fun _ h => h.2)) (fun _ h => h.1))
        have n1_ := ZA (KeepBut.blk hk (g' := gb560) (o := .cells #[x0_, x1_] 27 (0, 0)) (bup BK560.out) NB560_0.out Z44)
        have n2_ := ZA (KeepBut.blk hk (g' := gb561) (o := .cells #[y0_, y1_] 27 (0, 0)) (bup BK561.out) NB561_0.out Z44)
        have n3_ := ZA (KeepBut.blk hk (g' := gb566) (o := .cells #[.int .i64 t562, .slice Ao70 x567001_1.length co70] 27 (0, 0)) (bup BK566.out) NB566_0.out Z44)
        have n4_ := ZA (KeepBut.blk hk (g' := gb567) (o := .cells #[.int .i64 0, .slice none 0 0] 27 (0, 0)) (bup BK567.out) NB567_0.out Z44)
        have n5_ := ZA (KeepBut.trans Z0 hk (.inl rfl))
        have n6_ := ZA (hb)
        have n7_ := ZA (hi)
        clear HO_567001
        clear BK560
        clear BK561
        clear BK566
        clear BK567
        clear HK
        clear HB
        clear HI0
        have HO_567001 := n0_
        have BK560 := n1_
        have BK561 := n2_
        have BK566 := n3_
        have BK567 := n4_
        have HK := n5_
        have HB := n6_
        have HI0 := n7_
        clear n0_ n1_ n2_ n3_ n4_ n5_ n6_ n7_
        (try clear hb)
        (try clear hb2)
        (try clear hk)
        (try clear hi)
        refine hK.out _ _ (blk_cells2 BK566.out) (fun hHeld => ?_)
        clear hK K
        refine norm_ (a' := ?_) ?_ ?_
        rotate_left
        ·show Act.put _ (some 26) _ = _
         simp only [Act.put, List.setIfInBounds_toArray, List.set_cons_zero, List.set_cons_succ, i64_w, i32_w]
         rfl
        refine pure_ (i := 5) (N := some 27) (v := ?_) (a' := ?_) #[true, true, true, true, true, true, false] rfl rfl Z12 (fun _ _ _ h => h) (Or.inl ⟨by rfl, ?_⟩) ?_ ?_
        rotate_left
        ·intro w'
         go_simp
         with_reducible rfl
        rotate_left
        ·simp only [Act.put, List.setIfInBounds_toArray, List.set_cons_zero, List.set_cons_succ, i64_w, i32_w]
         rfl
        refine pure_ (i := 6) (N := some 28) (v := ?_) (a' := ?_) #[true, true, true, true, true, true, true] rfl rfl Z12 (fun _ _ _ h => h) (Or.inl ⟨by rfl, ?_⟩) ?_ ?_
        rotate_left
        ·intro w'
         go_simp
         with_reducible rfl
        rotate_left
        ·simp only [Act.put, List.setIfInBounds_toArray, List.set_cons_zero, List.set_cons_succ, i64_w, i32_w]
         rfl
        refine done_ Z12 ?_
        have hnb72 := NB566_560.out
        have hnc72 := NB560_566.out
        have hnb73 := NB566_561.out
        have hnc73 := NB561_566.out
        have hnb74 := NB566_567.out
        have hnc74 := NB567_566.out
        have hnb75 := NB566_0.out
        have hnc75 := NB0_566.out
        obtain ⟨hcz76_0, hcz76_1⟩ := blk_cells2 BK566.out
        obtain ⟨hfz76_0, hfz76_1⟩ := blk_frozens2 BK566.out
        try go_wp2_with (first | ((with_reducible refine gate_dst (N := 31) rfl ?_); refine Kd.R_lit (Kd.int .u8) _ 5 ?hg (N := 31) ?hd (xs := ([7] : List Int)) (inner := [.int .u8 7]) (ok := fun _ => True) (okp := fun _ => True) ?hr ?hp (fun _ hk => hk) trivial (Below.refl _ _) (Nat.le_refl _) Z44 ?_; (case hd => rfl); (case hg => rfl); (case hr => first | (go_simp; done) | (go_simp; rfl)); (case hp => exact (Reps.one (show Kd.M (Kd.int .u8) _ _ _ 7 [.int .u8 7] from rfl) (Reps.none _ _))); intro v584 w77 ho78 hb hg_ hnew_; clear hg_ hnew_; (first | rw [← Ny583.out] at ho78 | (simp only [Int.reduceToNat] at ho78; rw [← Ny583.out] at ho78)); have n0_ := ZA (Kd.N_elder' Z96 (Kd.R_base ho78) hb); have n1_ := ZA (Kd.R_lower (Kd.R_newM (M := fun k_ => (w.heap.size ≤ k_)) ho78 (keep_size (w := w) (g := g) (row := none) Z0) (fun k_ h_ => h_)) (keep_size (w := w) (g := g) (row := none) Z0)); have n2_ := ZA (blk_below (bup BK560.out) hb); have n3_ := ZA (blk_below (bup BK561.out) hb); have n4_ := ZA (blk_below (bup BK566.out) hb); have n5_ := ZA (blk_below (bup BK567.out) hb); have n6_ := ZA (IsS82.below Z5 hb); have n7_ := ZA (KeepBut.trans Z0 (KeepBut.of_below hb g none) (.inl rfl)); have n8_ := ZA (below_step Z17 hb); clear HO_567001 BK560 BK561 BK566 BK567 HI0 HK HB; have HO_567001 := n0_; have HO585 := n1_; have BK560 := n2_; have BK561 := n3_; have BK566 := n4_; have BK567 := n5_; have HI0 := n6_; have HK := n7_; have HB := n8_; clear n0_ n1_ n2_ n3_ n4_ n5_ n6_ n7_ n8_ hb ho78; obtain ⟨Ao80, co80, eo80⟩ := Kd.R_slice HO585.out; subst eo80) | ((with_reducible refine gate_builtin (b := .append) (xs := #[.tmp 30, .tmp 32]) rfl ?_); at_builtin; refine Kd.N_append (Kd.slice 5 (Kd.int .u8)) w.heap.size rfl (.tmp 30) (.tmp 32) 22 36 (.slice none 0 0) 24 rfl Try.underlying22 info36 rfl Z25 Z8 (.slice Ao70 x567001_1.length co70) x567001_1 y583 [.slice Ao80 y583.length co80] (fun k_ => (w.heap.size ≤ k_) ∧ k_ ≠ gb560 ∧ k_ ≠ gb561 ∧ k_ ≠ gb566 ∧ k_ ≠ gb567 ∧ k_ ≠ g) (fun k_ => ((fun k_ => (w.heap.size ≤ k_) ∧ k_ ≠ gb560 ∧ k_ ≠ gb561 ∧ k_ ≠ gb566 ∧ k_ ≠ gb567 ∧ k_ ≠ g)) k_ ∧ some k_ ≠ (.slice Ao70 x567001_1.length co70 : Value).ownBlock) rfl rfl ?aP (fun _ hk => hk) ?aF ?aO (Below.refl _ _) ?aS ?aL ?_; (case aP => exact (Kd.FK_slice_mk (Kd.R_reads' (Kd.R_mono (ok' := (fun k_ => ((fun k_ => (w.heap.size ≤ k_) ∧ k_ ≠ gb560 ∧ k_ ≠ gb561 ∧ k_ ≠ gb566 ∧ k_ ≠ gb567 ∧ k_ ≠ g)) k_ ∧ some k_ ≠ (.slice Ao70 x567001_1.length co70 : Value).ownBlock)) (IsS82.apart HI0.out (Kd.R_types (Kd.R_types (Kd.R_types (Kd.R_types (Kd.R_apart' (HO585.out) (Kd.N_typed HO_567001.out) Z25) BK560.out Z25) BK561.out Z25) BK566.out Z25) BK567.out Z25) Z25) (fun k_ hk => ⟨⟨hk.1.1.1.1.1.1.1, ⟨hk.1.1.1.1.2, ⟨hk.1.1.1.2, ⟨hk.1.1.2, ⟨hk.1.2, hk.2⟩⟩⟩⟩⟩, hk.1.1.1.1.1.2⟩))).2.1 (Kd.R_F (Kd.R_mono (ok' := (fun k_ => ((fun k_ => (w.heap.size ≤ k_) ∧ k_ ≠ gb560 ∧ k_ ≠ gb561 ∧ k_ ≠ gb566 ∧ k_ ≠ gb567 ∧ k_ ≠ g)) k_ ∧ some k_ ≠ (.slice Ao70 x567001_1.length co70 : Value).ownBlock)) (IsS82.apart HI0.out (Kd.R_types (Kd.R_types (Kd.R_types (Kd.R_types (Kd.R_apart' (HO585.out) (Kd.N_typed HO_567001.out) Z25) BK560.out Z25) BK561.out Z25) BK566.out Z25) BK567.out Z25) Z25) (fun k_ hk => ⟨⟨hk.1.1.1.1.1.1.1, ⟨hk.1.1.1.1.2, ⟨hk.1.1.1.2, ⟨hk.1.1.2, ⟨hk.1.2, hk.2⟩⟩⟩⟩⟩, hk.1.1.1.1.1.2⟩))))); (case aF => exact (fun k_ hk => ⟨(Nat.le_trans (keep_size (w := w) (g := g) (row := none) Z0) hk), Kd.freshB (g := gb560) (o := .cells #[x0_, x1_] 27 (0, 0)) (bup BK560.out) k_ hk, Kd.freshB (g := gb561) (o := .cells #[y0_, y1_] 27 (0, 0)) (bup BK561.out) k_ hk, Kd.freshB (g := gb566) (o := .cells #[.int .i64 t562, .slice Ao70 x567001_1.length co70] 27 (0, 0)) (bup BK566.out) k_ hk, Kd.freshB (g := gb567) (o := .cells #[.int .i64 0, .slice none 0 0] 27 (0, 0)) (bup BK567.out) k_ hk, IsS82.fresh Z5 k_ hk⟩)); (case aO => exact (by (with_reducible repeat (first | apply Kd.N_alloc | apply Kd.N_drewN | apply Kd.N_drew)); exact Kd.N_mono HO_567001.out (fun _ hk => ⟨hk.1.1, ⟨hk.1.2.1, ⟨hk.1.2.2.1, ⟨hk.1.2.2.2.1, ⟨hk.1.2.2.2.2.1, hk.1.2.2.2.2.2⟩⟩⟩⟩⟩))); (case aS => exact (keep_size (w := w) (g := g) (row := none) Z0)); (case aL => have := LMc68.out; omega); intro v587 w79 ho hb hg hat; rw [← Ny586.out] at ho; have n0_ := ZA (blk_grown (g := gb560) (o := .cells #[x0_, x1_] 27 (0, 0)) (bup BK560.out) hg (Kd.N_ne HO_567001.out BK560.out Z25)); have n1_ := ZA (blk_grown (g := gb561) (o := .cells #[y0_, y1_] 27 (0, 0)) (bup BK561.out) hg (Kd.N_ne HO_567001.out BK561.out Z25)); have n2_ := ZA (blk_grown (g := gb566) (o := .cells #[.int .i64 t562, .slice Ao70 x567001_1.length co70] 27 (0, 0)) (bup BK566.out) hg (Kd.N_ne HO_567001.out BK566.out Z25)); have n3_ := ZA (blk_grown (g := gb567) (o := .cells #[.int .i64 0, .slice none 0 0] 27 (0, 0)) (bup BK567.out) hg (Kd.N_ne HO_567001.out BK567.out Z25)); have n4_ := ZA (IsS82.grown Z5 hg (IsS82.own_neN HI0.out HO_567001.out Z25)); have n5_ := ZA (below_weaken Z17 HL.out hb); have n6_ := ZA (KeepBut.trans Z0 (KeepBut.of_grown hg g) (Kd.N_base2 HO_567001.out)); have n7_ := ZA (ho); clear BK560 BK561 BK566 BK567 HI0 HB HK HO_567001 HO585; have BK560 := n0_; have BK561 := n1_; have BK566 := n2_; have BK567 := n3_; have HI0 := n4_; have HB := n5_; have HK := n6_; have HO588 := n7_; clear n0_ n1_ n2_ n3_ n4_ n5_ n6_ n7_ ho hb hg hat; obtain ⟨Ao81, co81, eo81⟩ := Kd.N_slice HO588.out; subst eo81; obtain ⟨hcz82_0, hcz82_1⟩ := blk_cells2 BK566.out; obtain ⟨hfz82_0, hfz82_1⟩ := blk_frozens2 BK566.out))
        go_roundg k1
        case measure => have := HK1.out; omega
        case rel => exact ⟨(t581), (t582), (y586), (.slice Ao81 y586.length co81), H', ⟨by have := HK1.out; omega⟩, ⟨by (with_reducible repeat (first | apply Kd.N_alloc | apply Kd.N_drewN | apply Kd.N_drew)); exact Kd.N_mono (Kd.N_far (p := ⟨gb566, 1, none⟩) (Kd.N_mono HO588.out (fun k_ hk => (⟨hk, hk.2.2.2.1⟩ : _ ∧ k_ ≠ gb566))) (fun _ hk => hk.2) (.slice Ao81 y586.length co81)) (fun _ hk => ⟨hk.1.1, ⟨hk.1.2.1, ⟨hk.1.2.2.1, ⟨hk.1.2.2.2.1, ⟨hk.1.2.2.2.2.1, hk.1.2.2.2.2.2⟩⟩⟩⟩⟩)⟩, ⟨bput BK560.out⟩, ⟨bput BK561.out⟩, ⟨bput BK566.out⟩, ⟨bput BK567.out⟩, ⟨Z23⟩, ⟨Z26⟩, ⟨Z31⟩⟩
       ·rw [if_neg c68] at H
        exact absurd H Z44
      ·rw [if_neg c67] at H
       have c67b0 : decide ((x567001_1.length : Int) < (wrap64 (16 + t580))) = false := decide_eq_false c67
       clear c67
       simp only [Option.some.injEq, Prod.mk.injEq] at H
       obtain ⟨rfl, rfl, rfl, rfl⟩ := H
       try go_wp2
       have n0_ := ZA (Kd.N_drew HO_567001.out)
       have n1_ := ZA (blk_drew BK560.out)
       have n2_ := ZA (blk_drew BK561.out)
       have n3_ := ZA (blk_drew BK566.out)
       have n4_ := ZA (blk_drew BK567.out)
       have n5_ := ZA (IsS82.drew HI0.out)
       have n6_ := ZA (keep_drew HK.out)
       have n7_ := ZA (below_drew1 HB.out)
       clear HO_567001
       clear BK560
       clear BK561
       clear BK566
       clear BK567
       clear HI0
       clear HK
       clear HB
       have HO_567001 := n0_
       have BK560 := n1_
       have BK561 := n2_
       have BK566 := n3_
       have BK567 := n4_
       have HI0 := n5_
       have HK := n6_
       have HB := n7_
       clear n0_ n1_ n2_ n3_ n4_ n5_ n6_ n7_
       obtain ⟨Ao84, co84, eo84⟩ := Kd.N_slice HO_567001.out
       (first | subst eo84 | (injection eo84 with f1_ f2_ f3_; have f4_ := f1_.symm; have f5_ := f3_.symm; clear f1_ f2_ f3_; subst f4_; subst f5_))
       refine start_ (n := 7) (S := fun w' => w'.cell? ⟨gb566, 0, none⟩ = some (.int .i64 t562) ∧ w'.cell? ⟨gb566, 1, none⟩ = some (.slice Ao84 x567001_1.length co84)) (ds := []) #[false, false, false, false, false, false, false] Z12 rfl rfl (blk_cells2 BK566.out) (fun hHeld => ?_)
       generalize wr.drew = w83 at HO_567001 BK560 BK561 BK566 BK567 HI0 HK HB hHeld ⊢
       refine pure_ (i := 0) (N := some 22) (v := ?_) (a' := ?_) #[true, false, false, false, false, false, false] rfl rfl Z12 (fun _ _ _ h => h) (Or.inl ⟨by rfl, ?_⟩) ?_ ?_
       rotate_left
       ·intro w'
        go_simp
        with_reducible rfl
       rotate_left
       ·simp only [Act.put, List.setIfInBounds_toArray, List.set_cons_zero, List.set_cons_succ, i64_w, i32_w]
        rfl
       refine pure_ (i := 3) (N := some 25) (v := ?_) (a' := ?_) #[true, false, false, true, false, false, false] rfl rfl Z12 (fun _ _ _ h => h) (Or.inl ⟨by rfl, ?_⟩) ?_ ?_
       rotate_left
       ·intro w'
        go_simp
        with_reducible rfl
       rotate_left
       ·simp only [Act.put, List.setIfInBounds_toArray, List.set_cons_zero, List.set_cons_succ, i64_w, i32_w]
        rfl
       refine take_ (i := 1) (N := some 23) (v := ?_) (a' := ?_) #[true, true, false, true, false, false, false] rfl rfl Z12 (fun _ _ _ h => h) (Or.inl ⟨by rfl, ?_⟩) hHeld ?_ ?_
       rotate_left
       ·rintro w' ⟨s0, s1⟩
        go_simp
        with_reducible rfl
       rotate_left
       ·simp only [Act.put, List.setIfInBounds_toArray, List.set_cons_zero, List.set_cons_succ, i64_w, i32_w]
        rfl
       refine pure_ (i := 2) (N := some 24) (v := ?_) (a' := ?_) #[true, true, true, true, false, false, false] rfl rfl Z12 (fun _ _ _ h => h) (Or.inl ⟨by rfl, ?_⟩) ?_ ?_
       rotate_left
       ·intro w'
        go_simp
        with_reducible rfl
       rotate_left
       ·simp only [Act.put, List.setIfInBounds_toArray, List.set_cons_zero, List.set_cons_succ, i64_w, i32_w]
        rfl
       refine one_ (i := 4) (N := some 26) #[true, true, true, true, true, false, false] rfl rfl Z12 Z25 (fun K hK => ?_)
       refine goes_ Try.func63 Z12 rfl #[.pointer (some ⟨g, 0, none⟩), .int .i64 2] Z94 rfl rfl Z1 ?_
       with_reducible refine (spec_l1Below.calls g s0_0 x1001_1 x1002_1 2 t580 t581 t582 w0 _ ?side1 ?side2 A66.out).mono ?_
       (case side1 => repeat (first | (with_reducible first | exact HI0.out | apply IsS82.alloc | apply IsS82.drewN | apply IsS82.drew | apply IsS82.set_1 | apply IsS82.set_2 | refine IsS82.far ?_ NB0_560.out _ | refine IsS82.far ?_ NB0_561.out _ | refine IsS82.far ?_ NB0_566.out _ | refine IsS82.far ?_ NB0_567.out _) | exact HI0.out))
       (case side2 => repeat (first | (with_reducible first | exact HB.out | apply h1 | apply h2 | apply h3 | refine h4 ?_ (IsS82.ge HI0.out) | refine h4 ?_ GE560.out | refine h4 ?_ GE561.out | refine h4 ?_ GE566.out | refine h4 ?_ GE567.out) | exact HB.out))
       rintro e w85 ⟨rfl, hi, hb, hk⟩
       refine ⟨_, rfl, ?_⟩
       have n0_ := ZA (Kd.N_mono (Kd.N_keep (Kd.N_mono (ok := fun k_ => (((w.heap.size ≤ k_)) ∧ (k_ ≠ gb560 ∧ (k_ ≠ gb561 ∧ (k_ ≠ gb566 ∧ (k_ ≠ gb567 ∧ k_ ≠ g)))))) Z96 (fun k_ hk_ => (⟨hk_, hk_.2.2.2.2.2⟩ : _ ∧ k_ ≠ g))) hk (fun _ h => h.2)) (fun _ h => h.1))
       have n1_ := ZA (KeepBut.blk hk (g' := gb560) (o := .cells #[x0_, x1_] 27 (0, 0)) (bup BK560.out) NB560_0.out Z44)
       have n2_ := ZA (KeepBut.blk hk (g' := gb561) (o := .cells #[y0_, y1_] 27 (0, 0)) (bup BK561.out) NB561_0.out Z44)
       have n3_ := ZA (KeepBut.blk hk (g' := gb566) (o := .cells #[.int .i64 t562, .slice Ao84 x567001_1.length co84] 27 (0, 0)) (bup BK566.out) NB566_0.out Z44)
       have n4_ := ZA (KeepBut.blk hk (g' := gb567) (o := .cells #[.int .i64 0, .slice none 0 0] 27 (0, 0)) (bup BK567.out) NB567_0.out Z44)
       have n5_ := ZA (KeepBut.trans Z0 hk (.inl rfl))
       have n6_ := ZA (hb)
       have n7_ := ZA (hi)
       clear HO_567001
       clear BK560
       clear BK561
       clear BK566
       clear BK567
       clear HK
       clear HB
       clear HI0
       have HO_567001 := n0_
       have BK560 := n1_
       have BK561 := n2_
       have BK566 := n3_
       have BK567 := n4_
       have HK := n5_
       have HB := n6_
       have HI0 := n7_
       clear n0_ n1_ n2_ n3_ n4_ n5_ n6_ n7_
       (try clear hb)
       (try clear hb2)
       (try clear hk)
       (try clear hi)
       refine hK.out _ _ (blk_cells2 BK566.out) (fun hHeld => ?_)
       clear hK K
       refine norm_ (a' := ?_) ?_ ?_
       rotate_left
       ·show Act.put _ (some 26) _ = _
        simp only [Act.put, List.setIfInBounds_toArray, List.set_cons_zero, List.set_cons_succ, i64_w, i32_w]
        rfl
       refine pure_ (i := 5) (N := some 27) (v := ?_) (a' := ?_) #[true, true, true, true, true, true, false] rfl rfl Z12 (fun _ _ _ h => h) (Or.inl ⟨by rfl, ?_⟩) ?_ ?_
       rotate_left
       ·intro w'
        go_simp
        with_reducible rfl
       rotate_left
       ·simp only [Act.put, List.setIfInBounds_toArray, List.set_cons_zero, List.set_cons_succ, i64_w, i32_w]
        rfl
       refine pure_ (i := 6) (N := some 28) (v := ?_) (a' := ?_) #[true, true, true, true, true, true, true] rfl rfl Z12 (fun _ _ _ h => h) (Or.inl ⟨by rfl, ?_⟩) ?_ ?_
       rotate_left
       ·intro w'
        go_simp
        with_reducible rfl
       rotate_left
       ·simp only [Act.put, List.setIfInBounds_toArray, List.set_cons_zero, List.set_cons_succ, i64_w, i32_w]
        rfl
       refine done_ Z12 ?_
       have hnb86 := NB560_561.out
       have hnc86 := NB561_560.out
       have hnb87 := NB560_566.out
       have hnc87 := NB566_560.out
       have hnb88 := NB560_567.out
       have hnc88 := NB567_560.out
       have hnb89 := NB560_0.out
       have hnc89 := NB0_560.out
       obtain ⟨hcz90_0, hcz90_1⟩ := blk_cells2 BK560.out
       obtain ⟨hfz90_0, hfz90_1⟩ := blk_frozens2 BK560.out
       have hnb91 := NB561_566.out
       have hnc91 := NB566_561.out
       have hnb92 := NB561_567.out
       have hnc92 := NB567_561.out
       have hnb93 := NB561_0.out
       have hnc93 := NB0_561.out
       obtain ⟨hcz94_0, hcz94_1⟩ := blk_cells2 BK561.out
       obtain ⟨hfz94_0, hfz94_1⟩ := blk_frozens2 BK561.out
       have hnb95 := NB566_567.out
       have hnc95 := NB567_566.out
       have hnb96 := NB566_0.out
       have hnc96 := NB0_566.out
       obtain ⟨hcz97_0, hcz97_1⟩ := blk_cells2 BK566.out
       obtain ⟨hfz97_0, hfz97_1⟩ := blk_frozens2 BK566.out
       have hnb98 := NB567_0.out
       have hnc98 := NB0_567.out
       obtain ⟨hcz99_0, hcz99_1⟩ := blk_cells2 BK567.out
       obtain ⟨hfz99_0, hfz99_1⟩ := blk_frozens2 BK567.out
       try go_wp2
       refine bodyPost_ret (results_cell_row rfl _ _ gb567 27 #[.int .i64 t562, .slice Ao84 x567001_1.length co84] (0, 0) _ rfl (bput BK567.out) Try.underlying27 rfl Z12) rfl ?_
       exact ⟨_, by first | rfl | (simp [errW_none, errW_some] <;> rfl) | (simp [*, errW_none, errW_some] <;> rfl), by (with_reducible repeat (first | apply Kd.N_alloc | apply Kd.N_drewN | apply Kd.N_drew)); exact Kd.N_mono (Kd.N_far (p := ⟨gb567, 1, none⟩) (Kd.N_far (p := ⟨gb567, 0, none⟩) (Kd.N_mono HO_567001.out (fun k_ hk => (⟨hk, hk.2.2.2.2.1⟩ : _ ∧ k_ ≠ gb567))) (fun _ hk => hk.2) (.int .i64 t562)) (fun _ hk => hk.2) (.slice Ao84 x567001_1.length co84)) (fun _ hk => by (try dsimp only at hk); omega), Z23, Z31, Z26, Z93, Z92⟩
   ·rw [if_neg c58] at H
    have c58b0 : (t568 == 2) = false := beq_eq_false_iff_ne.mpr c58
    have c58b1 : (t568 != 2) = true := bne_iff_ne.mpr c58
    by_cases c100 : t568 = 3
    ·rw [if_pos c100] at H
     have c100b0 : (t568 == 3) = true := beq_iff_eq.mpr c100
     have c100b1 : (t568 != 3) = false := bne_eq_false_iff_eq.mpr c100
     clear c100
     replace H := Option.bind_eq_some_iff.mp H
     obtain ⟨⟨t589, t590, t591⟩, A1010, H⟩ := H
     (try dsimp only at H)
     have A101 := ZA A1010
     clear A1010
     obtain ⟨ji102, hji102⟩ : ∃ j_ : Int, (wrap64 (92 + t589)) = j_ := ⟨_, rfl⟩
     replace H : (if 0 ≤ (ji102) then (if (ji102 : Int).toNat ≤ 281474976710656 then (if t563.length < 5864062014805 then (some (t562, (t563 ++ [(List.replicate (ji102 : Int).toNat 0)]), t590, t591)) else (none)) else (none)) else (none)) = some (r1, r2, r3, r4) := by first | (rw [hji102] at H; exact H) | (simp only [hji102] at H ⊢; exact H)
     (try rw [hji102] at A3)
     (try rw [hji102] at A4)
     (try rw [hji102] at A101)
     have hji102w : (IntKind.i64.wrap (92 + t589)) = ji102 := (i64_w _).trans hji102
     by_cases c103 : 0 ≤ (ji102)
     ·rw [if_pos c103] at H
      have c103b0 := eq_true c103
      have c103b1 : decide (0 ≤ (ji102)) = true := decide_eq_true c103
      clear c103
      by_cases c104 : (ji102 : Int).toNat ≤ 281474976710656
      ·rw [if_pos c104] at H
       have c104b0 := eq_true c104
       have c104b1 : decide ((ji102 : Int).toNat ≤ 281474976710656) = true := decide_eq_true c104
       clear c104
       obtain ⟨y592, hy592⟩ : ∃ y_ : List Int, y_ = (List.replicate (ji102 : Int).toNat 0) := ⟨_, rfl⟩
       replace H : (if t563.length < 5864062014805 then (some (t562, (t563 ++ [y592]), t590, t591)) else (none)) = some (r1, r2, r3, r4) := by first | (rw [hy592]; with_reducible exact H) | (have H2_ := (Option.bind_some _ _).symm.trans H; rw [hy592]; with_reducible exact H2_) | (have H2_ := (Option.bind_some _ _).symm.trans H; with_reducible exact H2_) | with_reducible exact H | (rw [hy592]; exact H) | exact H
       have Ny592 := ZA hy592
       clear hy592
       by_cases c105 : t563.length < 5864062014805
       ·rw [if_pos c105] at H
        have LMc105 := ZA c105
        clear c105
        obtain ⟨y595, hy595⟩ : ∃ y_ : List (List Int), y_ = (t563 ++ [y592]) := ⟨_, rfl⟩
        replace H : (some (t562, y595, t590, t591)) = some (r1, r2, r3, r4) := by first | (rw [hy595]; with_reducible exact H) | (have H2_ := (Option.bind_some _ _).symm.trans H; rw [hy595]; with_reducible exact H2_) | (have H2_ := (Option.bind_some _ _).symm.trans H; with_reducible exact H2_) | with_reducible exact H | (rw [hy595]; exact H) | exact H
        have Ny595 := ZA hy595
        clear hy595
        simp only [Option.some.injEq, Prod.mk.injEq] at H
        obtain ⟨rfl, rfl, rfl, rfl⟩ := H
        go_enter Try.func60, Try.ntmps60
        obtain ⟨w108, ew_⟩ : ∃ w_, w_ = wa := ⟨_, rfl⟩
        subst ew_
        generalize (Value.slice A1_1 t563.length c1_1) = v564 at HO565 ⊢
        obtain ⟨Ao109, co109, eo109⟩ := Kd.N_slice HO565.out
        subst eo109
        try go_wp2_with (first | ((with_reducible refine gate_dst (N := 3) rfl ?_); refine box_event ?hg (N := 3) ?hd (cs := #[.int .i64 t562, .slice Ao109 t563.length co109]) (t := 27) ?hr ?_; (case hd => rfl); (case hg => rfl); (case hr => first | (go_simp; done) | (go_simp; rfl)); intro gb566 hg w110 hbox hb; have n0_ := ZA (Kd.N_below (Kd.N_elderB Z21 gb566 (Nat.le_of_eq hg.symm)) hb); have n1_ := ZA (IsS82.below (Z22) hb); have n2_ := ZA (blk_below (bup BK560.out) hb); have n3_ := ZA (blk_below (bup BK561.out) hb); have n4_ := ZA (KeepBut.trans Z14 (KeepBut.of_below hb g none) (.inl rfl)); have n5_ := ZA (below_step Z50 hb); have n6_ := ZA (hbox); have n7_ := Geq.mk ((Z55 : w.heap.size ≤ gb566)); have n8_ := ZA ((Nat.le_trans HW0.out (Z55 : w.heap.size ≤ gb566) : w0.heap.size ≤ gb566)); have n9_ := Neq.mk ((Z40 : gb560 ≠ gb566)); have n10_ := Neq.mk ((Z42 : gb566 ≠ gb560)); have n11_ := Neq.mk ((Z39 : gb561 ≠ gb566)); have n12_ := Neq.mk ((Z41 : gb566 ≠ gb561)); have n13_ := ZA ((Z80 : g ≠ gb566)); have n14_ := ZA ((Z82 : gb566 ≠ g)); clear HO565 HI0 BK560 BK561 HK HB; have HO565 := n0_; have HI0 := n1_; have BK560 := n2_; have BK561 := n3_; have HK := n4_; have HB := n5_; have BK566 := n6_; have GW566 := n7_; have GE566 := n8_; have NB560_566 := n9_; have NB566_560 := n10_; have NB561_566 := n11_; have NB566_561 := n12_; have NB0_566 := n13_; have NB566_0 := n14_; clear n0_ n1_ n2_ n3_ n4_ n5_ n6_ n7_ n8_ n9_ n10_ n11_ n12_ n13_ n14_ hb hbox hg) | ((with_reducible refine gate_dst (N := 4) rfl ?_); refine box_event ?hg (N := 4) ?hd (cs := #[.int .i64 0, .slice none 0 0]) (t := 27) ?hr ?_; (case hd => rfl); (case hg => rfl); (case hr => first | (go_simp; done) | (go_simp; rfl)); intro gb567 hg w111 hbox hb; have n0_ := ZA (Kd.N_below (Kd.N_elderB Z21 gb567 (Nat.le_of_eq hg.symm)) hb); have n1_ := ZA (IsS82.below (Z19) hb); have n2_ := ZA (blk_below (bup BK560.out) hb); have n3_ := ZA (blk_below (bup BK561.out) hb); have n4_ := ZA (blk_below (bup BK566.out) hb); have n5_ := ZA (KeepBut.trans Z11 (KeepBut.of_below hb g none) (.inl rfl)); have n6_ := ZA (below_step Z46 hb); have n7_ := ZA (hbox); have n8_ := Geq.mk ((Z56 : w.heap.size ≤ gb567)); have n9_ := ZA ((Nat.le_trans HW0.out (Z56 : w.heap.size ≤ gb567) : w0.heap.size ≤ gb567)); have n10_ := Neq.mk ((Z40 : gb560 ≠ gb567)); have n11_ := Neq.mk ((Z42 : gb567 ≠ gb560)); have n12_ := Neq.mk ((Z39 : gb561 ≠ gb567)); have n13_ := Neq.mk ((Z41 : gb567 ≠ gb561)); have n14_ := Neq.mk ((by rw [hg]; exact Nat.ne_of_lt (blk_lt (g := gb566) (o := .cells #[.int .i64 t562, .slice Ao109 t563.length co109] 27 (0, 0)) (bup BK566.out)) : gb566 ≠ gb567)); have n15_ := Neq.mk ((by rw [hg]; exact Nat.ne_of_gt (blk_lt (g := gb566) (o := .cells #[.int .i64 t562, .slice Ao109 t563.length co109] 27 (0, 0)) (bup BK566.out)) : gb567 ≠ gb566)); have n16_ := ZA ((Z81 : g ≠ gb567)); have n17_ := ZA ((Z83 : gb567 ≠ g)); clear HO565 HI0 BK560 BK561 BK566 HK HB; have HO565 := n0_; have HI0 := n1_; have BK560 := n2_; have BK561 := n3_; have BK566 := n4_; have HK := n5_; have HB := n6_; have BK567 := n7_; have GW567 := n8_; have GE567 := n9_; have NB560_567 := n10_; have NB567_560 := n11_; have NB561_567 := n12_; have NB567_561 := n13_; have NB566_567 := n14_; have NB567_566 := n15_; have NB0_567 := n16_; have NB567_0 := n17_; clear n0_ n1_ n2_ n3_ n4_ n5_ n6_ n7_ n8_ n9_ n10_ n11_ n12_ n13_ n14_ n15_ n16_ n17_ hb hbox hg) | ((with_reducible refine gate_callee (f := 63) rfl ?_); refine goesL_ (some 6) rfl rfl Try.func63 Z12 rfl #[.pointer (some ⟨g, 0, none⟩), .int .i64 14] rfl Z1 ?_; (with_reducible refine (spec_l1Below.calls g s0_0 s0_1 s0_2 14 t568 t569 t570 w0 _ ?side1 ?side2 A4.out).mono ?_); (case side1 => repeat (first | (with_reducible first | exact HI0.out | apply IsS82.alloc | apply IsS82.drewN | apply IsS82.drew | apply IsS82.set_1 | apply IsS82.set_2 | refine IsS82.far ?_ NB0_560.out _ | refine IsS82.far ?_ NB0_561.out _ | refine IsS82.far ?_ NB0_566.out _ | refine IsS82.far ?_ NB0_567.out _) | exact HI0.out)); (case side2 => repeat (first | (with_reducible first | exact HB.out | apply h1 | apply h2 | apply h3 | refine h4 ?_ (IsS82.ge HI0.out) | refine h4 ?_ GE560.out | refine h4 ?_ GE561.out | refine h4 ?_ GE566.out | refine h4 ?_ GE567.out) | exact HB.out)); rintro e w112 ⟨rfl, hi, hb, hk⟩; refine ⟨_, rfl, ?_⟩; have n0_ := ZA (KeepBut.blk hk (g' := gb560) (o := .cells #[x0_, x1_] 27 (0, 0)) (bup BK560.out) NB560_0.out Z44); have n1_ := ZA (KeepBut.blk hk (g' := gb561) (o := .cells #[y0_, y1_] 27 (0, 0)) (bup BK561.out) NB561_0.out Z44); have n2_ := ZA (Kd.N_mono (Kd.N_keep (Kd.N_mono (ok := fun k_ => (((((w.heap.size ≤ k_)) ∧ (k_ ≠ gb560 ∧ (k_ ≠ gb561 ∧ k_ ≠ g))) ∧ k_ ≠ gb566) ∧ k_ ≠ gb567)) Z21 (fun k_ hk_ => (⟨hk_, hk_.1.1.2.2.2⟩ : _ ∧ k_ ≠ g))) hk (fun _ h => h.2)) (fun _ h => h.1)); have n3_ := ZA (KeepBut.blk hk (g' := gb566) (o := .cells #[.int .i64 t562, .slice Ao109 t563.length co109] 27 (0, 0)) (bup BK566.out) NB566_0.out Z44); have n4_ := ZA (KeepBut.blk hk (g' := gb567) (o := .cells #[.int .i64 0, .slice none 0 0] 27 (0, 0)) (bup BK567.out) NB567_0.out Z44); have n5_ := ZA (KeepBut.trans Z0 hk (.inl rfl)); have n6_ := ZA (hb); have n7_ := ZA (hi); clear BK560 BK561 HO565 BK566 BK567 HK HB HI0; have BK560 := n0_; have BK561 := n1_; have HO565 := n2_; have BK566 := n3_; have BK567 := n4_; have HK := n5_; have HB := n6_; have HI0 := n7_; clear n0_ n1_ n2_ n3_ n4_ n5_ n6_ n7_; (try clear hb); (try clear hb2); (try clear hk); (try clear hi)))
        have n0_ := ZA (Kd.N_drew HO565.out)
        have n1_ := ZA (blk_drew BK560.out)
        have n2_ := ZA (blk_drew BK561.out)
        have n3_ := ZA (blk_drew BK566.out)
        have n4_ := ZA (blk_drew BK567.out)
        have n5_ := ZA (IsS82.drew HI0.out)
        have n6_ := ZA (keep_drew HK.out)
        have n7_ := ZA (below_drew1 HB.out)
        clear HO565
        clear BK560
        clear BK561
        clear BK566
        clear BK567
        clear HI0
        clear HK
        clear HB
        have HO565 := n0_
        have BK560 := n1_
        have BK561 := n2_
        have BK566 := n3_
        have BK567 := n4_
        have HI0 := n5_
        have HK := n6_
        have HB := n7_
        clear n0_ n1_ n2_ n3_ n4_ n5_ n6_ n7_
        refine start_ (n := 10) (S := fun w' => w'.cell? ⟨gb566, 0, none⟩ = some (.int .i64 t562) ∧ w'.cell? ⟨gb566, 1, none⟩ = some (.slice Ao109 t563.length co109)) (ds := [9]) #[false, false, false, false, false, false, false, false, false, false] Z12 rfl rfl (blk_cells2 BK566.out) (fun hHeld => ?_); refine with_tabW spec_l7bent.tab10 spec_l7bent.bits10 (fun HT_ HW_ => ?_)
        generalize w112.drew = w113 at HO565 BK560 BK561 BK566 BK567 HI0 HK HB hHeld ⊢
        refine pure_ (i := 0) (N := some 37) (v := ?_) (a' := ?_) #[true, false, false, false, false, false, false, false, false, false] rfl rfl (any_of HT_.out Z12) (fun _ _ _ h => h) (Or.inl ⟨by rfl, ?_⟩) ?_ ?_
        rotate_left
        ·intro w'
         go_simp
         with_reducible rfl
        rotate_left
        ·simp only [Act.put, List.setIfInBounds_toArray, List.set_cons_zero, List.set_cons_succ, i64_w, i32_w]
         rfl
        refine pure_ (i := 2) (N := some 39) (v := ?_) (a' := ?_) #[true, false, true, false, false, false, false, false, false, false] rfl rfl (any_of HT_.out Z12) (fun _ _ _ h => h) (Or.inl ⟨by rfl, ?_⟩) ?_ ?_
        rotate_left
        ·intro w'
         go_simp
         with_reducible rfl
        rotate_left
        ·simp only [Act.put, List.setIfInBounds_toArray, List.set_cons_zero, List.set_cons_succ, i64_w, i32_w]
         rfl
        refine take_ (i := 1) (N := some 38) (v := ?_) (a' := ?_) #[true, true, true, false, false, false, false, false, false, false] rfl rfl (take_ofW HT_.out HW_.out Z12) (fun _ _ _ h => h) (Or.inl ⟨by rfl, ?_⟩) hHeld ?_ ?_
        rotate_left
        ·rintro w' ⟨s0, s1⟩
         go_simp
         with_reducible rfl
        rotate_left
        ·simp only [Act.put, List.setIfInBounds_toArray, List.set_cons_zero, List.set_cons_succ, i64_w, i32_w]
         rfl
        refine one_ (i := 3) (N := some 40) #[true, true, true, true, false, false, false, false, false, false] rfl rfl (one_of HT_.out Z12) Z25 (fun K hK => ?_)
        refine goes_ Try.func63 Z12 rfl #[.pointer (some ⟨g, 0, none⟩), .int .i64 2] Z94 rfl rfl Z1 ?_
        with_reducible refine (spec_l1Below.calls g s0_0 t569 t570 2 t589 t590 t591 w0 _ ?side1 ?side2 A101.out).mono ?_
        (case side1 => repeat (first | (with_reducible first | exact HI0.out | apply IsS82.alloc | apply IsS82.drewN | apply IsS82.drew | apply IsS82.set_1 | apply IsS82.set_2 | refine IsS82.far ?_ NB0_560.out _ | refine IsS82.far ?_ NB0_561.out _ | refine IsS82.far ?_ NB0_566.out _ | refine IsS82.far ?_ NB0_567.out _) | exact HI0.out))
        (case side2 => repeat (first | (with_reducible first | exact HB.out | apply h1 | apply h2 | apply h3 | refine h4 ?_ (IsS82.ge HI0.out) | refine h4 ?_ GE560.out | refine h4 ?_ GE561.out | refine h4 ?_ GE566.out | refine h4 ?_ GE567.out) | exact HB.out))
        rintro e w114 ⟨rfl, hi, hb, hk⟩
        refine ⟨_, rfl, ?_⟩
        have n0_ := ZA (KeepBut.blk hk (g' := gb560) (o := .cells #[x0_, x1_] 27 (0, 0)) (bup BK560.out) NB560_0.out Z44)
        have n1_ := ZA (KeepBut.blk hk (g' := gb561) (o := .cells #[y0_, y1_] 27 (0, 0)) (bup BK561.out) NB561_0.out Z44)
        have n2_ := ZA (Kd.N_mono (Kd.N_keep (Kd.N_mono (ok := fun k_ => (((((w.heap.size ≤ k_)) ∧ (k_ ≠ gb560 ∧ (k_ ≠ gb561 ∧ k_ ≠ g))) ∧ k_ ≠ gb566) ∧ k_ ≠ gb567)) Z21 (fun k_ hk_ => (⟨hk_, hk_.1.1.2.2.2⟩ : _ ∧ k_ ≠ g))) hk (fun _ h => h.2)) (fun _ h => h.1))
        have n3_ := ZA (KeepBut.blk hk (g' := gb566) (o := .cells #[.int .i64 t562, .slice Ao109 t563.length co109] 27 (0, 0)) (bup BK566.out) NB566_0.out Z44)
        have n4_ := ZA (KeepBut.blk hk (g' := gb567) (o := .cells #[.int .i64 0, .slice none 0 0] 27 (0, 0)) (bup BK567.out) NB567_0.out Z44)
        have n5_ := ZA (KeepBut.trans Z0 hk (.inl rfl))
        have n6_ := ZA (hb)
        have n7_ := ZA (hi)
        clear BK560
        clear BK561
        clear HO565
        clear BK566
        clear BK567
        clear HK
        clear HB
        clear HI0
        have BK560 := n0_
        have BK561 := n1_
        have HO565 := n2_
        have BK566 := n3_
        have BK567 := n4_
        have HK := n5_
        have HB := n6_
        have HI0 := n7_
        clear n0_ n1_ n2_ n3_ n4_ n5_ n6_ n7_
        (try clear hb)
        (try clear hb2)
        (try clear hk)
        (try clear hi)
        refine hK.out _ _ (blk_cells2 BK566.out) (fun hHeld => ?_)
        clear hK K
        refine norm_ (a' := ?_) ?_ ?_
        rotate_left
        ·show Act.put _ (some 40) _ = _
         simp only [Act.put, List.setIfInBounds_toArray, List.set_cons_zero, List.set_cons_succ, i64_w, i32_w]
         rfl
        refine pure_ (i := 4) (N := some 41) (v := ?_) (a' := ?_) #[true, true, true, true, true, false, false, false, false, false] rfl rfl (any_of HT_.out Z12) (fun _ _ _ h => h) (Or.inl ⟨by rfl, ?_⟩) ?_ ?_
        rotate_left
        ·intro w'
         go_simp
         with_reducible rfl
        rotate_left
        ·simp only [Act.put, List.setIfInBounds_toArray, List.set_cons_zero, List.set_cons_succ, i64_w, i32_w]
         rfl
        refine one_ (i := 5) (N := some 42) #[true, true, true, true, true, true, false, false, false, false] rfl rfl (one_of HT_.out Z12) Z25 (fun K hK => ?_)
        refine Kd.R_make_step (Kd.int .u8) _ 5 Z94 (N := 42) rfl 36 _ _ rfl ji102 rfl rfl Try.underlying36 (.int .u8 0) 1 info5 rfl Z25 Z8 0 (ok := fun _ => True) (okp := fun _ => True) rfl (fun _ hk => hk) trivial (of_decide_eq_true Z10) (Nat.le_trans (Nat.mul_le_mul_right _ (of_decide_eq_true Z10 : ji102.toNat ≤ 281474976710656)) Z8) (Below.refl _ _) (Nat.le_refl _) ?_
        intro v593 w115 ho116 hb hg_ hnew_
        clear hg_ hnew_
        (first | rw [← Ny592.out] at ho116 | (simp only [Int.reduceToNat] at ho116; rw [← Ny592.out] at ho116))
        have n0_ := ZA (Kd.N_elder' Z21 (Kd.R_base ho116) hb)
        have n1_ := ZA (Kd.R_lower (Kd.R_newM (M := fun k_ => (w.heap.size ≤ k_)) ho116 (keep_size (w := w) (g := g) (row := none) Z0) (fun k_ h_ => h_)) (keep_size (w := w) (g := g) (row := none) Z0))
        have n2_ := ZA (IsS82.below Z5 hb)
        have n3_ := ZA (blk_below (bup BK560.out) hb)
        have n4_ := ZA (blk_below (bup BK561.out) hb)
        have n5_ := ZA (blk_below (bup BK566.out) hb)
        have n6_ := ZA (blk_below (bup BK567.out) hb)
        have n7_ := ZA (KeepBut.trans Z0 (KeepBut.of_below hb g none) (.inl rfl))
        have n8_ := ZA (below_step Z17 hb)
        clear HO565
        clear HI0
        clear BK560
        clear BK561
        clear BK566
        clear BK567
        clear HK
        clear HB
        have HO565 := n0_
        have HO594 := n1_
        have HI0 := n2_
        have BK560 := n3_
        have BK561 := n4_
        have BK566 := n5_
        have BK567 := n6_
        have HK := n7_
        have HB := n8_
        clear n0_ n1_ n2_ n3_ n4_ n5_ n6_ n7_ n8_
        clear hb ho116
        obtain ⟨Ao118, co118, eo118⟩ := Kd.R_slice HO594.out
        (first | subst eo118 | (injection eo118 with f1_ f2_ f3_; have f4_ := f1_.symm; have f5_ := f3_.symm; clear f1_ f2_ f3_; subst f4_; subst f5_))
        refine hK.out _ _ (blk_cells2 BK566.out) (fun hHeld => ?_)
        clear hK K
        refine norm_ (a' := ?_) ?_ ?_
        rotate_left
        ·show Act.put _ (some 42) _ = _
         simp only [Act.put, List.setIfInBounds_toArray, List.set_cons_zero, List.set_cons_succ, i64_w, i32_w]
         rfl
        refine one_ (i := 6) (N := some 43) #[true, true, true, true, true, true, true, false, false, false] rfl rfl (one_of HT_.out Z12) Z25 (fun K hK => ?_)
        refine value_ (w1 := ?_) (v := ?_) Z94 rfl ?_ ?_
        rotate_left 2
        ·go_simp
         constructor
         ·rfl
         ·rfl
        refine hK.out _ _ ⟨(blk_cell (blk_alloc BK566.out _) 0).trans rfl, (blk_cell (blk_alloc BK566.out _) 1).trans rfl⟩ (fun hHeld => ?_)
        clear hK K
        refine norm_ (a' := ?_) ?_ ?_
        rotate_left
        ·show Act.put _ (some 43) _ = _
         simp only [Act.put, List.setIfInBounds_toArray, List.set_cons_zero, List.set_cons_succ, i64_w, i32_w]
         rfl
        refine one_ (i := 7) (N := some 44) #[true, true, true, true, true, true, true, true, false, false] rfl rfl (one_of HT_.out Z12) Z25 (fun K hK => ?_)
        refine Kd.N_append_step (Kd.slice 5 (Kd.int .u8)) w.heap.size Z94 (.tmp 38) (.tmp 43) 22 36 (.slice none 0 0) 24 rfl Try.underlying22 info36 rfl Z25 Z8 (.slice Ao109 t563.length co109) t563 y592 [.slice Ao118 y592.length co118] (fun k_ => (w.heap.size ≤ k_) ∧ k_ ≠ gb560 ∧ k_ ≠ gb561 ∧ k_ ≠ gb566 ∧ k_ ≠ gb567 ∧ k_ ≠ g) (fun k_ => ((fun k_ => (w.heap.size ≤ k_) ∧ k_ ≠ gb560 ∧ k_ ≠ gb561 ∧ k_ ≠ gb566 ∧ k_ ≠ gb567 ∧ k_ ≠ g)) k_ ∧ some k_ ≠ (.slice Ao109 t563.length co109 : Value).ownBlock) rfl rfl ?aP (fun _ hk => hk) ?aF ?aO (Below.refl _ _) ?aS ?aL ?_
        (case aP => exact (Kd.FK_slice_mk (Kd.R_reads' (Kd.R_mono (ok' := (fun k_ => ((fun k_ => (w.heap.size ≤ k_) ∧ k_ ≠ gb560 ∧ k_ ≠ gb561 ∧ k_ ≠ gb566 ∧ k_ ≠ gb567 ∧ k_ ≠ g)) k_ ∧ some k_ ≠ (.slice Ao109 t563.length co109 : Value).ownBlock)) (IsS82.apart HI0.out (Kd.R_types (Kd.R_types (Kd.R_types (Kd.R_types (Kd.R_apart' (HO594.out) (Kd.N_typed HO565.out) Z25) BK560.out Z25) BK561.out Z25) BK566.out Z25) BK567.out Z25) Z25) (fun k_ hk => ⟨⟨hk.1.1.1.1.1.1.1, ⟨hk.1.1.1.1.2, ⟨hk.1.1.1.2, ⟨hk.1.1.2, ⟨hk.1.2, hk.2⟩⟩⟩⟩⟩, hk.1.1.1.1.1.2⟩))).2.1 (Kd.R_F (Kd.R_mono (ok' := (fun k_ => ((fun k_ => (w.heap.size ≤ k_) ∧ k_ ≠ gb560 ∧ k_ ≠ gb561 ∧ k_ ≠ gb566 ∧ k_ ≠ gb567 ∧ k_ ≠ g)) k_ ∧ some k_ ≠ (.slice Ao109 t563.length co109 : Value).ownBlock)) (IsS82.apart HI0.out (Kd.R_types (Kd.R_types (Kd.R_types (Kd.R_types (Kd.R_apart' (HO594.out) (Kd.N_typed HO565.out) Z25) BK560.out Z25) BK561.out Z25) BK566.out Z25) BK567.out Z25) Z25) (fun k_ hk => ⟨⟨hk.1.1.1.1.1.1.1, ⟨hk.1.1.1.1.2, ⟨hk.1.1.1.2, ⟨hk.1.1.2, ⟨hk.1.2, hk.2⟩⟩⟩⟩⟩, hk.1.1.1.1.1.2⟩)))))
        (case aF => exact (fun k_ hk => ⟨(Nat.le_trans (keep_size (w := w) (g := g) (row := none) Z0) hk), Kd.freshB (g := gb560) (o := .cells #[x0_, x1_] 27 (0, 0)) (bup BK560.out) k_ hk, Kd.freshB (g := gb561) (o := .cells #[y0_, y1_] 27 (0, 0)) (bup BK561.out) k_ hk, Kd.freshB (g := gb566) (o := .cells #[.int .i64 t562, .slice Ao109 t563.length co109] 27 (0, 0)) (bup BK566.out) k_ hk, Kd.freshB (g := gb567) (o := .cells #[.int .i64 0, .slice none 0 0] 27 (0, 0)) (bup BK567.out) k_ hk, IsS82.fresh Z5 k_ hk⟩))
        (case aO => exact (by (with_reducible repeat (first | apply Kd.N_alloc | apply Kd.N_drewN | apply Kd.N_drew)); exact Kd.N_mono HO565.out (fun _ hk => ⟨hk.1.1.1.1, ⟨hk.1.1.1.2.1, ⟨hk.1.1.1.2.2.1, ⟨hk.1.1.2, ⟨hk.1.2, hk.1.1.1.2.2.2⟩⟩⟩⟩⟩)))
        (case aS => exact (keep_size (w := w) (g := g) (row := none) Z0))
        (case aL => have := LMc105.out; omega)
        intro v596 w117 ho hb hg hat
        rw [← Ny595.out] at ho
        have n0_ := ZA (IsS82.grown Z5 hg (IsS82.own_neN HI0.out HO565.out Z25))
        have n1_ := ZA (blk_grown (g := gb560) (o := .cells #[x0_, x1_] 27 (0, 0)) (bup BK560.out) hg (Kd.N_ne HO565.out BK560.out Z25))
        have n2_ := ZA (blk_grown (g := gb561) (o := .cells #[y0_, y1_] 27 (0, 0)) (bup BK561.out) hg (Kd.N_ne HO565.out BK561.out Z25))
        have n3_ := ZA (blk_grown (g := gb566) (o := .cells #[.int .i64 t562, .slice Ao109 t563.length co109] 27 (0, 0)) (bup BK566.out) hg (Kd.N_ne HO565.out BK566.out Z25))
        have n4_ := ZA (blk_grown (g := gb567) (o := .cells #[.int .i64 0, .slice none 0 0] 27 (0, 0)) (bup BK567.out) hg (Kd.N_ne HO565.out BK567.out Z25))
        have n5_ := ZA (below_weaken Z17 HL.out hb)
        have n6_ := ZA (KeepBut.trans Z0 (KeepBut.of_grown hg g) (Kd.N_base2 HO565.out))
        have n7_ := ZA (ho)
        clear HI0
        clear BK560
        clear BK561
        clear BK566
        clear BK567
        clear HB
        clear HK
        clear HO565
        clear HO594
        have HI0 := n0_
        have BK560 := n1_
        have BK561 := n2_
        have BK566 := n3_
        have BK567 := n4_
        have HB := n5_
        have HK := n6_
        have HO597 := n7_
        clear n0_ n1_ n2_ n3_ n4_ n5_ n6_ n7_
        clear ho hb hg hat
        obtain ⟨Ao119, co119, eo119⟩ := Kd.N_slice HO597.out
        (first | subst eo119 | (injection eo119 with f1_ f2_ f3_; have f4_ := f1_.symm; have f5_ := f3_.symm; clear f1_ f2_ f3_; subst f4_; subst f5_))
        refine hK.out _ _ (blk_cells2 BK566.out) (fun hHeld => ?_)
        clear hK K
        refine norm_ (a' := ?_) ?_ ?_
        rotate_left
        ·show Act.put _ (some 44) _ = _
         simp only [Act.put, List.setIfInBounds_toArray, List.set_cons_zero, List.set_cons_succ, i64_w, i32_w]
         rfl
        refine pure_ (i := 8) (N := some 45) (v := ?_) (a' := ?_) #[true, true, true, true, true, true, true, true, true, false] rfl rfl (any_of HT_.out Z12) (fun _ _ _ h => h) (Or.inl ⟨by rfl, ?_⟩) ?_ ?_
        rotate_left
        ·intro w'
         go_simp
         with_reducible rfl
        rotate_left
        ·simp only [Act.put, List.setIfInBounds_toArray, List.set_cons_zero, List.set_cons_succ, i64_w, i32_w]
         rfl
        refine last_ (i := 9) (N := none) #[true, true, true, true, true, true, true, true, true, true] rfl rfl (one_of HT_.out Z12) Z25 (fun K hK => ?_)
        have hs120 : w117.cell? ⟨gb566, 1, none⟩ = some (.slice Ao109 t563.length co109) := (blk_cell BK566.out 1).trans rfl
        have hfs120 := blk_frozen BK566.out 1
        have hns120_0 := NB560_566.out
        have hns120_1 := NB561_566.out
        have hns120_3 := NB567_566.out
        have hms120_0 := NB566_560.out
        have hms120_1 := NB566_561.out
        have hms120_3 := NB566_567.out
        refine skip_ (w1 := ?_) ?hw_ ?hN_ ?_ ?_
        case hN_ => rfl
        case hw_ => rfl
        rotate_left
        ·go_simp
         rfl
        refine hK.out _ _ ?_
        clear hK K
        refine done_ (done_of HT_.out Z12) ?_
        have hnb121 := NB560_561.out
        have hnc121 := NB561_560.out
        have hnb122 := NB560_566.out
        have hnc122 := NB566_560.out
        have hnb123 := NB560_567.out
        have hnc123 := NB567_560.out
        have hnb124 := NB560_0.out
        have hnc124 := NB0_560.out
        obtain ⟨hcz125_0, hcz125_1⟩ := blk_cells2 BK560.out
        obtain ⟨hfz125_0, hfz125_1⟩ := blk_frozens2 BK560.out
        have hnb126 := NB561_566.out
        have hnc126 := NB566_561.out
        have hnb127 := NB561_567.out
        have hnc127 := NB567_561.out
        have hnb128 := NB561_0.out
        have hnc128 := NB0_561.out
        obtain ⟨hcz129_0, hcz129_1⟩ := blk_cells2 BK561.out
        obtain ⟨hfz129_0, hfz129_1⟩ := blk_frozens2 BK561.out
        have hnb130 := NB566_567.out
        have hnc130 := NB567_566.out
        have hnb131 := NB566_0.out
        have hnc131 := NB0_566.out
        obtain ⟨hcz132_0, hcz132_1⟩ := blk_cells2 BK566.out
        obtain ⟨hfz132_0, hfz132_1⟩ := blk_frozens2 BK566.out
        have hnb133 := NB567_0.out
        have hnc133 := NB0_567.out
        obtain ⟨hcz134_0, hcz134_1⟩ := blk_cells2 BK567.out
        obtain ⟨hfz134_0, hfz134_1⟩ := blk_frozens2 BK567.out
        try go_wp2
        refine bodyPost_ret (results_cell_row rfl _ _ gb567 27 #[.int .i64 t562, .slice Ao119 y595.length co119] (0, 0) _ rfl (bput BK567.out) Try.underlying27 rfl Z12) rfl ?_
        exact ⟨_, by first | rfl | (simp [errW_none, errW_some] <;> rfl) | (simp only [← hji102]; first | rfl | (simp [errW_none, errW_some] <;> rfl)) | (simp [*, errW_none, errW_some] <;> rfl), by (with_reducible repeat (first | apply Kd.N_alloc | apply Kd.N_drewN | apply Kd.N_drew)); exact Kd.N_mono (Kd.N_far (p := ⟨gb567, 1, none⟩) (Kd.N_far (p := ⟨gb567, 0, none⟩) (Kd.N_far (p := ⟨gb566, 1, none⟩) (Kd.N_mono (Kd.N_mono HO597.out (fun k_ hk => (⟨hk, hk.2.2.2.1⟩ : _ ∧ k_ ≠ gb566))) (fun k_ hk => (⟨hk, hk.1.2.2.2.2.1⟩ : _ ∧ k_ ≠ gb567))) (fun _ hk => hk.1.2) (.slice Ao119 y595.length co119)) (fun _ hk => hk.2) (.int .i64 t562)) (fun _ hk => hk.2) (.slice Ao119 y595.length co119)) (fun _ hk => by (try dsimp only at hk); omega), Z23, Z31, Z26, Z93, Z92⟩
       ·rw [if_neg c105] at H
        exact absurd H Z44
      ·rw [if_neg c104] at H
       exact absurd H Z44
     ·rw [if_neg c103] at H
      exact absurd H Z44
    ·rw [if_neg c100] at H
     have c100b0 : (t568 == 3) = false := beq_eq_false_iff_ne.mpr c100
     have c100b1 : (t568 != 3) = true := bne_iff_ne.mpr c100
     by_cases c135 : t568 = 4
     ·rw [if_pos c135] at H
      have c135b0 : (t568 == 4) = true := beq_iff_eq.mpr c135
      have c135b1 : (t568 != 4) = false := bne_eq_false_iff_eq.mpr c135
      clear c135
      by_cases c136 : 92 ≤ 281474976710656
      ·rw [if_pos c136] at H
       have c136b0 := eq_true c136
       have c136b1 : decide (92 ≤ 281474976710656) = true := decide_eq_true c136
       clear c136
       obtain ⟨y598, hy598⟩ : ∃ y_ : List Int, y_ = (List.replicate 92 0) := ⟨_, rfl⟩
       replace H : ((some (([y598, (List.replicate 92 0)] : List (List Int)) : List (List Int))).bind fun y604 => (if t563.length + y604.length < 5864062014805 then (some (t562, (t563 ++ y604), t569, t570)) else (none))) = some (r1, r2, r3, r4) := by first | (rw [hy598]; with_reducible exact H) | (have H2_ := (Option.bind_some _ _).symm.trans H; rw [hy598]; with_reducible exact H2_) | (have H2_ := (Option.bind_some _ _).symm.trans H; with_reducible exact H2_) | with_reducible exact H | (rw [hy598]; exact H) | exact H
       have Ny598 := ZA hy598
       clear hy598
       obtain ⟨y601, hy601⟩ : ∃ y_ : List Int, y_ = (List.replicate 92 0) := ⟨_, rfl⟩
       replace H : ((some (([y598, y601] : List (List Int)) : List (List Int))).bind fun y604 => (if t563.length + y604.length < 5864062014805 then (some (t562, (t563 ++ y604), t569, t570)) else (none))) = some (r1, r2, r3, r4) := by first | (rw [hy601]; with_reducible exact H) | (have H2_ := (Option.bind_some _ _).symm.trans H; rw [hy601]; with_reducible exact H2_) | (have H2_ := (Option.bind_some _ _).symm.trans H; with_reducible exact H2_) | with_reducible exact H | (rw [hy601]; exact H) | exact H
       have Ny601 := ZA hy601
       clear hy601
       obtain ⟨y604, hy604⟩ : ∃ y_ : List (List Int), y_ = (([y598, y601] : List (List Int))) := ⟨_, rfl⟩
       replace H : (if t563.length + y604.length < 5864062014805 then (some (t562, (t563 ++ y604), t569, t570)) else (none)) = some (r1, r2, r3, r4) := by first | (rw [hy604]; with_reducible exact H) | (have H2_ := (Option.bind_some _ _).symm.trans H; rw [hy604]; with_reducible exact H2_) | (have H2_ := (Option.bind_some _ _).symm.trans H; with_reducible exact H2_) | with_reducible exact H | (rw [hy604]; exact H) | exact H
       have Ny604 := ZA hy604
       clear hy604
       by_cases c137 : t563.length + y604.length < 5864062014805
       ·rw [if_pos c137] at H
        have LMc137 := ZA c137
        clear c137
        obtain ⟨y607, hy607⟩ : ∃ y_ : List (List Int), y_ = (t563 ++ y604) := ⟨_, rfl⟩
        replace H : (some (t562, y607, t569, t570)) = some (r1, r2, r3, r4) := by first | (rw [hy607]; with_reducible exact H) | (have H2_ := (Option.bind_some _ _).symm.trans H; rw [hy607]; with_reducible exact H2_) | (have H2_ := (Option.bind_some _ _).symm.trans H; with_reducible exact H2_) | with_reducible exact H | (rw [hy607]; exact H) | exact H
        have Ny607 := ZA hy607
        clear hy607
        simp only [Option.some.injEq, Prod.mk.injEq] at H
        obtain ⟨rfl, rfl, rfl, rfl⟩ := H
        go_enter Try.func60, Try.ntmps60
        obtain ⟨w140, ew_⟩ : ∃ w_, w_ = wa := ⟨_, rfl⟩
        subst ew_
        generalize (Value.slice A1_1 t563.length c1_1) = v564 at HO565 ⊢
        obtain ⟨Ao141, co141, eo141⟩ := Kd.N_slice HO565.out
        subst eo141
        try go_wp2_with (first | ((with_reducible refine gate_dst (N := 3) rfl ?_); refine box_event ?hg (N := 3) ?hd (cs := #[.int .i64 t562, .slice Ao141 t563.length co141]) (t := 27) ?hr ?_; (case hd => rfl); (case hg => rfl); (case hr => first | (go_simp; done) | (go_simp; rfl)); intro gb566 hg w142 hbox hb; have n0_ := ZA (Kd.N_below (Kd.N_elderB Z21 gb566 (Nat.le_of_eq hg.symm)) hb); have n1_ := ZA (IsS82.below (Z22) hb); have n2_ := ZA (blk_below (bup BK560.out) hb); have n3_ := ZA (blk_below (bup BK561.out) hb); have n4_ := ZA (KeepBut.trans Z14 (KeepBut.of_below hb g none) (.inl rfl)); have n5_ := ZA (below_step Z50 hb); have n6_ := ZA (hbox); have n7_ := Geq.mk ((Z55 : w.heap.size ≤ gb566)); have n8_ := ZA ((Nat.le_trans HW0.out (Z55 : w.heap.size ≤ gb566) : w0.heap.size ≤ gb566)); have n9_ := Neq.mk ((Z40 : gb560 ≠ gb566)); have n10_ := Neq.mk ((Z42 : gb566 ≠ gb560)); have n11_ := Neq.mk ((Z39 : gb561 ≠ gb566)); have n12_ := Neq.mk ((Z41 : gb566 ≠ gb561)); have n13_ := ZA ((Z80 : g ≠ gb566)); have n14_ := ZA ((Z82 : gb566 ≠ g)); clear HO565 HI0 BK560 BK561 HK HB; have HO565 := n0_; have HI0 := n1_; have BK560 := n2_; have BK561 := n3_; have HK := n4_; have HB := n5_; have BK566 := n6_; have GW566 := n7_; have GE566 := n8_; have NB560_566 := n9_; have NB566_560 := n10_; have NB561_566 := n11_; have NB566_561 := n12_; have NB0_566 := n13_; have NB566_0 := n14_; clear n0_ n1_ n2_ n3_ n4_ n5_ n6_ n7_ n8_ n9_ n10_ n11_ n12_ n13_ n14_ hb hbox hg) | ((with_reducible refine gate_dst (N := 4) rfl ?_); refine box_event ?hg (N := 4) ?hd (cs := #[.int .i64 0, .slice none 0 0]) (t := 27) ?hr ?_; (case hd => rfl); (case hg => rfl); (case hr => first | (go_simp; done) | (go_simp; rfl)); intro gb567 hg w143 hbox hb; have n0_ := ZA (Kd.N_below (Kd.N_elderB Z21 gb567 (Nat.le_of_eq hg.symm)) hb); have n1_ := ZA (IsS82.below (Z19) hb); have n2_ := ZA (blk_below (bup BK560.out) hb); have n3_ := ZA (blk_below (bup BK561.out) hb); have n4_ := ZA (blk_below (bup BK566.out) hb); have n5_ := ZA (KeepBut.trans Z11 (KeepBut.of_below hb g none) (.inl rfl)); have n6_ := ZA (below_step Z46 hb); have n7_ := ZA (hbox); have n8_ := Geq.mk ((Z56 : w.heap.size ≤ gb567)); have n9_ := ZA ((Nat.le_trans HW0.out (Z56 : w.heap.size ≤ gb567) : w0.heap.size ≤ gb567)); have n10_ := Neq.mk ((Z40 : gb560 ≠ gb567)); have n11_ := Neq.mk ((Z42 : gb567 ≠ gb560)); have n12_ := Neq.mk ((Z39 : gb561 ≠ gb567)); have n13_ := Neq.mk ((Z41 : gb567 ≠ gb561)); have n14_ := Neq.mk ((by rw [hg]; exact Nat.ne_of_lt (blk_lt (g := gb566) (o := .cells #[.int .i64 t562, .slice Ao141 t563.length co141] 27 (0, 0)) (bup BK566.out)) : gb566 ≠ gb567)); have n15_ := Neq.mk ((by rw [hg]; exact Nat.ne_of_gt (blk_lt (g := gb566) (o := .cells #[.int .i64 t562, .slice Ao141 t563.length co141] 27 (0, 0)) (bup BK566.out)) : gb567 ≠ gb566)); have n16_ := ZA ((Z81 : g ≠ gb567)); have n17_ := ZA ((Z83 : gb567 ≠ g)); clear HO565 HI0 BK560 BK561 BK566 HK HB; have HO565 := n0_; have HI0 := n1_; have BK560 := n2_; have BK561 := n3_; have BK566 := n4_; have HK := n5_; have HB := n6_; have BK567 := n7_; have GW567 := n8_; have GE567 := n9_; have NB560_567 := n10_; have NB567_560 := n11_; have NB561_567 := n12_; have NB567_561 := n13_; have NB566_567 := n14_; have NB567_566 := n15_; have NB0_567 := n16_; have NB567_0 := n17_; clear n0_ n1_ n2_ n3_ n4_ n5_ n6_ n7_ n8_ n9_ n10_ n11_ n12_ n13_ n14_ n15_ n16_ n17_ hb hbox hg) | ((with_reducible refine gate_callee (f := 63) rfl ?_); refine goesL_ (some 6) rfl rfl Try.func63 Z12 rfl #[.pointer (some ⟨g, 0, none⟩), .int .i64 14] rfl Z1 ?_; (with_reducible refine (spec_l1Below.calls g s0_0 s0_1 s0_2 14 t568 t569 t570 w0 _ ?side1 ?side2 A4.out).mono ?_); (case side1 => repeat (first | (with_reducible first | exact HI0.out | apply IsS82.alloc | apply IsS82.drewN | apply IsS82.drew | apply IsS82.set_1 | apply IsS82.set_2 | refine IsS82.far ?_ NB0_560.out _ | refine IsS82.far ?_ NB0_561.out _ | refine IsS82.far ?_ NB0_566.out _ | refine IsS82.far ?_ NB0_567.out _) | exact HI0.out)); (case side2 => repeat (first | (with_reducible first | exact HB.out | apply h1 | apply h2 | apply h3 | refine h4 ?_ (IsS82.ge HI0.out) | refine h4 ?_ GE560.out | refine h4 ?_ GE561.out | refine h4 ?_ GE566.out | refine h4 ?_ GE567.out) | exact HB.out)); rintro e w144 ⟨rfl, hi, hb, hk⟩; refine ⟨_, rfl, ?_⟩; have n0_ := ZA (KeepBut.blk hk (g' := gb560) (o := .cells #[x0_, x1_] 27 (0, 0)) (bup BK560.out) NB560_0.out Z44); have n1_ := ZA (KeepBut.blk hk (g' := gb561) (o := .cells #[y0_, y1_] 27 (0, 0)) (bup BK561.out) NB561_0.out Z44); have n2_ := ZA (Kd.N_mono (Kd.N_keep (Kd.N_mono (ok := fun k_ => (((((w.heap.size ≤ k_)) ∧ (k_ ≠ gb560 ∧ (k_ ≠ gb561 ∧ k_ ≠ g))) ∧ k_ ≠ gb566) ∧ k_ ≠ gb567)) Z21 (fun k_ hk_ => (⟨hk_, hk_.1.1.2.2.2⟩ : _ ∧ k_ ≠ g))) hk (fun _ h => h.2)) (fun _ h => h.1)); have n3_ := ZA (KeepBut.blk hk (g' := gb566) (o := .cells #[.int .i64 t562, .slice Ao141 t563.length co141] 27 (0, 0)) (bup BK566.out) NB566_0.out Z44); have n4_ := ZA (KeepBut.blk hk (g' := gb567) (o := .cells #[.int .i64 0, .slice none 0 0] 27 (0, 0)) (bup BK567.out) NB567_0.out Z44); have n5_ := ZA (KeepBut.trans Z0 hk (.inl rfl)); have n6_ := ZA (hb); have n7_ := ZA (hi); clear BK560 BK561 HO565 BK566 BK567 HK HB HI0; have BK560 := n0_; have BK561 := n1_; have HO565 := n2_; have BK566 := n3_; have BK567 := n4_; have HK := n5_; have HB := n6_; have HI0 := n7_; clear n0_ n1_ n2_ n3_ n4_ n5_ n6_ n7_; (try clear hb); (try clear hb2); (try clear hk); (try clear hi)))
        have n0_ := ZA (Kd.N_drew HO565.out)
        have n1_ := ZA (blk_drew BK560.out)
        have n2_ := ZA (blk_drew BK561.out)
        have n3_ := ZA (blk_drew BK566.out)
        have n4_ := ZA (blk_drew BK567.out)
        have n5_ := ZA (IsS82.drew HI0.out)
        have n6_ := ZA (keep_drew HK.out)
        have n7_ := ZA (below_drew1 HB.out)
        clear HO565
        clear BK560
        clear BK561
        clear BK566
        clear BK567
        clear HI0
        clear HK
        clear HB
        have HO565 := n0_
        have BK560 := n1_
        have BK561 := n2_
        have BK566 := n3_
        have BK567 := n4_
        have HI0 := n5_
        have HK := n6_
        have HB := n7_
        clear n0_ n1_ n2_ n3_ n4_ n5_ n6_ n7_
        refine start_ (n := 8) (S := fun w' => w'.cell? ⟨gb566, 0, none⟩ = some (.int .i64 t562) ∧ w'.cell? ⟨gb566, 1, none⟩ = some (.slice Ao141 t563.length co141)) (ds := [7]) #[false, false, false, false, false, false, false, false] Z12 rfl rfl (blk_cells2 BK566.out) (fun hHeld => ?_); refine with_tabW spec_l7bent.tab12 spec_l7bent.bits12 (fun HT_ HW_ => ?_)
        generalize w144.drew = w145 at HO565 BK560 BK561 BK566 BK567 HI0 HK HB hHeld ⊢
        refine pure_ (i := 0) (N := some 48) (v := ?_) (a' := ?_) #[true, false, false, false, false, false, false, false] rfl rfl (any_of HT_.out Z12) (fun _ _ _ h => h) (Or.inl ⟨by rfl, ?_⟩) ?_ ?_
        rotate_left
        ·intro w'
         go_simp
         with_reducible rfl
        rotate_left
        ·simp only [Act.put, List.setIfInBounds_toArray, List.set_cons_zero, List.set_cons_succ, i64_w, i32_w]
         rfl
        refine take_ (i := 1) (N := some 49) (v := ?_) (a' := ?_) #[true, true, false, false, false, false, false, false] rfl rfl (take_ofW HT_.out HW_.out Z12) (fun _ _ _ h => h) (Or.inl ⟨by rfl, ?_⟩) hHeld ?_ ?_
        rotate_left
        ·rintro w' ⟨s0, s1⟩
         go_simp
         with_reducible rfl
        rotate_left
        ·simp only [Act.put, List.setIfInBounds_toArray, List.set_cons_zero, List.set_cons_succ, i64_w, i32_w]
         rfl
        refine join_ (σ := Value × Value) 4 #[true, true, true, true, false, false, false, false] (fun s_ => [(50, s_.1), (51, s_.2)]) (fun s_ w' => (w'.cell? ⟨gb566, 0, none⟩ = some (.int .i64 t562) ∧ w'.cell? ⟨gb566, 1, none⟩ = some (.slice Ao141 t563.length co141)) ∧ (Kd.N (Kd.slice 5 (Kd.int .u8)) 36 w' w.heap.size (fun k_ => (w.heap.size ≤ k_) ∧ some k_ ≠ (s_.1 : Value).ownBlock ∧ some k_ ≠ (s_.2 : Value).ownBlock ∧ k_ ≠ g ∧ k_ ≠ gb560 ∧ k_ ≠ gb561 ∧ k_ ≠ gb566 ∧ k_ ≠ gb567) (.slice Ao141 t563.length co141) t563) ∧ (Kd.R (Kd.int .u8) 5 w' w.heap.size (fun k_ => (w.heap.size ≤ k_) ∧ some k_ ≠ (s_.2 : Value).ownBlock) s_.1 y598) ∧ (Kd.R (Kd.int .u8) 5 w' w.heap.size (fun k_ => (w.heap.size ≤ k_) ∧ some k_ ≠ (s_.1 : Value).ownBlock) s_.2 y601) ∧ (w'.heap[gb560]? = some (.cells #[x0_, x1_] 27 (0, 0))) ∧ (w'.heap[gb561]? = some (.cells #[y0_, y1_] 27 (0, 0))) ∧ (w'.heap[gb566]? = some (.cells #[.int .i64 t562, .slice Ao141 t563.length co141] 27 (0, 0))) ∧ (w'.heap[gb567]? = some (.cells #[.int .i64 0, .slice none 0 0] 27 (0, 0))) ∧ (IsS82 w0 w' g s0_0 t569 t570) ∧ (KeepBut w w' g none) ∧ (Below w0.heap.size w0 w')) ?_ ?_
        rotate_left
        ·intro hCont
         refine two_ (i := 2) (j := 3) (Ni := some 50) (Nj := some 51) #[true, true, true, false, false, false, false, false] #[true, true, false, true, false, false, false, false] rfl rfl rfl rfl (two_of HT_.out Z12) Z25 Z25 (fun K hK => ?_) (fun K hK => ?_)
         ·skip
          refine Kd.R_make_step (Kd.int .u8) _ 5 Z94 (N := 50) rfl 36 _ _ rfl 92 rfl rfl Try.underlying36 (.int .u8 0) 1 info5 rfl Z25 Z8 0 (ok := fun _ => True) (okp := fun _ => True) rfl (fun _ hk => hk) trivial Z8 Z8 (Below.refl _ _) (Nat.le_refl _) ?_
          intro v599 w146 ho147 hb hg_ hnew_
          clear hg_ hnew_
          (first | rw [← Ny598.out] at ho147 | (simp only [Int.reduceToNat] at ho147; rw [← Ny598.out] at ho147))
          have n0_ := ZA (Kd.N_elder' Z21 (Kd.R_base ho147) hb)
          have n1_ := ZA (Kd.R_lower (Kd.R_newM (M := fun k_ => (w.heap.size ≤ k_)) ho147 (keep_size (w := w) (g := g) (row := none) Z0) (fun k_ h_ => h_)) (keep_size (w := w) (g := g) (row := none) Z0))
          have n2_ := ZA (IsS82.below Z5 hb)
          have n3_ := ZA (blk_below (bup BK560.out) hb)
          have n4_ := ZA (blk_below (bup BK561.out) hb)
          have n5_ := ZA (blk_below (bup BK566.out) hb)
          have n6_ := ZA (blk_below (bup BK567.out) hb)
          have n7_ := ZA (KeepBut.trans Z0 (KeepBut.of_below hb g none) (.inl rfl))
          have n8_ := ZA (below_step Z17 hb)
          clear HO565
          clear HI0
          clear BK560
          clear BK561
          clear BK566
          clear BK567
          clear HK
          clear HB
          have HO565 := n0_
          have HO600 := n1_
          have HI0 := n2_
          have BK560 := n3_
          have BK561 := n4_
          have BK566 := n5_
          have BK567 := n6_
          have HK := n7_
          have HB := n8_
          clear n0_ n1_ n2_ n3_ n4_ n5_ n6_ n7_ n8_
          clear hb ho147
          refine hK.out _ _ (blk_cells2 BK566.out) (fun hHeld => ?_)
          clear hK K
          refine norm_ (a' := ?_) ?_ ?_
          rotate_left
          ·show Act.put _ (some 50) _ = _
           simp only [Act.put, List.setIfInBounds_toArray, List.set_cons_zero, List.set_cons_succ, i64_w, i32_w]
           rfl
          refine one_ (i := 3) (N := some 51) #[true, true, true, true, false, false, false, false] rfl rfl (one_of HT_.out Z12) Z25 (fun K hK => ?_)
          refine Kd.R_make_step (Kd.int .u8) _ 5 Z94 (N := 51) rfl 36 _ _ rfl 92 rfl rfl Try.underlying36 (.int .u8 0) 1 info5 rfl Z25 Z8 0 (ok := fun _ => True) (okp := fun _ => True) rfl (fun _ hk => hk) trivial Z8 Z8 (Below.refl _ _) (Nat.le_refl _) ?_
          intro v602 w148 ho149 hb hg_ hnew_
          clear hg_ hnew_
          (first | rw [← Ny601.out] at ho149 | (simp only [Int.reduceToNat] at ho149; rw [← Ny601.out] at ho149))
          have n0_ := ZA (Kd.N_elder' Z21 (Kd.R_base ho149) hb)
          have n1_ := ZA (Kd.R_elder' (Kd.rup HO600.out) (Kd.R_base ho149) hb)
          have n2_ := ZA (Kd.R_lower (Kd.R_new' (Kd.R_newM (M := fun k_ => (w.heap.size ≤ k_)) ho149 (keep_size (w := w) (g := g) (row := none) Z0) (fun k_ h_ => h_)) (Kd.R_lt (Kd.rup HO600.out))) (keep_size (w := w) (g := g) (row := none) Z0))
          have n3_ := ZA (IsS82.below Z5 hb)
          have n4_ := ZA (blk_below (bup BK560.out) hb)
          have n5_ := ZA (blk_below (bup BK561.out) hb)
          have n6_ := ZA (blk_below (bup BK566.out) hb)
          have n7_ := ZA (blk_below (bup BK567.out) hb)
          have n8_ := ZA (KeepBut.trans Z0 (KeepBut.of_below hb g none) (.inl rfl))
          have n9_ := ZA (below_step Z17 hb)
          clear HO565
          clear HO600
          clear HI0
          clear BK560
          clear BK561
          clear BK566
          clear BK567
          clear HK
          clear HB
          have HO565 := n0_
          have HO600 := n1_
          have HO603 := n2_
          have HI0 := n3_
          have BK560 := n4_
          have BK561 := n5_
          have BK566 := n6_
          have BK567 := n7_
          have HK := n8_
          have HB := n9_
          clear n0_ n1_ n2_ n3_ n4_ n5_ n6_ n7_ n8_ n9_
          clear hb ho149
          refine hK.out _ _ (blk_cells2 BK566.out) (fun hHeld => ?_)
          clear hK K
          refine norm_ (a' := ?_) ?_ ?_
          rotate_left
          ·show Act.put _ (some 51) _ = _
           simp only [Act.put, List.setIfInBounds_toArray, List.set_cons_zero, List.set_cons_succ, i64_w, i32_w]
           rfl
          exact norm_ Z69 (hCont (v599, v602) _ ⟨hHeld, (by (with_reducible repeat (first | apply Kd.N_alloc | apply Kd.N_drewN | apply Kd.N_drew)); exact Kd.N_mono HO565.out (fun _ hk => ⟨hk.1.1.1.1.1, ⟨hk.1.2, ⟨hk.2, ⟨hk.1.1.1.1.2.2.2, ⟨hk.1.1.1.1.2.1, ⟨hk.1.1.1.1.2.2.1, ⟨hk.1.1.1.2, hk.1.1.2⟩⟩⟩⟩⟩⟩⟩)), (by exact Kd.rup (Kd.R_mono HO600.out (fun _ hk => ⟨hk.1.1, hk.2⟩))), (by exact Kd.rup (Kd.R_mono HO603.out (fun _ hk => ⟨hk.1.1, hk.2⟩))), (bup BK560.out), (bup BK561.out), (bup BK566.out), (bup BK567.out), Z5, Z0, Z17⟩)
         ·skip
          refine Kd.R_make_step (Kd.int .u8) _ 5 Z94 (N := 51) rfl 36 _ _ rfl 92 rfl rfl Try.underlying36 (.int .u8 0) 1 info5 rfl Z25 Z8 0 (ok := fun _ => True) (okp := fun _ => True) rfl (fun _ hk => hk) trivial Z8 Z8 (Below.refl _ _) (Nat.le_refl _) ?_
          intro v602 w146 ho147 hb hg_ hnew_
          clear hg_ hnew_
          (first | rw [← Ny601.out] at ho147 | (simp only [Int.reduceToNat] at ho147; rw [← Ny601.out] at ho147))
          have n0_ := ZA (Kd.N_elder' Z21 (Kd.R_base ho147) hb)
          have n1_ := ZA (Kd.R_lower (Kd.R_newM (M := fun k_ => (w.heap.size ≤ k_)) ho147 (keep_size (w := w) (g := g) (row := none) Z0) (fun k_ h_ => h_)) (keep_size (w := w) (g := g) (row := none) Z0))
          have n2_ := ZA (IsS82.below Z5 hb)
          have n3_ := ZA (blk_below (bup BK560.out) hb)
          have n4_ := ZA (blk_below (bup BK561.out) hb)
          have n5_ := ZA (blk_below (bup BK566.out) hb)
          have n6_ := ZA (blk_below (bup BK567.out) hb)
          have n7_ := ZA (KeepBut.trans Z0 (KeepBut.of_below hb g none) (.inl rfl))
          have n8_ := ZA (below_step Z17 hb)
          clear HO565
          clear HI0
          clear BK560
          clear BK561
          clear BK566
          clear BK567
          clear HK
          clear HB
          have HO565 := n0_
          have HO603 := n1_
          have HI0 := n2_
          have BK560 := n3_
          have BK561 := n4_
          have BK566 := n5_
          have BK567 := n6_
          have HK := n7_
          have HB := n8_
          clear n0_ n1_ n2_ n3_ n4_ n5_ n6_ n7_ n8_
          clear hb ho147
          refine hK.out _ _ (blk_cells2 BK566.out) (fun hHeld => ?_)
          clear hK K
          refine norm_ (a' := ?_) ?_ ?_
          rotate_left
          ·show Act.put _ (some 51) _ = _
           simp only [Act.put, List.setIfInBounds_toArray, List.set_cons_zero, List.set_cons_succ, i64_w, i32_w]
           rfl
          refine one_ (i := 2) (N := some 50) #[true, true, true, true, false, false, false, false] rfl rfl (one_of HT_.out Z12) Z25 (fun K hK => ?_)
          refine Kd.R_make_step (Kd.int .u8) _ 5 Z94 (N := 50) rfl 36 _ _ rfl 92 rfl rfl Try.underlying36 (.int .u8 0) 1 info5 rfl Z25 Z8 0 (ok := fun _ => True) (okp := fun _ => True) rfl (fun _ hk => hk) trivial Z8 Z8 (Below.refl _ _) (Nat.le_refl _) ?_
          intro v599 w148 ho149 hb hg_ hnew_
          clear hg_ hnew_
          (first | rw [← Ny598.out] at ho149 | (simp only [Int.reduceToNat] at ho149; rw [← Ny598.out] at ho149))
          have n0_ := ZA (Kd.N_elder' Z21 (Kd.R_base ho149) hb)
          have n1_ := ZA (Kd.R_elder' (Kd.rup HO603.out) (Kd.R_base ho149) hb)
          have n2_ := ZA (Kd.R_lower (Kd.R_new' (Kd.R_newM (M := fun k_ => (w.heap.size ≤ k_)) ho149 (keep_size (w := w) (g := g) (row := none) Z0) (fun k_ h_ => h_)) (Kd.R_lt (Kd.rup HO603.out))) (keep_size (w := w) (g := g) (row := none) Z0))
          have n3_ := ZA (IsS82.below Z5 hb)
          have n4_ := ZA (blk_below (bup BK560.out) hb)
          have n5_ := ZA (blk_below (bup BK561.out) hb)
          have n6_ := ZA (blk_below (bup BK566.out) hb)
          have n7_ := ZA (blk_below (bup BK567.out) hb)
          have n8_ := ZA (KeepBut.trans Z0 (KeepBut.of_below hb g none) (.inl rfl))
          have n9_ := ZA (below_step Z17 hb)
          clear HO565
          clear HO603
          clear HI0
          clear BK560
          clear BK561
          clear BK566
          clear BK567
          clear HK
          clear HB
          have HO565 := n0_
          have HO603 := n1_
          have HO600 := n2_
          have HI0 := n3_
          have BK560 := n4_
          have BK561 := n5_
          have BK566 := n6_
          have BK567 := n7_
          have HK := n8_
          have HB := n9_
          clear n0_ n1_ n2_ n3_ n4_ n5_ n6_ n7_ n8_ n9_
          clear hb ho149
          refine hK.out _ _ (blk_cells2 BK566.out) (fun hHeld => ?_)
          clear hK K
          refine norm_ (a' := ?_) ?_ ?_
          rotate_left
          ·show Act.put _ (some 50) _ = _
           simp only [Act.put, List.setIfInBounds_toArray, List.set_cons_zero, List.set_cons_succ, i64_w, i32_w]
           rfl
          exact norm_ Z69 (hCont (v599, v602) _ ⟨hHeld, (by (with_reducible repeat (first | apply Kd.N_alloc | apply Kd.N_drewN | apply Kd.N_drew)); exact Kd.N_mono HO565.out (fun _ hk => ⟨hk.1.1.1.1.1, ⟨hk.2, ⟨hk.1.2, ⟨hk.1.1.1.1.2.2.2, ⟨hk.1.1.1.1.2.1, ⟨hk.1.1.1.1.2.2.1, ⟨hk.1.1.1.2, hk.1.1.2⟩⟩⟩⟩⟩⟩⟩)), (by exact Kd.rup (Kd.R_mono HO600.out (fun _ hk => ⟨hk.1.1, hk.2⟩))), (by exact Kd.rup (Kd.R_mono HO603.out (fun _ hk => ⟨hk.1.1, hk.2⟩))), (bup BK560.out), (bup BK561.out), (bup BK566.out), (bup BK567.out), Z5, Z0, Z17⟩)
        rintro ⟨v599, v602⟩ w150 ⟨hS_, h0_, h1_, h2_, h3_, h4_, h5_, h6_, h7_, h8_, h9_⟩
        have n0_ : Aside0 (Kd.N (Kd.slice 5 (Kd.int .u8)) 36 w150 w.heap.size (fun k_ => (w.heap.size ≤ k_) ∧ some k_ ≠ (v599 : Value).ownBlock ∧ some k_ ≠ (v602 : Value).ownBlock ∧ k_ ≠ g ∧ k_ ≠ gb560 ∧ k_ ≠ gb561 ∧ k_ ≠ gb566 ∧ k_ ≠ gb567) (.slice Ao141 t563.length co141) t563) := ⟨h0_⟩
        have n1_ : Aside0 (Kd.R (Kd.int .u8) 5 w150 w.heap.size (fun k_ => (w.heap.size ≤ k_) ∧ some k_ ≠ (v602 : Value).ownBlock) v599 y598) := ⟨h1_⟩
        have n2_ : Aside0 (Kd.R (Kd.int .u8) 5 w150 w.heap.size (fun k_ => (w.heap.size ≤ k_) ∧ some k_ ≠ (v599 : Value).ownBlock) v602 y601) := ⟨h2_⟩
        have n3_ : Aside0 (w150.heap[gb560]? = some (.cells #[x0_, x1_] 27 (0, 0))) := ⟨h3_⟩
        have n4_ : Aside0 (w150.heap[gb561]? = some (.cells #[y0_, y1_] 27 (0, 0))) := ⟨h4_⟩
        have n5_ : Aside0 (w150.heap[gb566]? = some (.cells #[.int .i64 t562, .slice Ao141 t563.length co141] 27 (0, 0))) := ⟨h5_⟩
        have n6_ : Aside0 (w150.heap[gb567]? = some (.cells #[.int .i64 0, .slice none 0 0] 27 (0, 0))) := ⟨h6_⟩
        have n7_ : Aside0 (IsS82 w0 w150 g s0_0 t569 t570) := ⟨h7_⟩
        have n8_ : Aside0 (KeepBut w w150 g none) := ⟨h8_⟩
        have n9_ : Aside0 (Below w0.heap.size w0 w150) := ⟨h9_⟩
        clear HO565
        clear BK560
        clear BK561
        clear BK566
        clear BK567
        clear HI0
        clear HK
        clear HB
        clear h0_ h1_ h2_ h3_ h4_ h5_ h6_ h7_ h8_ h9_
        have HO565 := n0_
        have HO600 := n1_
        have HO603 := n2_
        have BK560 := n3_
        have BK561 := n4_
        have BK566 := n5_
        have BK567 := n6_
        have HI0 := n7_
        have HK := n8_
        have HB := n9_
        clear n0_ n1_ n2_ n3_ n4_ n5_ n6_ n7_ n8_ n9_
        have hHeld : w150.cell? ⟨gb566, 0, none⟩ = some (.int .i64 t562) ∧ w150.cell? ⟨gb566, 1, none⟩ = some (.slice Ao141 t563.length co141) := hS_
        obtain ⟨Ao151, co151, eo151⟩ := Kd.R_slice HO600.out
        (first | subst eo151 | (injection eo151 with f1_ f2_ f3_; have f4_ := f1_.symm; have f5_ := f3_.symm; clear f1_ f2_ f3_; subst f4_; subst f5_))
        obtain ⟨Ao152, co152, eo152⟩ := Kd.R_slice HO603.out
        (first | subst eo152 | (injection eo152 with f1_ f2_ f3_; have f4_ := f1_.symm; have f5_ := f3_.symm; clear f1_ f2_ f3_; subst f4_; subst f5_))
        refine norm_ (a' := ?_) ?_ ?_
        rotate_left
        ·simp only [putAll, Act.put, List.setIfInBounds_toArray, List.set_cons_zero, List.set_cons_succ]
         rfl
        refine one_ (i := 4) (N := some 52) #[true, true, true, true, true, false, false, false] rfl rfl (one_of HT_.out Z12) Z25 (fun K hK => ?_)
        refine Kd.N_lit_step (Kd.slice 5 (Kd.int .u8)) _ 36 ?hg (N' := 52) ?hd (xs := ([y598, y601] : List (List Int))) (inner := [.slice Ao151 y598.length co151, .slice Ao152 y601.length co152]) (ok := (fun k_ => (w.heap.size ≤ k_) ∧ some k_ ≠ (.slice Ao141 t563.length co141 : Value).ownBlock ∧ k_ ≠ gb560 ∧ k_ ≠ gb561 ∧ k_ ≠ gb566 ∧ k_ ≠ gb567 ∧ k_ ≠ g)) (okp := (fun k_ => (w.heap.size ≤ k_) ∧ some k_ ≠ (.slice Ao141 t563.length co141 : Value).ownBlock ∧ k_ ≠ gb560 ∧ k_ ≠ gb561 ∧ k_ ≠ gb566 ∧ k_ ≠ gb567 ∧ k_ ≠ g)) ?hr ?hp (fun _ hk => hk) ((show ∀ k_, w150.heap.size ≤ k_ → (fun k_ => (w.heap.size ≤ k_) ∧ some k_ ≠ (.slice Ao141 t563.length co141 : Value).ownBlock ∧ k_ ≠ gb560 ∧ k_ ≠ gb561 ∧ k_ ≠ gb566 ∧ k_ ≠ gb567 ∧ k_ ≠ g) k_ from fun k_ hk => ⟨(Nat.le_trans (keep_size (w := w) (g := g) (row := none) Z0) hk), Kd.fresh' (Kd.N_lt Z21) k_ hk, Kd.freshB (g := gb560) (o := .cells #[x0_, x1_] 27 (0, 0)) (bup BK560.out) k_ hk, Kd.freshB (g := gb561) (o := .cells #[y0_, y1_] 27 (0, 0)) (bup BK561.out) k_ hk, Kd.freshB (g := gb566) (o := .cells #[.int .i64 t562, .slice Ao141 t563.length co141] 27 (0, 0)) (bup BK566.out) k_ hk, Kd.freshB (g := gb567) (o := .cells #[.int .i64 0, .slice none 0 0] 27 (0, 0)) (bup BK567.out) k_ hk, IsS82.fresh Z5 k_ hk⟩) _ (Nat.le_refl _)) (Below.refl _ _) (Nat.le_refl _) Z44 ?_; (case hd => rfl); (case hg => rfl); (case hr => first | (go_simp; done) | (go_simp; rfl)); (case hp => exact (Reps.one (show Kd.FK (Kd.slice 5 (Kd.int .u8)) _ _ y598 [.slice Ao151 y598.length co151] from (Kd.FK_slice_mk (Kd.R_reads' (Kd.R_mono (ok' := (fun k_ => (w.heap.size ≤ k_) ∧ some k_ ≠ (.slice Ao141 t563.length co141 : Value).ownBlock ∧ k_ ≠ gb560 ∧ k_ ≠ gb561 ∧ k_ ≠ gb566 ∧ k_ ≠ gb567 ∧ k_ ≠ g)) (IsS82.apart HI0.out (Kd.R_types (Kd.R_types (Kd.R_types (Kd.R_types (Kd.R_apart' (HO600.out) (Kd.N_typed HO565.out) Z25) BK560.out Z25) BK561.out Z25) BK566.out Z25) BK567.out Z25) Z25) (fun k_ hk => ⟨hk.1.1.1.1.1.1.1, ⟨hk.1.1.1.1.1.2, ⟨hk.1.1.1.1.2, ⟨hk.1.1.1.2, ⟨hk.1.1.2, ⟨hk.1.2, hk.2⟩⟩⟩⟩⟩⟩))).2.1 (Kd.R_F (Kd.R_mono (ok' := (fun k_ => (w.heap.size ≤ k_) ∧ some k_ ≠ (.slice Ao141 t563.length co141 : Value).ownBlock ∧ k_ ≠ gb560 ∧ k_ ≠ gb561 ∧ k_ ≠ gb566 ∧ k_ ≠ gb567 ∧ k_ ≠ g)) (IsS82.apart HI0.out (Kd.R_types (Kd.R_types (Kd.R_types (Kd.R_types (Kd.R_apart' (HO600.out) (Kd.N_typed HO565.out) Z25) BK560.out Z25) BK561.out Z25) BK566.out Z25) BK567.out Z25) Z25) (fun k_ hk => ⟨hk.1.1.1.1.1.1.1, ⟨hk.1.1.1.1.1.2, ⟨hk.1.1.1.1.2, ⟨hk.1.1.1.2, ⟨hk.1.1.2, ⟨hk.1.2, hk.2⟩⟩⟩⟩⟩⟩))))) (Reps.one (show Kd.FK (Kd.slice 5 (Kd.int .u8)) _ _ y601 [.slice Ao152 y601.length co152] from (Kd.FK_slice_mk (Kd.R_reads' (Kd.R_mono (ok' := (fun k_ => (w.heap.size ≤ k_) ∧ some k_ ≠ (.slice Ao141 t563.length co141 : Value).ownBlock ∧ k_ ≠ gb560 ∧ k_ ≠ gb561 ∧ k_ ≠ gb566 ∧ k_ ≠ gb567 ∧ k_ ≠ g)) (IsS82.apart HI0.out (Kd.R_types (Kd.R_types (Kd.R_types (Kd.R_types (Kd.R_apart' (HO603.out) (Kd.N_typed HO565.out) Z25) BK560.out Z25) BK561.out Z25) BK566.out Z25) BK567.out Z25) Z25) (fun k_ hk => ⟨hk.1.1.1.1.1.1.1, ⟨hk.1.1.1.1.1.2, ⟨hk.1.1.1.1.2, ⟨hk.1.1.1.2, ⟨hk.1.1.2, ⟨hk.1.2, hk.2⟩⟩⟩⟩⟩⟩))).2.1 (Kd.R_F (Kd.R_mono (ok' := (fun k_ => (w.heap.size ≤ k_) ∧ some k_ ≠ (.slice Ao141 t563.length co141 : Value).ownBlock ∧ k_ ≠ gb560 ∧ k_ ≠ gb561 ∧ k_ ≠ gb566 ∧ k_ ≠ gb567 ∧ k_ ≠ g)) (IsS82.apart HI0.out (Kd.R_types (Kd.R_types (Kd.R_types (Kd.R_types (Kd.R_apart' (HO603.out) (Kd.N_typed HO565.out) Z25) BK560.out Z25) BK561.out Z25) BK566.out Z25) BK567.out Z25) Z25) (fun k_ hk => ⟨hk.1.1.1.1.1.1.1, ⟨hk.1.1.1.1.1.2, ⟨hk.1.1.1.1.2, ⟨hk.1.1.1.2, ⟨hk.1.1.2, ⟨hk.1.2, hk.2⟩⟩⟩⟩⟩⟩))))) (Reps.none _ _))))
        intro v605 w153 ho154 hb hg_ hnew_
        clear hg_ hnew_
        (first | rw [← Ny604.out] at ho154 | (simp only [Int.reduceToNat] at ho154; rw [← Ny604.out] at ho154))
        have n0_ := ZA (Kd.N_elder' Z21 (Kd.N_base ho154) hb)
        have n1_ := ZA (Kd.N_lower ho154 (keep_size (w := w) (g := g) (row := none) Z0))
        have n2_ := ZA (IsS82.below Z5 hb)
        have n3_ := ZA (blk_below (bup BK560.out) hb)
        have n4_ := ZA (blk_below (bup BK561.out) hb)
        have n5_ := ZA (blk_below (bup BK566.out) hb)
        have n6_ := ZA (blk_below (bup BK567.out) hb)
        have n7_ := ZA (KeepBut.trans Z0 (KeepBut.of_below hb g none) (.inl rfl))
        have n8_ := ZA (below_step Z17 hb)
        clear HO565
        clear HI0
        clear BK560
        clear BK561
        clear BK566
        clear BK567
        clear HK
        clear HB
        clear HO600
        clear HO603
        have HO565 := n0_
        have HO606 := n1_
        have HI0 := n2_
        have BK560 := n3_
        have BK561 := n4_
        have BK566 := n5_
        have BK567 := n6_
        have HK := n7_
        have HB := n8_
        clear n0_ n1_ n2_ n3_ n4_ n5_ n6_ n7_ n8_
        clear hb ho154
        obtain ⟨Ao156, co156, eo156⟩ := Kd.N_slice HO606.out
        (first | subst eo156 | (injection eo156 with f1_ f2_ f3_; have f4_ := f1_.symm; have f5_ := f3_.symm; clear f1_ f2_ f3_; subst f4_; subst f5_))
        refine hK.out _ _ (blk_cells2 BK566.out) (fun hHeld => ?_)
        clear hK K
        refine norm_ (a' := ?_) ?_ ?_
        rotate_left
        ·show Act.put _ (some 52) _ = _
         simp only [Act.put, List.setIfInBounds_toArray, List.set_cons_zero, List.set_cons_succ, i64_w, i32_w]
         rfl
        refine one_ (i := 5) (N := some 53) #[true, true, true, true, true, true, false, false] rfl rfl (one_of HT_.out Z12) Z25 (fun K hK => ?_)
        refine Kd.N_append_rows_step (Kd.slice 5 (Kd.int .u8)) w.heap.size Z94 (.tmp 49) (.tmp 52) 22 36 (.slice none 0 0) 24 rfl Try.underlying22 info36 rfl Z25 Z8 (.slice Ao141 t563.length co141) t563 y604 _ _ _ (fun k_ => (w.heap.size ≤ k_) ∧ k_ ≠ gb560 ∧ k_ ≠ gb561 ∧ k_ ≠ gb566 ∧ k_ ≠ gb567 ∧ k_ ≠ g) (fun k_ => ((fun k_ => (w.heap.size ≤ k_) ∧ k_ ≠ gb560 ∧ k_ ≠ gb561 ∧ k_ ≠ gb566 ∧ k_ ≠ gb567 ∧ k_ ≠ g)) k_ ∧ some k_ ≠ (.slice Ao141 t563.length co141 : Value).ownBlock) rfl rfl ?aO ?aR (fun _ hk => hk) ?aF (Below.refl _ _) ?aS ?aL ?_
        (case aR => exact (by skip; exact Kd.N_F (Kd.N_mono (ok' := (fun k_ => ((fun k_ => (w.heap.size ≤ k_) ∧ k_ ≠ gb560 ∧ k_ ≠ gb561 ∧ k_ ≠ gb566 ∧ k_ ≠ gb567 ∧ k_ ≠ g)) k_ ∧ some k_ ≠ (.slice Ao141 t563.length co141 : Value).ownBlock)) (HO606.out) (fun k_ hk => ⟨⟨hk.1, ⟨hk.2.2.1, ⟨hk.2.2.2.1, ⟨hk.2.2.2.2.1, ⟨hk.2.2.2.2.2.1, hk.2.2.2.2.2.2⟩⟩⟩⟩⟩, hk.2.1⟩))))
        (case aF => exact (fun k_ hk => ⟨(Nat.le_trans (keep_size (w := w) (g := g) (row := none) Z0) hk), Kd.freshB (g := gb560) (o := .cells #[x0_, x1_] 27 (0, 0)) (bup BK560.out) k_ hk, Kd.freshB (g := gb561) (o := .cells #[y0_, y1_] 27 (0, 0)) (bup BK561.out) k_ hk, Kd.freshB (g := gb566) (o := .cells #[.int .i64 t562, .slice Ao141 t563.length co141] 27 (0, 0)) (bup BK566.out) k_ hk, Kd.freshB (g := gb567) (o := .cells #[.int .i64 0, .slice none 0 0] 27 (0, 0)) (bup BK567.out) k_ hk, IsS82.fresh Z5 k_ hk⟩))
        (case aO => exact (by (with_reducible repeat (first | apply Kd.N_alloc | apply Kd.N_drewN | apply Kd.N_drew)); exact Kd.N_mono HO565.out (fun _ hk => ⟨hk.1.1, ⟨hk.1.2.2.2.2.1, ⟨hk.1.2.2.2.2.2.1, ⟨hk.1.2.2.2.2.2.2.1, ⟨hk.1.2.2.2.2.2.2.2, hk.1.2.2.2.1⟩⟩⟩⟩⟩)))
        (case aS => exact (keep_size (w := w) (g := g) (row := none) Z0))
        (case aL => have := LMc137.out; omega)
        intro v608 w155 ho hb hg hat
        rw [← Ny607.out] at ho
        have n0_ := ZA (IsS82.grown Z5 hg (IsS82.own_neN HI0.out HO565.out Z25))
        have n1_ := ZA (blk_grown (g := gb560) (o := .cells #[x0_, x1_] 27 (0, 0)) (bup BK560.out) hg (Kd.N_ne HO565.out BK560.out Z25))
        have n2_ := ZA (blk_grown (g := gb561) (o := .cells #[y0_, y1_] 27 (0, 0)) (bup BK561.out) hg (Kd.N_ne HO565.out BK561.out Z25))
        have n3_ := ZA (blk_grown (g := gb566) (o := .cells #[.int .i64 t562, .slice Ao141 t563.length co141] 27 (0, 0)) (bup BK566.out) hg (Kd.N_ne HO565.out BK566.out Z25))
        have n4_ := ZA (blk_grown (g := gb567) (o := .cells #[.int .i64 0, .slice none 0 0] 27 (0, 0)) (bup BK567.out) hg (Kd.N_ne HO565.out BK567.out Z25))
        have n5_ := ZA (Kd.N_afterv (ok := (fun k_ => (w.heap.size ≤ k_) ∧ k_ ≠ gb560 ∧ k_ ≠ gb561 ∧ k_ ≠ gb566 ∧ k_ ≠ gb567 ∧ k_ ≠ g)) (by (with_reducible repeat (first | apply Kd.N_alloc | apply Kd.N_drewN | apply Kd.N_drew)); exact Kd.N_mono HO606.out (fun _ hk => ⟨⟨hk.1, ⟨hk.2.2.1, ⟨hk.2.2.2.1, ⟨hk.2.2.2.2.1, ⟨hk.2.2.2.2.2.1, hk.2.2.2.2.2.2⟩⟩⟩⟩⟩, hk.2.1⟩)) hg hat)
        have n6_ := ZA (below_weaken Z17 HL.out hb)
        have n7_ := ZA (KeepBut.trans Z0 (KeepBut.of_grown hg g) (Kd.N_base2 HO565.out))
        have n8_ := ZA (ho)
        clear HI0
        clear BK560
        clear BK561
        clear BK566
        clear BK567
        clear HO606
        clear HB
        clear HK
        clear HO565
        have HI0 := n0_
        have BK560 := n1_
        have BK561 := n2_
        have BK566 := n3_
        have BK567 := n4_
        have HO606 := n5_
        have HB := n6_
        have HK := n7_
        have HO609 := n8_
        clear n0_ n1_ n2_ n3_ n4_ n5_ n6_ n7_ n8_
        clear ho hb hg hat
        obtain ⟨Ao157, co157, eo157⟩ := Kd.N_slice HO609.out
        (first | subst eo157 | (injection eo157 with f1_ f2_ f3_; have f4_ := f1_.symm; have f5_ := f3_.symm; clear f1_ f2_ f3_; subst f4_; subst f5_))
        refine hK.out _ _ (blk_cells2 BK566.out) (fun hHeld => ?_)
        clear hK K
        refine norm_ (a' := ?_) ?_ ?_
        rotate_left
        ·show Act.put _ (some 53) _ = _
         simp only [Act.put, List.setIfInBounds_toArray, List.set_cons_zero, List.set_cons_succ, i64_w, i32_w]
         rfl
        refine pure_ (i := 6) (N := some 54) (v := ?_) (a' := ?_) #[true, true, true, true, true, true, true, false] rfl rfl (any_of HT_.out Z12) (fun _ _ _ h => h) (Or.inl ⟨by rfl, ?_⟩) ?_ ?_
        rotate_left
        ·intro w'
         go_simp
         with_reducible rfl
        rotate_left
        ·simp only [Act.put, List.setIfInBounds_toArray, List.set_cons_zero, List.set_cons_succ, i64_w, i32_w]
         rfl
        refine last_ (i := 7) (N := none) #[true, true, true, true, true, true, true, true] rfl rfl (one_of HT_.out Z12) Z25 (fun K hK => ?_)
        have hs158 : w155.cell? ⟨gb566, 1, none⟩ = some (.slice Ao141 t563.length co141) := (blk_cell BK566.out 1).trans rfl
        have hfs158 := blk_frozen BK566.out 1
        have hns158_0 := NB560_566.out
        have hns158_1 := NB561_566.out
        have hns158_3 := NB567_566.out
        have hms158_0 := NB566_560.out
        have hms158_1 := NB566_561.out
        have hms158_3 := NB566_567.out
        refine skip_ (w1 := ?_) ?hw_ ?hN_ ?_ ?_
        case hN_ => rfl
        case hw_ => rfl
        rotate_left
        ·go_simp
         rfl
        refine hK.out _ _ ?_
        clear hK K
        refine done_ (done_of HT_.out Z12) ?_
        have hnb159 := NB560_561.out
        have hnc159 := NB561_560.out
        have hnb160 := NB560_566.out
        have hnc160 := NB566_560.out
        have hnb161 := NB560_567.out
        have hnc161 := NB567_560.out
        have hnb162 := NB560_0.out
        have hnc162 := NB0_560.out
        obtain ⟨hcz163_0, hcz163_1⟩ := blk_cells2 BK560.out
        obtain ⟨hfz163_0, hfz163_1⟩ := blk_frozens2 BK560.out
        have hnb164 := NB561_566.out
        have hnc164 := NB566_561.out
        have hnb165 := NB561_567.out
        have hnc165 := NB567_561.out
        have hnb166 := NB561_0.out
        have hnc166 := NB0_561.out
        obtain ⟨hcz167_0, hcz167_1⟩ := blk_cells2 BK561.out
        obtain ⟨hfz167_0, hfz167_1⟩ := blk_frozens2 BK561.out
        have hnb168 := NB566_567.out
        have hnc168 := NB567_566.out
        have hnb169 := NB566_0.out
        have hnc169 := NB0_566.out
        obtain ⟨hcz170_0, hcz170_1⟩ := blk_cells2 BK566.out
        obtain ⟨hfz170_0, hfz170_1⟩ := blk_frozens2 BK566.out
        have hnb171 := NB567_0.out
        have hnc171 := NB0_567.out
        obtain ⟨hcz172_0, hcz172_1⟩ := blk_cells2 BK567.out
        obtain ⟨hfz172_0, hfz172_1⟩ := blk_frozens2 BK567.out
        try go_wp2
        refine bodyPost_ret (results_cell_row rfl _ _ gb567 27 #[.int .i64 t562, .slice Ao157 y607.length co157] (0, 0) _ rfl (bput BK567.out) Try.underlying27 rfl Z12) rfl ?_
        exact ⟨_, by first | rfl | (simp [errW_none, errW_some] <;> rfl) | (simp [*, errW_none, errW_some] <;> rfl), by (with_reducible repeat (first | apply Kd.N_alloc | apply Kd.N_drewN | apply Kd.N_drew)); exact Kd.N_mono (Kd.N_far (p := ⟨gb567, 1, none⟩) (Kd.N_far (p := ⟨gb567, 0, none⟩) (Kd.N_far (p := ⟨gb566, 1, none⟩) (Kd.N_mono (Kd.N_mono HO609.out (fun k_ hk => (⟨hk, hk.2.2.2.1⟩ : _ ∧ k_ ≠ gb566))) (fun k_ hk => (⟨hk, hk.1.2.2.2.2.1⟩ : _ ∧ k_ ≠ gb567))) (fun _ hk => hk.1.2) (.slice Ao157 y607.length co157)) (fun _ hk => hk.2) (.int .i64 t562)) (fun _ hk => hk.2) (.slice Ao157 y607.length co157)) (fun _ hk => by (try dsimp only at hk); omega), Z23, Z31, Z26, Z93, Z92⟩
       ·rw [if_neg c137] at H
        exact absurd H Z44
      ·rw [if_neg c136] at H
       exact absurd H Z44
     ·rw [if_neg c135] at H
      have c135b0 : (t568 == 4) = false := beq_eq_false_iff_ne.mpr c135
      have c135b1 : (t568 != 4) = true := bne_iff_ne.mpr c135
      simp only [Option.some.injEq, Prod.mk.injEq] at H
      obtain ⟨rfl, rfl, rfl, rfl⟩ := H
      go_enter Try.func60, Try.ntmps60
      obtain ⟨w175, ew_⟩ : ∃ w_, w_ = wa := ⟨_, rfl⟩
      subst ew_
      generalize (Value.slice A1_1 t563.length c1_1) = v564 at HO565 ⊢
      obtain ⟨Ao176, co176, eo176⟩ := Kd.N_slice HO565.out
      subst eo176
      go_wp2_with (first | ((with_reducible refine gate_dst (N := 3) rfl ?_); refine box_event ?hg (N := 3) ?hd (cs := #[.int .i64 t562, .slice Ao176 t563.length co176]) (t := 27) ?hr ?_; (case hd => rfl); (case hg => rfl); (case hr => first | (go_simp; done) | (go_simp; rfl)); intro gb566 hg w177 hbox hb; have n0_ := ZA (Kd.N_below (Kd.N_elderB Z21 gb566 (Nat.le_of_eq hg.symm)) hb); have n1_ := ZA (IsS82.below (Z22) hb); have n2_ := ZA (blk_below (bup BK560.out) hb); have n3_ := ZA (blk_below (bup BK561.out) hb); have n4_ := ZA (KeepBut.trans Z14 (KeepBut.of_below hb g none) (.inl rfl)); have n5_ := ZA (below_step Z50 hb); have n6_ := ZA (hbox); have n7_ := Geq.mk ((Z55 : w.heap.size ≤ gb566)); have n8_ := ZA ((Nat.le_trans HW0.out (Z55 : w.heap.size ≤ gb566) : w0.heap.size ≤ gb566)); have n9_ := Neq.mk ((Z40 : gb560 ≠ gb566)); have n10_ := Neq.mk ((Z42 : gb566 ≠ gb560)); have n11_ := Neq.mk ((Z39 : gb561 ≠ gb566)); have n12_ := Neq.mk ((Z41 : gb566 ≠ gb561)); have n13_ := ZA ((Z80 : g ≠ gb566)); have n14_ := ZA ((Z82 : gb566 ≠ g)); clear HO565 HI0 BK560 BK561 HK HB; have HO565 := n0_; have HI0 := n1_; have BK560 := n2_; have BK561 := n3_; have HK := n4_; have HB := n5_; have BK566 := n6_; have GW566 := n7_; have GE566 := n8_; have NB560_566 := n9_; have NB566_560 := n10_; have NB561_566 := n11_; have NB566_561 := n12_; have NB0_566 := n13_; have NB566_0 := n14_; clear n0_ n1_ n2_ n3_ n4_ n5_ n6_ n7_ n8_ n9_ n10_ n11_ n12_ n13_ n14_ hb hbox hg) | ((with_reducible refine gate_dst (N := 4) rfl ?_); refine box_event ?hg (N := 4) ?hd (cs := #[.int .i64 0, .slice none 0 0]) (t := 27) ?hr ?_; (case hd => rfl); (case hg => rfl); (case hr => first | (go_simp; done) | (go_simp; rfl)); intro gb567 hg w178 hbox hb; have n0_ := ZA (Kd.N_below (Kd.N_elderB Z21 gb567 (Nat.le_of_eq hg.symm)) hb); have n1_ := ZA (IsS82.below (Z19) hb); have n2_ := ZA (blk_below (bup BK560.out) hb); have n3_ := ZA (blk_below (bup BK561.out) hb); have n4_ := ZA (blk_below (bup BK566.out) hb); have n5_ := ZA (KeepBut.trans Z11 (KeepBut.of_below hb g none) (.inl rfl)); have n6_ := ZA (below_step Z46 hb); have n7_ := ZA (hbox); have n8_ := Geq.mk ((Z56 : w.heap.size ≤ gb567)); have n9_ := ZA ((Nat.le_trans HW0.out (Z56 : w.heap.size ≤ gb567) : w0.heap.size ≤ gb567)); have n10_ := Neq.mk ((Z40 : gb560 ≠ gb567)); have n11_ := Neq.mk ((Z42 : gb567 ≠ gb560)); have n12_ := Neq.mk ((Z39 : gb561 ≠ gb567)); have n13_ := Neq.mk ((Z41 : gb567 ≠ gb561)); have n14_ := Neq.mk ((by rw [hg]; exact Nat.ne_of_lt (blk_lt (g := gb566) (o := .cells #[.int .i64 t562, .slice Ao176 t563.length co176] 27 (0, 0)) (bup BK566.out)) : gb566 ≠ gb567)); have n15_ := Neq.mk ((by rw [hg]; exact Nat.ne_of_gt (blk_lt (g := gb566) (o := .cells #[.int .i64 t562, .slice Ao176 t563.length co176] 27 (0, 0)) (bup BK566.out)) : gb567 ≠ gb566)); have n16_ := ZA ((Z81 : g ≠ gb567)); have n17_ := ZA ((Z83 : gb567 ≠ g)); clear HO565 HI0 BK560 BK561 BK566 HK HB; have HO565 := n0_; have HI0 := n1_; have BK560 := n2_; have BK561 := n3_; have BK566 := n4_; have HK := n5_; have HB := n6_; have BK567 := n7_; have GW567 := n8_; have GE567 := n9_; have NB560_567 := n10_; have NB567_560 := n11_; have NB561_567 := n12_; have NB567_561 := n13_; have NB566_567 := n14_; have NB567_566 := n15_; have NB0_567 := n16_; have NB567_0 := n17_; clear n0_ n1_ n2_ n3_ n4_ n5_ n6_ n7_ n8_ n9_ n10_ n11_ n12_ n13_ n14_ n15_ n16_ n17_ hb hbox hg) | ((with_reducible refine gate_callee (f := 63) rfl ?_); refine goesL_ (some 6) rfl rfl Try.func63 Z12 rfl #[.pointer (some ⟨g, 0, none⟩), .int .i64 14] rfl Z1 ?_; (with_reducible refine (spec_l1Below.calls g s0_0 s0_1 s0_2 14 t568 t569 t570 w0 _ ?side1 ?side2 A4.out).mono ?_); (case side1 => repeat (first | (with_reducible first | exact HI0.out | apply IsS82.alloc | apply IsS82.drewN | apply IsS82.drew | apply IsS82.set_1 | apply IsS82.set_2 | refine IsS82.far ?_ NB0_560.out _ | refine IsS82.far ?_ NB0_561.out _ | refine IsS82.far ?_ NB0_566.out _ | refine IsS82.far ?_ NB0_567.out _) | exact HI0.out)); (case side2 => repeat (first | (with_reducible first | exact HB.out | apply h1 | apply h2 | apply h3 | refine h4 ?_ (IsS82.ge HI0.out) | refine h4 ?_ GE560.out | refine h4 ?_ GE561.out | refine h4 ?_ GE566.out | refine h4 ?_ GE567.out) | exact HB.out)); rintro e w179 ⟨rfl, hi, hb, hk⟩; refine ⟨_, rfl, ?_⟩; have n0_ := ZA (KeepBut.blk hk (g' := gb560) (o := .cells #[x0_, x1_] 27 (0, 0)) (bup BK560.out) NB560_0.out Z44); have n1_ := ZA (KeepBut.blk hk (g' := gb561) (o := .cells #[y0_, y1_] 27 (0, 0)) (bup BK561.out) NB561_0.out Z44); have n2_ := ZA (Kd.N_mono (Kd.N_keep (Kd.N_mono (ok := fun k_ => (((((w.heap.size ≤ k_)) ∧ (k_ ≠ gb560 ∧ (k_ ≠ gb561 ∧ k_ ≠ g))) ∧ k_ ≠ gb566) ∧ k_ ≠ gb567)) Z21 (fun k_ hk_ => (⟨hk_, hk_.1.1.2.2.2⟩ : _ ∧ k_ ≠ g))) hk (fun _ h => h.2)) (fun _ h => h.1)); have n3_ := ZA (KeepBut.blk hk (g' := gb566) (o := .cells #[.int .i64 t562, .slice Ao176 t563.length co176] 27 (0, 0)) (bup BK566.out) NB566_0.out Z44); have n4_ := ZA (KeepBut.blk hk (g' := gb567) (o := .cells #[.int .i64 0, .slice none 0 0] 27 (0, 0)) (bup BK567.out) NB567_0.out Z44); have n5_ := ZA (KeepBut.trans Z0 hk (.inl rfl)); have n6_ := ZA (hb); have n7_ := ZA (hi); clear BK560 BK561 HO565 BK566 BK567 HK HB HI0; have BK560 := n0_; have BK561 := n1_; have HO565 := n2_; have BK566 := n3_; have BK567 := n4_; have HK := n5_; have HB := n6_; have HI0 := n7_; clear n0_ n1_ n2_ n3_ n4_ n5_ n6_ n7_; (try clear hb); (try clear hb2); (try clear hk); (try clear hi); have hnb180 := NB560_561.out; have hnc180 := NB561_560.out; have hnb181 := NB560_566.out; have hnc181 := NB566_560.out; have hnb182 := NB560_567.out; have hnc182 := NB567_560.out; have hnb183 := NB560_0.out; have hnc183 := NB0_560.out; obtain ⟨hcz184_0, hcz184_1⟩ := blk_cells2 BK560.out; obtain ⟨hfz184_0, hfz184_1⟩ := blk_frozens2 BK560.out; have hnb185 := NB561_566.out; have hnc185 := NB566_561.out; have hnb186 := NB561_567.out; have hnc186 := NB567_561.out; have hnb187 := NB561_0.out; have hnc187 := NB0_561.out; obtain ⟨hcz188_0, hcz188_1⟩ := blk_cells2 BK561.out; obtain ⟨hfz188_0, hfz188_1⟩ := blk_frozens2 BK561.out; have hnb189 := NB566_567.out; have hnc189 := NB567_566.out; have hnb190 := NB566_0.out; have hnc190 := NB0_566.out; obtain ⟨hcz191_0, hcz191_1⟩ := blk_cells2 BK566.out; obtain ⟨hfz191_0, hfz191_1⟩ := blk_frozens2 BK566.out; have hnb192 := NB567_0.out; have hnc192 := NB0_567.out; obtain ⟨hcz193_0, hcz193_1⟩ := blk_cells2 BK567.out; obtain ⟨hfz193_0, hfz193_1⟩ := blk_frozens2 BK567.out))
      refine bodyPost_ret (results_cell_row rfl _ _ gb567 27 #[.int .i64 t562, .slice Ao176 t563.length co176] (0, 0) _ rfl (bput BK567.out) Try.underlying27 rfl Z12) rfl ?_
      exact ⟨_, by first | rfl | (simp [errW_none, errW_some] <;> rfl) | (simp [*, errW_none, errW_some] <;> rfl), by (with_reducible repeat (first | apply Kd.N_alloc | apply Kd.N_drewN | apply Kd.N_drew)); exact Kd.N_mono (Kd.N_far (p := ⟨gb567, 1, none⟩) (Kd.N_far (p := ⟨gb567, 0, none⟩) (Kd.N_mono HO565.out (fun k_ hk => (⟨hk, hk.2⟩ : _ ∧ k_ ≠ gb567))) (fun _ hk => hk.2) (.int .i64 t562)) (fun _ hk => hk.2) (.slice Ao176 t563.length co176)) (fun _ hk => by (try dsimp only at hk); omega), Z23, Z31, Z26, Z93, Z92⟩
end Go.Proofs.Ytokpniagnbaflaa.PFnPlaces
