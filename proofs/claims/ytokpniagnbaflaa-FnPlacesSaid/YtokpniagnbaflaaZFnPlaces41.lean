import Derived.Test.YtokpniagnbaflaaZFnPlaces29
import Derived.Test.YtokpniagnbaflaaZFnPlacesA
import Derived.Test.YtokpniagnbaflaaZFnPlaces32
import Derived.Test.YtokpniagnbaflaaZFnPlaces33
import Derived.Test.YtokpniagnbaflaaZFnPlaces36
import Derived.Test.YtokpniagnbaflaaZFnPlaces34
import Derived.Test.YtokpniagnbaflaaZFnPlaces35
import Derived.Test.YtokpniagnbaflaaZFnPlaces38
import Derived.Test.YtokpniagnbaflaaZFnPlaces40
namespace Go.Proofs.Ytokpniagnbaflaa.PFnPlaces
open Go.RowKit Go.Proofs.YtokpniagnbaflaaW.PrintWords Go.Proofs.YtokpniagnbaflaaW.PrintLast Go.Proofs.YtokpniagnbaflaaW.PrintMore
attribute [local go_sem] max2_int min2_int max_two min_two max_three min_three max_four min_four   -- for this text's walks alone
attribute [local go_sem high] fl_eql fl_neq fl_lss fl_leq fl_gtr fl_geq fl_add fl_sub fl_mul fl_quo fl_neg fl_ofInt fl_toInt fl_store sub_sign fl_nan_quo fl_nan_add fl_nan_mul fl_nan_sub
open Go.Proofs.YtokpniagnbaflaaW.PrintWords renaming below_alloc → h1, pw_below_drewN → h2, below_drew1 → h3, below_set → h4, blk_drewN → b1, blk_drew → b2, blk_alloc → b3
set_option linter.unusedVariables false
set_option linter.unusedSimpArgs false
mutual
def spec_l7page.l0 : Nat → Int → List Int → Int → Int → Int → List (List Int) → Option (Int × (List (List Int)) × Int × Int)
 | 0, _, _, _, _, _, _ => none
 | k + 1, x4, x1000, x1001, x1002, x496000, x496001 => if x4 > 0 then ((spec_l6tuple.f k x1000 x1001 x1002).bind fun bt499 => ((spec_TupleBytes.f k bt499.1 bt499.2.1 bt499.2.2.1 bt499.2.2.2.1 bt499.2.2.2.2.1 bt499.2.2.2.2.2.1 bt499.2.2.2.2.2.2.1 bt499.2.2.2.2.2.2.2.1 bt499.2.2.2.2.2.2.2.2.1 bt499.2.2.2.2.2.2.2.2.2.1).bind fun t515 => ((spec_l1Once.f x1000 bt499.2.2.2.2.2.2.2.2.2.2.1 bt499.2.2.2.2.2.2.2.2.2.2.2 4).bind fun bt518 => (if bt518.1 = true then ((some (([1] : List Int) : List Int)).bind fun y521 => ((spec_l1some.f k x1000 bt518.2.1 bt518.2.2 30).bind fun bt524 => (if y521.length + bt524.1.length < 140737488355328 then (spec_l7page.j1 k x4 (y521 ++ bt524.1) x1000 bt524.2.1 bt524.2.2 x496000 x496001) else (none)))) else (spec_l7page.j1 k x4 t515 x1000 bt518.2.1 bt518.2.2 x496000 x496001))))) else (some (x496000, x496001, x1001, x1002))
def spec_l7page.j1 : Nat → Int → List Int → List Int → Int → Int → Int → List (List Int) → Option (Int × (List (List Int)) × Int × Int)
 | 0, _, _, _, _, _, _, _ => none
 | k + 1, x4, x5, x1000, x1001, x1002, x496000, x496001 => (spec_PagePlace.f k x496000 x496001 (x5.length : Int)).bind fun t532 => ((spec_l1Below.f x1000 x1001 x1002 50).bind fun bt533 => ((spec_PagePut.f k x496000 x496001 t532 x5 (wrap64 (1 + bt533.1))).bind fun bt536 => (if bt536.2.2 = true then (spec_l7page.j2 k x4 x1000 bt533.2.1 bt533.2.2 bt536.1 bt536.2.1) else (spec_l7page.j2 k x4 x1000 bt533.2.1 bt533.2.2 x496000 x496001))))
def spec_l7page.j2 : Nat → Int → List Int → Int → Int → Int → List (List Int) → Option (Int × (List (List Int)) × Int × Int)
 | 0, _, _, _, _, _, _ => none
 | k + 1, x4, x1000, x1001, x1002, x496000, x496001 => (spec_l1Once.f x1000 x1001 x1002 5).bind fun bt542 => (if bt542.1 = true then (spec_l7page.j3 k x4 (decide ((x496001.length : Int) > 0)) x1000 bt542.2.1 bt542.2.2 x496000 x496001) else (spec_l7page.j3 k x4 false x1000 bt542.2.1 bt542.2.2 x496000 x496001))
def spec_l7page.j3 : Nat → Int → Bool → List Int → Int → Int → Int → List (List Int) → Option (Int × (List (List Int)) × Int × Int)
 | 0, _, _, _, _, _, _, _ => none
 | k + 1, x4, x48, x1000, x1001, x1002, x496000, x496001 => if x48 = true then ((spec_l1Below.f x1000 x1001 x1002 (x496001.length : Int)).bind fun bt545 => ((spec_l1Below.f x1000 bt545.2.1 bt545.2.2 50).bind fun bt548 => ((spec_PageClear.f k x496000 x496001 bt545.1 (wrap64 (1 + bt548.1))).bind fun bt551 => (spec_l7page.l0 k (wrap64 (x4 - 1)) x1000 bt548.2.1 bt548.2.2 bt551.1 bt551.2.1)))) else (spec_l7page.l0 k (wrap64 (x4 - 1)) x1000 x1001 x1002 x496000 x496001)
end
def spec_l7page.f (k : Nat) (s0_0 : List Int) (s0_1 : Int) (s0_2 : Int) : Option (Int × (List (List Int)) × Int × Int) := (spec_l1Below.f s0_0 s0_1 s0_2 50).bind fun bt492 => ((spec_l1Below.f s0_0 bt492.2.1 bt492.2.2 9).bind fun bt496 => (spec_l7page.l0 k bt496.1 s0_0 bt496.2.1 bt496.2.2 bt492.1 ([] : List (List Int))))
theorem spec_l7page.mono_l : ∀ k, (∀ y0 y1 y2 y3 y4 y5, LeO (spec_l7page.l0 k y0 y1 y2 y3 y4 y5) (spec_l7page.l0 (k + 1) y0 y1 y2 y3 y4 y5)) ∧ (∀ y0 y1 y2 y3 y4 y5 y6, LeO (spec_l7page.j1 k y0 y1 y2 y3 y4 y5 y6) (spec_l7page.j1 (k + 1) y0 y1 y2 y3 y4 y5 y6)) ∧ (∀ y0 y1 y2 y3 y4 y5, LeO (spec_l7page.j2 k y0 y1 y2 y3 y4 y5) (spec_l7page.j2 (k + 1) y0 y1 y2 y3 y4 y5)) ∧ (∀ y0 y1 y2 y3 y4 y5 y6, LeO (spec_l7page.j3 k y0 y1 y2 y3 y4 y5 y6) (spec_l7page.j3 (k + 1) y0 y1 y2 y3 y4 y5 y6))
 | 0 => ⟨fun _ _ _ _ _ _ r h => by simp [spec_l7page.l0] at h, fun _ _ _ _ _ _ _ r h => by simp [spec_l7page.j1] at h, fun _ _ _ _ _ _ r h => by simp [spec_l7page.j2] at h, fun _ _ _ _ _ _ _ r h => by simp [spec_l7page.j3] at h⟩
 | k + 1 => by
  obtain ⟨ih0, ih1, ih2, ih3⟩ := spec_l7page.mono_l k
  refine ⟨?_, ?_, ?_, ?_⟩
  ·intro y0 y1 y2 y3 y4 y5
   unfold spec_l7page.l0
   repeat' with_reducible first | exact ih0 _ _ _ _ _ _ | exact ih1 _ _ _ _ _ _ _ | exact ih2 _ _ _ _ _ _ | exact ih3 _ _ _ _ _ _ _ | exact spec_PageClear.mono _ _ _ _ _ | exact spec_PagePlace.mono _ _ _ _ | exact spec_PagePut.mono _ _ _ _ _ _ | exact spec_TupleBytes.mono _ _ _ _ _ _ _ _ _ _ _ | exact spec_l1some.mono _ _ _ _ _ | exact spec_l6tuple.mono _ _ _ _ | exact LeO.refl _ | exact LeO.none _ | refine LeO.ite ?_ ?_ | refine LeO.bind ?_ (fun _ => ?_)
  ·intro y0 y1 y2 y3 y4 y5 y6
   unfold spec_l7page.j1
   repeat' with_reducible first | exact ih0 _ _ _ _ _ _ | exact ih1 _ _ _ _ _ _ _ | exact ih2 _ _ _ _ _ _ | exact ih3 _ _ _ _ _ _ _ | exact spec_PageClear.mono _ _ _ _ _ | exact spec_PagePlace.mono _ _ _ _ | exact spec_PagePut.mono _ _ _ _ _ _ | exact spec_TupleBytes.mono _ _ _ _ _ _ _ _ _ _ _ | exact spec_l1some.mono _ _ _ _ _ | exact spec_l6tuple.mono _ _ _ _ | exact LeO.refl _ | exact LeO.none _ | refine LeO.ite ?_ ?_ | refine LeO.bind ?_ (fun _ => ?_)
  ·intro y0 y1 y2 y3 y4 y5
   unfold spec_l7page.j2
   repeat' with_reducible first | exact ih0 _ _ _ _ _ _ | exact ih1 _ _ _ _ _ _ _ | exact ih2 _ _ _ _ _ _ | exact ih3 _ _ _ _ _ _ _ | exact spec_PageClear.mono _ _ _ _ _ | exact spec_PagePlace.mono _ _ _ _ | exact spec_PagePut.mono _ _ _ _ _ _ | exact spec_TupleBytes.mono _ _ _ _ _ _ _ _ _ _ _ | exact spec_l1some.mono _ _ _ _ _ | exact spec_l6tuple.mono _ _ _ _ | exact LeO.refl _ | exact LeO.none _ | refine LeO.ite ?_ ?_ | refine LeO.bind ?_ (fun _ => ?_)
  ·intro y0 y1 y2 y3 y4 y5 y6
   unfold spec_l7page.j3
   repeat' with_reducible first | exact ih0 _ _ _ _ _ _ | exact ih1 _ _ _ _ _ _ _ | exact ih2 _ _ _ _ _ _ | exact ih3 _ _ _ _ _ _ _ | exact spec_PageClear.mono _ _ _ _ _ | exact spec_PagePlace.mono _ _ _ _ | exact spec_PagePut.mono _ _ _ _ _ _ | exact spec_TupleBytes.mono _ _ _ _ _ _ _ _ _ _ _ | exact spec_l1some.mono _ _ _ _ _ | exact spec_l6tuple.mono _ _ _ _ | exact LeO.refl _ | exact LeO.none _ | refine LeO.ite ?_ ?_ | refine LeO.bind ?_ (fun _ => ?_)
theorem spec_l7page.mono : ∀ a0 a1 a2 k, LeO (spec_l7page.f k a0 a1 a2) (spec_l7page.f (k + 1) a0 a1 a2) := by
 intro a0 a1 a2 k
 obtain ⟨ih0, ih1, ih2, ih3⟩ := spec_l7page.mono_l k
 unfold spec_l7page.f
 repeat' with_reducible first | exact ih0 _ _ _ _ _ _ | exact ih1 _ _ _ _ _ _ _ | exact ih2 _ _ _ _ _ _ | exact ih3 _ _ _ _ _ _ _ | exact spec_PageClear.mono _ _ _ _ _ | exact spec_PagePlace.mono _ _ _ _ | exact spec_PagePut.mono _ _ _ _ _ _ | exact spec_TupleBytes.mono _ _ _ _ _ _ _ _ _ _ _ | exact spec_l1some.mono _ _ _ _ _ | exact spec_l6tuple.mono _ _ _ _ | exact LeO.refl _ | exact LeO.none _ | refine LeO.ite ?_ ?_ | refine LeO.bind ?_ (fun _ => ?_)
def spec_l7page.T8 : Bool × List (List Nat × List Nat) := (true, [([], []), ([], []), ([], []), ([2], [2]), ([1, 3], [1, 3]), ([], []), ([], []), ([6, 4], [6]), ([7], [7]), ([0, 4, 5, 8, 7], [0, 4, 5, 8]), ([9], [9]), ([10], [10]), ([10], [10]), ([], []), ([13, 11, 9, 0, 1, 2, 3, 4, 5, 6, 7, 8, 9, 10, 11, 13], [11, 13]), ([12, 14, 0, 1, 2, 3, 4, 5, 6, 7, 8, 9, 10, 11, 12, 13, 14], [12])])
def spec_l7page.B8 : List Nat := [0, 0, 0, 4, 14, 0, 0, 94, 222, 511, 1023, 2047, 2047, 0, 12287, 32767]
theorem spec_l7page.tab8 : rtab .any (opsOf Try.f58 8) = spec_l7page.T8 := by kernel_rfl
theorem spec_l7page.bits8 : waitsOk spec_l7page.T8.2 spec_l7page.B8 = true := by kernel_rfl
def spec_l7page.T12 : Bool × List (List Nat × List Nat) := (true, [([], []), ([], []), ([], []), ([2], [2]), ([3], [3]), ([1, 4], [1, 4]), ([], []), ([6, 5], [6]), ([7], [7]), ([0, 5, 8, 7], [0, 5, 8]), ([9], [9]), ([10], [10]), ([10], [10]), ([11, 9, 0, 1, 2, 3, 4, 5, 6, 7, 8, 9, 10, 11], [11])])
def spec_l7page.B12 : List Nat := [0, 0, 0, 4, 12, 30, 0, 126, 254, 511, 1023, 2047, 2047, 4095]
theorem spec_l7page.tab12 : rtab .any (opsOf Try.f58 12) = spec_l7page.T12 := by kernel_rfl
theorem spec_l7page.bits12 : waitsOk spec_l7page.T12.2 spec_l7page.B12 = true := by kernel_rfl
set_option maxHeartbeats 8000000 in
set_option maxRecDepth 100000 in
theorem spec_l7page.calls (k : Nat) (g : Nat) (s0_0 : List Int) (s0_1 : Int) (s0_2 : Int) (r1 : Int) (r2 : List (List Int)) (r3 : Int) (r4 : Int) (w0 w : World) (hI : IsS82 w0 w g s0_0 s0_1 s0_2) (hB : Below w0.heap.size w0 w) (h : spec_l7page.f k s0_0 s0_1 s0_2 = some (r1, r2, r3, r4)) :
  Calls Try.prog 58 #[.pointer (some ⟨g, 0, none⟩)] w fun e w' => ∃ v1_ : Value, e = .returned (.agg #[.int .i64 r1, v1_]) ∧ Kd.N (Kd.slice 5 (Kd.int .u8)) 36 w' w.heap.size (fun k_ => (w.heap.size ≤ k_)) v1_ r2 ∧ IsS82 w0 w' g s0_0 r3 r4 ∧ Below w0.heap.size w0 w' ∧ KeepBut w w' g none := by
 have hu27 := Try.underlying27
 have HI0 := ZA hI
 have HK := ZA (KeepBut.refl w g none)
 have HL := ZA hB.size
 clear hI
 have HW0 := ZA hB.size
 have HB := ZA hB
 clear hB
 have H := h
 clear h
 unfold spec_l7page.f at H
 replace H := Option.bind_eq_some_iff.mp H
 obtain ⟨⟨t492, t493, t494⟩, A20, H⟩ := H
 (try dsimp only at H)
 have A2 := ZA A20
 clear A20
 replace H := Option.bind_eq_some_iff.mp H
 obtain ⟨⟨t496, t497, t498⟩, A30, H⟩ := H
 (try dsimp only at H)
 have A3 := ZA A30
 clear A30
 have H' := ZA H
 clear H
 go_enter Try.func58, Try.ntmps58
 go_wp2_with (first | ((with_reducible refine gate_dst (N := 2) rfl ?_); (try (refine gate_guard Z94 ?_; dsimp only)); refine box_event ?hg (N := 2) ?hd (cs := #[.int .i64 0, .slice none 0 0]) (t := 27) ?hr ?_; (case hd => rfl); (case hg => rfl); (case hr => first | (go_simp; done) | (go_simp; rfl)); intro gb491 hg w4 hbox hb; have n0_ := ZA (IsS82.below (Z4) hb); have n1_ := ZA (KeepBut.trans Z3 (KeepBut.of_below hb g none) (.inl rfl)); have n2_ := ZA (below_step (Z15) hb); have n3_ := ZA (hbox); have n4_ := Geq.mk ((Z61 : w.heap.size ≤ gb491)); have n5_ := ZA ((Nat.le_trans HW0.out (Z61 : w.heap.size ≤ gb491) : w0.heap.size ≤ gb491)); have n6_ := ZA ((Z88 : g ≠ gb491)); have n7_ := ZA ((Z89 : gb491 ≠ g)); clear HI0 HK HB; have HI0 := n0_; have HK := n1_; have HB := n2_; have BK491 := n3_; have GW491 := n4_; have GE491 := n5_; have NB0_491 := n6_; have NB491_0 := n7_; clear n0_ n1_ n2_ n3_ n4_ n5_ n6_ n7_ hb hbox hg) | ((with_reducible refine gate_callee (f := 63) rfl ?_); refine goesL_ (some 9) rfl rfl Try.func63 Z12 rfl #[.pointer (some ⟨g, 0, none⟩), .int .i64 50] rfl Z1 ?_; (with_reducible refine (spec_l1Below.calls g s0_0 s0_1 s0_2 50 t492 t493 t494 w0 _ ?side1 ?side2 A2.out).mono ?_); (case side1 => repeat (first | (with_reducible first | exact HI0.out | apply IsS82.alloc | apply IsS82.drewN | apply IsS82.drew | apply IsS82.set_1 | apply IsS82.set_2 | refine IsS82.far ?_ NB0_491.out _) | exact HI0.out)); (case side2 => repeat (first | (with_reducible first | exact HB.out | apply h1 | apply h2 | apply h3 | refine h4 ?_ (IsS82.ge HI0.out) | refine h4 ?_ GE491.out) | exact HB.out)); rintro e w5 ⟨rfl, hi, hb, hk⟩; refine ⟨_, rfl, ?_⟩; have n0_ := ZA (KeepBut.blk hk (g' := gb491) (o := .cells #[.int .i64 0, .slice none 0 0] 27 (0, 0)) (bup BK491.out) NB491_0.out Z44); have n1_ := ZA (KeepBut.trans Z64 hk (.inl rfl)); have n2_ := ZA (hb); have n3_ := ZA (hi); clear BK491 HK HB HI0; have BK491 := n0_; have HK := n1_; have HB := n2_; have HI0 := n3_; clear n0_ n1_ n2_ n3_; (try clear hb); (try clear hb2); (try clear hk); (try clear hi)) | ((with_reducible refine gate_dst (N := 3) rfl ?_); (try (refine gate_guard Z94 ?_; dsimp only)); refine box_event ?hg (N := 3) ?hd (cs := #[.int .i64 0, .slice none 0 0]) (t := 27) ?hr ?_; (case hd => rfl); (case hg => rfl); (case hr => first | (go_simp; done) | (go_simp; rfl)); intro gb495 hg w6 hbox hb; have n0_ := ZA (IsS82.below (by repeat (first | (with_reducible first | exact HI0.out | apply IsS82.alloc | apply IsS82.drewN | apply IsS82.drew | apply IsS82.set_1 | apply IsS82.set_2 | refine IsS82.far ?_ NB0_491.out _) | exact HI0.out)) hb); have n1_ := ZA (blk_below (bup BK491.out) hb); have n2_ := ZA (KeepBut.trans Z64 (KeepBut.of_below hb g none) (.inl rfl)); have n3_ := ZA (below_step (by repeat (first | (with_reducible first | exact HB.out | apply h1 | apply h2 | apply h3 | refine h4 ?_ (IsS82.ge HI0.out) | refine h4 ?_ GE491.out) | exact HB.out)) hb); have n4_ := ZA (hbox); have n5_ := Geq.mk ((by rw [hg]; exact (keep_size (w := w) (g := g) (row := none) Z64) : w.heap.size ≤ gb495)); have n6_ := ZA ((Nat.le_trans HW0.out (by rw [hg]; exact (keep_size (w := w) (g := g) (row := none) Z64) : w.heap.size ≤ gb495) : w0.heap.size ≤ gb495)); have n7_ := Neq.mk ((Z67 : gb491 ≠ gb495)); have n8_ := Neq.mk ((Z68 : gb495 ≠ gb491)); have n9_ := ZA ((by rw [hg]; exact Nat.ne_of_lt (IsS82.lt (show IsS82 w0 _ g s0_0 t493 t494 from by repeat (first | (with_reducible first | exact HI0.out | apply IsS82.alloc | apply IsS82.drewN | apply IsS82.drew | apply IsS82.set_1 | apply IsS82.set_2 | refine IsS82.far ?_ NB0_491.out _) | exact HI0.out))) : g ≠ gb495)); have n10_ := ZA ((by rw [hg]; exact Nat.ne_of_gt (IsS82.lt (show IsS82 w0 _ g s0_0 t493 t494 from by repeat (first | (with_reducible first | exact HI0.out | apply IsS82.alloc | apply IsS82.drewN | apply IsS82.drew | apply IsS82.set_1 | apply IsS82.set_2 | refine IsS82.far ?_ NB0_491.out _) | exact HI0.out))) : gb495 ≠ g)); clear HI0 BK491 HK HB; have HI0 := n0_; have BK491 := n1_; have HK := n2_; have HB := n3_; have BK495 := n4_; have GW495 := n5_; have GE495 := n6_; have NB491_495 := n7_; have NB495_491 := n8_; have NB0_495 := n9_; have NB495_0 := n10_; clear n0_ n1_ n2_ n3_ n4_ n5_ n6_ n7_ n8_ n9_ n10_ hb hbox hg; have hnb7 := NB495_491.out; have hnc7 := NB491_495.out; have hnb8 := NB495_0.out; have hnc8 := NB0_495.out; obtain ⟨hcz9_0, hcz9_1⟩ := blk_cells2 BK495.out; obtain ⟨hfz9_0, hfz9_1⟩ := blk_frozens2 BK495.out) | ((with_reducible refine gate_callee (f := 63) rfl ?_); refine goesL_ (some 12) rfl rfl Try.func63 Z12 rfl #[.pointer (some ⟨g, 0, none⟩), .int .i64 9] rfl Z1 ?_; (with_reducible refine (spec_l1Below.calls g s0_0 t493 t494 9 t496 t497 t498 w0 _ ?side1 ?side2 A3.out).mono ?_); (case side1 => repeat (first | (with_reducible first | exact HI0.out | apply IsS82.alloc | apply IsS82.drewN | apply IsS82.drew | apply IsS82.set_1 | apply IsS82.set_2 | refine IsS82.far ?_ NB0_491.out _ | refine IsS82.far ?_ NB0_495.out _) | exact HI0.out)); (case side2 => repeat (first | (with_reducible first | exact HB.out | apply h1 | apply h2 | apply h3 | refine h4 ?_ (IsS82.ge HI0.out) | refine h4 ?_ GE491.out | refine h4 ?_ GE495.out) | exact HB.out)); rintro e w10 ⟨rfl, hi, hb, hk⟩; refine ⟨_, rfl, ?_⟩; have n0_ := ZA (KeepBut.blk hk (g' := gb491) (o := .cells #[.int .i64 0, .slice none 0 0] 27 (0, 0)) (bput BK491.out) NB491_0.out Z44); have n1_ := ZA (KeepBut.blk hk (g' := gb495) (o := .cells #[.int .i64 t492, .slice none 0 0] 27 (0, 0)) (bput BK495.out) NB495_0.out Z44); have n2_ := ZA (KeepBut.trans Z2 hk (.inl rfl)); have n3_ := ZA (hb); have n4_ := ZA (hi); clear BK491 BK495 HK HB HI0; have BK491 := n0_; have BK495 := n1_; have HK := n2_; have HB := n3_; have HI0 := n4_; clear n0_ n1_ n2_ n3_ n4_; (try clear hb); (try clear hb2); (try clear hk); (try clear hi)))
 go_loopg [4] k (fun kq v4 w' => ∃ (x4_1 : Int) (x1001_1 : Int) (x1002_1 : Int) (x496000_1 : Int) (x496001_1 : List (List Int)) (u496001 : Value), v4 = .int .i64 x4_1 ∧ Aside0 (spec_l7page.l0 kq x4_1 s0_0 x1001_1 x1002_1 x496000_1 x496001_1 = some (r1, r2, r3, r4)) ∧ Aside0 (kq ≤ k) ∧ Aside0 (Kd.N (Kd.slice 5 (Kd.int .u8)) 36 w' w.heap.size (fun k_ => (w.heap.size ≤ k_) ∧ k_ ≠ gb491 ∧ k_ ≠ gb495 ∧ k_ ≠ g) u496001 x496001_1) ∧ Aside0 (w'.heap[gb491]? = some (.cells #[.int .i64 0, (.slice none 0 0)] 27 (0, 0))) ∧ Aside0 (w'.heap[gb495]? = some (.cells #[.int .i64 x496000_1, u496001] 27 (0, 0))) ∧ Aside0 (IsS82 w0 w' g s0_0 x1001_1 x1002_1) ∧ Aside0 (KeepBut w w' g none) ∧ Aside0 (Below w0.heap.size w0 w'))
 case atStart => exact ⟨(t496), (t497), (t498), (t492), (([] : List (List Int))), (.slice none 0 0), Z7, H', ⟨Nat.le_refl _⟩, ⟨by first | exact Kd.S_nil _ _ _ _ _ | exact Kd.N_nil _ _ _ _ _ | exact Kd.V_nil _ _ _ _ _ | exact Kd.Q_nil _ _ _ _ _ | exact Kd.R_nil _ _ _ _ _⟩, ⟨by exact bup BK491.out⟩, ⟨by exact bup BK495.out⟩, ⟨Z9⟩, ⟨Z58⟩, ⟨Z60⟩⟩
 case round =>
  clear H'
  try clear p2
  try clear c5
  try clear c6
  try clear c7
  try clear c8
  try clear hcz9_0
  try clear hcz9_1
  try clear hfz9_0
  try clear hfz9_1
  obtain ⟨x4_1, x1001_1, x1002_1, x496000_1, x496001_1, u496001, rfl, HA, HK1, HO_496001, BK491, BK495, HI0, HK, HB⟩ := hrel
  cases gk with
  | zero => exact absurd HA.out (by simp [spec_l7page.l0])
  | succ k1 =>
   have H := HA.out
   clear HA
   simp only [spec_l7page.l0] at H
   by_cases c11 : x4_1 > 0
   ·rw [if_pos c11] at H
    have c11b0 : decide (0 < x4_1) = true := decide_eq_true c11
    clear c11
    replace H := Option.bind_eq_some_iff.mp H
    obtain ⟨⟨t499, t500, t501, t502, t503, t504, t507, t508, t509, t510, t513, t514⟩, A120, H⟩ := H
    (try dsimp only at H)
    have A12 := ZA A120
    clear A120
    replace H := Option.bind_eq_some_iff.mp H
    obtain ⟨t515, A130, H⟩ := H
    (try dsimp only at H)
    have A13 := ZA A130
    clear A130
    replace H := Option.bind_eq_some_iff.mp H
    obtain ⟨⟨t518, t519, t520⟩, A140, H⟩ := H
    (try dsimp only at H)
    have A14 := ZA A140
    clear A140
    have HC15 := ZA H
    clear H
    go_upto_if 21 with (first | ((with_reducible refine gate_callee (f := 62) rfl ?_); refine goesL_ (some 18) rfl rfl Try.func62 Z12 rfl #[.pointer (some ⟨g, 0, none⟩)] rfl Z1 ?_; (with_reducible refine (spec_l6tuple.callsC k1 g s0_0 x1001_1 x1002_1 t499 t500 t501 t502 t503 t504 t507 t508 t509 t510 t513 t514 w0 _ ?side1 ?side2 A12.out).mono ?_); (case side1 => repeat (first | (with_reducible first | exact HI0.out | apply IsS82.alloc | apply IsS82.drewN | apply IsS82.drew | apply IsS82.set_1 | apply IsS82.set_2 | refine IsS82.far ?_ NB0_491.out _ | refine IsS82.far ?_ NB0_495.out _) | exact HI0.out)); (case side2 => repeat (first | (with_reducible first | exact HB.out | apply h1 | apply h2 | apply h3 | refine h4 ?_ (IsS82.ge HI0.out) | refine h4 ?_ GE491.out | refine h4 ?_ GE495.out) | exact HB.out)); rintro e w16 ⟨b503, b509, v505, v511, rfl, ho0, ho1, hi, hb, hk, ⟨⟨hcnb503, hltb503⟩⟩, ⟨⟨hcnb509, hltb509⟩⟩⟩; refine ⟨_, rfl, ?_⟩; have LTb503 := ZA hltb503; clear hltb503; subst hcnb503; have LTb509 := ZA hltb509; clear hltb509; subst hcnb509; have n0_ := ZA (Kd.N_mono (Kd.N_told (Kd.N_told (Kd.N_oldK (Kd.N_mono (ok := fun k_ => (((w.heap.size ≤ k_)) ∧ (k_ ≠ gb491 ∧ (k_ ≠ gb495 ∧ k_ ≠ g)))) Z20 (fun k_ hk_ => (⟨hk_, hk_.2.2.2⟩ : _ ∧ k_ ≠ g))) hk) (Kd.R_base ho0)) (Kd.R_base ho1)) (fun _ h_ => h_.1)); have n1_ := ZA (KeepBut.blk hk (g' := gb491) (o := .cells #[.int .i64 0, .slice none 0 0] 27 (0, 0)) (bup BK491.out) NB491_0.out Z44); have n2_ := ZA (KeepBut.blk hk (g' := gb495) (o := .cells #[.int .i64 x496000_1, u496001] 27 (0, 0)) (bup BK495.out) NB495_0.out Z44); have n3_ := ZA (Kd.R_lower (Kd.R_newM (M := fun k_ => (w.heap.size ≤ k_)) ho0 (keep_size (w := w) (g := g) (row := none) Z2) (fun k_ h_ => h_)) (keep_size (w := w) (g := g) (row := none) Z2)); have n4_ := ZA (Kd.R_lower (Kd.R_newM (M := fun k_ => (w.heap.size ≤ k_)) ho1 (keep_size (w := w) (g := g) (row := none) Z2) (fun k_ h_ => h_)) (keep_size (w := w) (g := g) (row := none) Z2)); have n5_ := ZA (KeepBut.trans Z2 hk (.inl rfl)); have n6_ := ZA (hb); have n7_ := ZA (hi); clear HO_496001 BK491 BK495 HK HB HI0; have HO_496001 := n0_; have BK491 := n1_; have BK495 := n2_; have HO506 := n3_; have HO512 := n4_; have HK := n5_; have HB := n6_; have HI0 := n7_; clear n0_ n1_ n2_ n3_ n4_ n5_ n6_ n7_; (try clear hb); (try clear hb2); (try clear hk); (try clear hi); (try clear ho0); (try clear ho1); obtain ⟨Ao17, co17, eo17⟩ := Kd.R_slice HO506.out; subst eo17; obtain ⟨Ao18, co18, eo18⟩ := Kd.R_slice HO512.out; subst eo18) | ((with_reducible refine gate_callee (f := 61) rfl ?_); refine goesL_ (some 19) rfl rfl Try.func61 Z12 rfl #[.agg #[.int .i64 t499, .int .i64 t500, .int .i64 t501, .int .i64 t502, .float .f64 b503, .slice Ao17 t504.length co17, .int .i64 t507, .int .i64 t508, .float .f64 b509, .slice Ao18 t510.length co18]] rfl Z1 ?_; (with_reducible refine (spec_TupleBytes.calls k1 t499 t500 t501 t502 b503 _ _ t504 t507 t508 b509 _ _ t510 t515 _ ?side1 ?side2 ?side3 ?side4 ((spec_TupleBytes.inv1 _ _ _ _ _ _ _ _ _ _ _).symm.trans ((spec_TupleBytes.inv0 _ _ _ _ _ _ _ _ _ _ _).symm.trans A13.out))).mono ?_); (case side1 => repeat (first | exact (Kd.R_reads' HO506.out).2.2 | (with_reducible refine Kd.C_alloc ?_ _) | (with_reducible refine Kd.C_drewN ?_ _) | (with_reducible refine Kd.C_drew ?_))); (case side2 => exact (Kd.R_reads' HO506.out).2.1); (case side3 => repeat (first | exact (Kd.R_reads' HO512.out).2.2 | (with_reducible refine Kd.C_alloc ?_ _) | (with_reducible refine Kd.C_drewN ?_ _) | (with_reducible refine Kd.C_drew ?_))); (case side4 => exact (Kd.R_reads' HO512.out).2.1); rintro e w19 ⟨v516, rfl, ho0, hb⟩; refine ⟨_, rfl, ?_⟩; have n0_ := ZA (Kd.N_elder' Z20 (Kd.R_base ho0) hb); have n1_ := ZA (Kd.R_elder' (Kd.rup HO506.out) (Kd.R_base ho0) hb); have n2_ := ZA (Kd.R_elder' (Kd.rup HO512.out) (Kd.R_base ho0) hb); have n3_ := ZA (Kd.R_lower (Kd.R_new' (Kd.R_new' (Kd.R_newM (M := fun k_ => (w.heap.size ≤ k_)) ho0 (keep_size (w := w) (g := g) (row := none) Z2) (fun k_ h_ => h_)) (Kd.R_lt (Kd.rup HO506.out))) (Kd.R_lt (Kd.rup HO512.out))) (keep_size (w := w) (g := g) (row := none) Z2)); have n4_ := ZA (blk_below (bup BK491.out) hb); have n5_ := ZA (blk_below (bup BK495.out) hb); have n6_ := ZA (IsS82.below (Z9) hb); have n7_ := ZA (KeepBut.trans Z2 (KeepBut.of_below hb g none) (.inl rfl)); have n8_ := ZA (below_step Z33 hb); clear HO_496001 HO506 HO512 BK491 BK495 HI0 HK HB; have HO_496001 := n0_; have HO506 := n1_; have HO512 := n2_; have HO517 := n3_; have BK491 := n4_; have BK495 := n5_; have HI0 := n6_; have HK := n7_; have HB := n8_; clear n0_ n1_ n2_ n3_ n4_ n5_ n6_ n7_ n8_; (try clear hb); (try clear hb2); (try clear hk); (try clear hi); (try clear ho0)) | ((with_reducible refine gate_callee (f := 59) rfl ?_); refine goesL_ (some 21) rfl rfl Try.func59 Z12 rfl #[.pointer (some ⟨g, 0, none⟩), .int .i64 4] rfl Z1 ?_; (with_reducible refine (spec_l1Once.calls g s0_0 t513 t514 4 t518 t519 t520 w0 _ ?side1 ?side2 A14.out).mono ?_); (case side1 => repeat (first | (with_reducible first | exact HI0.out | apply IsS82.alloc | apply IsS82.drewN | apply IsS82.drew | apply IsS82.set_1 | apply IsS82.set_2 | refine IsS82.far ?_ NB0_491.out _ | refine IsS82.far ?_ NB0_495.out _) | exact HI0.out)); (case side2 => repeat (first | (with_reducible first | exact HB.out | apply h1 | apply h2 | apply h3 | refine h4 ?_ (IsS82.ge HI0.out) | refine h4 ?_ GE491.out | refine h4 ?_ GE495.out) | exact HB.out)); rintro e w20 ⟨rfl, hi, hb, hk⟩; refine ⟨_, rfl, ?_⟩; have n0_ := ZA (Kd.N_mono (Kd.N_keep (Kd.N_mono (ok := fun k_ => ((((((w.heap.size ≤ k_)) ∧ (k_ ≠ gb491 ∧ (k_ ≠ gb495 ∧ k_ ≠ g))) ∧ some k_ ≠ (.slice Ao17 t504.length co17 : Value).ownBlock) ∧ some k_ ≠ (.slice Ao18 t510.length co18 : Value).ownBlock) ∧ some k_ ≠ (v516 : Value).ownBlock)) Z20 (fun k_ hk_ => (⟨hk_, hk_.1.1.1.2.2.2⟩ : _ ∧ k_ ≠ g))) hk (fun _ h => h.2)) (fun _ h => h.1)); have n1_ := ZA (KeepBut.blk hk (g' := gb491) (o := .cells #[.int .i64 0, .slice none 0 0] 27 (0, 0)) (bup BK491.out) NB491_0.out Z44); have n2_ := ZA (KeepBut.blk hk (g' := gb495) (o := .cells #[.int .i64 x496000_1, u496001] 27 (0, 0)) (bup BK495.out) NB495_0.out Z44); have n3_ := ZA (Kd.R_mono (Kd.R_keep (IsS82.apart (show IsS82 w0 _ g s0_0 t513 t514 from Z9) (Kd.rup HO506.out) Z25) hk (fun _ h => h.2)) (fun _ h => h.1)); have n4_ := ZA (Kd.R_mono (Kd.R_keep (IsS82.apart (show IsS82 w0 _ g s0_0 t513 t514 from Z9) (Kd.rup HO512.out) Z25) hk (fun _ h => h.2)) (fun _ h => h.1)); have n5_ := ZA (Kd.R_mono (Kd.R_keep (IsS82.apart (show IsS82 w0 _ g s0_0 t513 t514 from Z9) (Kd.rup HO517.out) Z25) hk (fun _ h => h.2)) (fun _ h => h.1)); have n6_ := ZA (KeepBut.trans Z2 hk (.inl rfl)); have n7_ := ZA (hb); have n8_ := ZA (hi); clear HO_496001 BK491 BK495 HO506 HO512 HO517 HK HB HI0; have HO_496001 := n0_; have BK491 := n1_; have BK495 := n2_; have HO506 := n3_; have HO512 := n4_; have HO517 := n5_; have HK := n6_; have HB := n7_; have HI0 := n8_; clear n0_ n1_ n2_ n3_ n4_ n5_ n6_ n7_ n8_; (try clear hb); (try clear hb2); (try clear hk); (try clear hi)))
    (try simp only [Act.put, List.setIfInBounds_toArray, List.set_cons_zero, List.set_cons_succ])
    go_cut [5] (fun v5 wc => ∃ (kq : Nat) (x5_14 : List Int) (x1001_14 : Int) (x1002_14 : Int), Aside0 (spec_l7page.j1 kq x4_1 x5_14 s0_0 x1001_14 x1002_14 x496000_1 x496001_1 = some (r1, r2, r3, r4)) ∧ Aside0 (kq ≤ k1) ∧ Aside0 (Kd.R (Kd.int .u8) 5 wc w.heap.size (fun k_ => (w.heap.size ≤ k_)) v5 x5_14) ∧ Aside0 (Kd.N (Kd.slice 5 (Kd.int .u8)) 36 wc w.heap.size (fun k_ => (w.heap.size ≤ k_) ∧ some k_ ≠ (v5 : Value).ownBlock ∧ k_ ≠ gb491 ∧ k_ ≠ gb495 ∧ k_ ≠ g) u496001 x496001_1) ∧ Aside0 (wc.heap[gb491]? = some (.cells #[.int .i64 0, (.slice none 0 0)] 27 (0, 0))) ∧ Aside0 (wc.heap[gb495]? = some (.cells #[.int .i64 x496000_1, u496001] 27 (0, 0))) ∧ Aside0 (IsS82 w0 wc g s0_0 x1001_14 x1002_14) ∧ Aside0 (KeepBut w wc g none) ∧ Aside0 (Below w0.heap.size w0 wc))
    case first =>
     have H := HC15.out
     clear HC15
     by_cases c21 : t518 = true
     ·subst c21
      rw [if_pos rfl] at H
      (try dsimp only at H)
      obtain ⟨y521, hy521⟩ : ∃ y_ : List Int, y_ = (([1] : List Int)) := ⟨_, rfl⟩
      replace H : ((spec_l1some.f k1 s0_0 t519 t520 30).bind fun bt524 => (if y521.length + bt524.1.length < 140737488355328 then (spec_l7page.j1 k1 x4_1 (y521 ++ bt524.1) s0_0 bt524.2.1 bt524.2.2 x496000_1 x496001_1) else (none))) = some (r1, r2, r3, r4) := by first | (rw [hy521]; with_reducible exact H) | (have H2_ := (Option.bind_some _ _).symm.trans H; rw [hy521]; with_reducible exact H2_) | (have H2_ := (Option.bind_some _ _).symm.trans H; with_reducible exact H2_) | with_reducible exact H | (rw [hy521]; exact H) | exact H
      have Ny521 := ZA hy521
      clear hy521
      replace H := Option.bind_eq_some_iff.mp H
      obtain ⟨⟨t524, t527, t528⟩, A220, H⟩ := H
      (try dsimp only at H)
      have A22 := ZA A220
      clear A220
      by_cases c23 : y521.length + t524.length < 140737488355328
      ·rw [if_pos c23] at H
       have LMc23 := ZA c23
       clear c23
       obtain ⟨y529, hy529⟩ : ∃ y_ : List Int, y_ = (y521 ++ t524) := ⟨_, rfl⟩
       replace H : (spec_l7page.j1 k1 x4_1 y529 s0_0 t527 t528 x496000_1 x496001_1) = some (r1, r2, r3, r4) := by first | (rw [hy529]; with_reducible exact H) | (have H2_ := (Option.bind_some _ _).symm.trans H; rw [hy529]; with_reducible exact H2_) | (have H2_ := (Option.bind_some _ _).symm.trans H; with_reducible exact H2_) | with_reducible exact H | (rw [hy529]; exact H) | exact H
       have Ny529 := ZA hy529
       clear hy529
       have H' := ZA H
       clear H
       go_wp2_with (first | ((with_reducible refine gate_dst (N := 22) rfl ?_); (try (refine gate_guard Z94 ?_; dsimp only)); refine Kd.R_lit (Kd.int .u8) _ 5 ?hg (N := 22) ?hd (xs := ([1] : List Int)) (inner := [.int .u8 1]) (ok := fun _ => True) (okp := fun _ => True) ?hr ?hp (fun _ hk => hk) trivial (Below.refl _ _) (Nat.le_refl _) Z44 ?_; (case hd => rfl); (case hg => rfl); (case hr => first | (go_simp; done) | (go_simp; rfl)); (case hp => exact (Reps.one (show Kd.M (Kd.int .u8) _ _ _ 1 [.int .u8 1] from rfl) (Reps.none _ _))); intro v522 w24 ho25 hb hg_ hnew_; clear hg_ hnew_; (first | rw [← Ny521.out] at ho25 | (simp only [Int.reduceToNat] at ho25; rw [← Ny521.out] at ho25)); have n0_ := ZA (Kd.N_elder' Z20 (Kd.R_base ho25) hb); have n1_ := ZA (Kd.R_elder' (Kd.rup HO506.out) (Kd.R_base ho25) hb); have n2_ := ZA (Kd.R_elder' (Kd.rup HO512.out) (Kd.R_base ho25) hb); have n3_ := ZA (Kd.R_elder' (Kd.rup HO517.out) (Kd.R_base ho25) hb); have n4_ := ZA (Kd.R_lower (Kd.R_new' (Kd.R_new' (Kd.R_new' (Kd.R_newM (M := fun k_ => (w.heap.size ≤ k_)) ho25 (keep_size (w := w) (g := g) (row := none) Z2) (fun k_ h_ => h_)) (Kd.R_lt (Kd.rup HO506.out))) (Kd.R_lt (Kd.rup HO512.out))) (Kd.R_lt (Kd.rup HO517.out))) (keep_size (w := w) (g := g) (row := none) Z2)); have n5_ := ZA (blk_below (bup BK491.out) hb); have n6_ := ZA (blk_below (bup BK495.out) hb); have n7_ := ZA (IsS82.below (Z9) hb); have n8_ := ZA (KeepBut.trans Z2 (KeepBut.of_below hb g none) (.inl rfl)); have n9_ := ZA (below_step Z33 hb); clear HO_496001 HO506 HO512 HO517 BK491 BK495 HI0 HK HB; have HO_496001 := n0_; have HO506 := n1_; have HO512 := n2_; have HO517 := n3_; have HO523 := n4_; have BK491 := n5_; have BK495 := n6_; have HI0 := n7_; have HK := n8_; have HB := n9_; clear n0_ n1_ n2_ n3_ n4_ n5_ n6_ n7_ n8_ n9_ hb ho25) | ((with_reducible refine gate_callee (f := 67) rfl ?_); refine goesL_ (some 24) rfl rfl Try.func67 Z12 rfl #[.pointer (some ⟨g, 0, none⟩), .int .i64 30] rfl Z1 ?_; (with_reducible refine (spec_l1some.calls k1 g s0_0 t519 t520 30 t524 t527 t528 w0 _ ?side1 ?side2 A22.out).mono ?_); (case side1 => repeat (first | (with_reducible first | exact HI0.out | apply IsS82.alloc | apply IsS82.drewN | apply IsS82.drew | apply IsS82.set_1 | apply IsS82.set_2 | refine IsS82.far ?_ NB0_491.out _ | refine IsS82.far ?_ NB0_495.out _) | exact HI0.out)); (case side2 => repeat (first | (with_reducible first | exact HB.out | apply h1 | apply h2 | apply h3 | refine h4 ?_ (IsS82.ge HI0.out) | refine h4 ?_ GE491.out | refine h4 ?_ GE495.out) | exact HB.out)); rintro e w26 ⟨v525, rfl, ho0, hi, hb, hk⟩; refine ⟨_, rfl, ?_⟩; have n0_ := ZA (Kd.N_mono (Kd.N_told (Kd.N_oldK (Kd.N_mono (ok := fun k_ => (((((((w.heap.size ≤ k_)) ∧ (k_ ≠ gb491 ∧ (k_ ≠ gb495 ∧ k_ ≠ g))) ∧ some k_ ≠ (.slice Ao17 t504.length co17 : Value).ownBlock) ∧ some k_ ≠ (.slice Ao18 t510.length co18 : Value).ownBlock) ∧ some k_ ≠ (v516 : Value).ownBlock) ∧ some k_ ≠ (v522 : Value).ownBlock)) Z20 (fun k_ hk_ => (⟨hk_, hk_.1.1.1.1.2.2.2⟩ : _ ∧ k_ ≠ g))) hk) (Kd.R_base ho0)) (fun _ h_ => h_.1)); have n1_ := ZA (KeepBut.blk hk (g' := gb491) (o := .cells #[.int .i64 0, .slice none 0 0] 27 (0, 0)) (bup BK491.out) NB491_0.out Z44); have n2_ := ZA (KeepBut.blk hk (g' := gb495) (o := .cells #[.int .i64 x496000_1, u496001] 27 (0, 0)) (bup BK495.out) NB495_0.out Z44); have n3_ := ZA (Kd.R_mono (Kd.R_told (Kd.R_oldK (IsS82.apart (show IsS82 w0 _ g s0_0 t519 t520 from Z9) (Kd.rup HO506.out) Z25) hk) (Kd.R_base ho0)) (fun _ h_ => h_.1)); have n4_ := ZA (Kd.R_mono (Kd.R_told (Kd.R_oldK (IsS82.apart (show IsS82 w0 _ g s0_0 t519 t520 from Z9) (Kd.rup HO512.out) Z25) hk) (Kd.R_base ho0)) (fun _ h_ => h_.1)); have n5_ := ZA (Kd.R_mono (Kd.R_told (Kd.R_oldK (IsS82.apart (show IsS82 w0 _ g s0_0 t519 t520 from Z9) (Kd.rup HO517.out) Z25) hk) (Kd.R_base ho0)) (fun _ h_ => h_.1)); have n6_ := ZA (Kd.R_mono (Kd.R_told (Kd.R_oldK (IsS82.apart (show IsS82 w0 _ g s0_0 t519 t520 from Z9) (Kd.rup HO523.out) Z25) hk) (Kd.R_base ho0)) (fun _ h_ => h_.1)); have n7_ := ZA (Kd.R_lower (Kd.R_new' (Kd.R_new' (Kd.R_new' (Kd.R_new' (Kd.R_newM (M := fun k_ => (w.heap.size ≤ k_)) ho0 (keep_size (w := w) (g := g) (row := none) Z2) (fun k_ h_ => h_)) (Kd.R_lt (Kd.rup HO506.out))) (Kd.R_lt (Kd.rup HO512.out))) (Kd.R_lt (Kd.rup HO517.out))) (Kd.R_lt (Kd.rup HO523.out))) (keep_size (w := w) (g := g) (row := none) Z2)); have n8_ := ZA (KeepBut.trans Z2 hk (.inl rfl)); have n9_ := ZA (hb); have n10_ := ZA (hi); clear HO_496001 BK491 BK495 HO506 HO512 HO517 HO523 HK HB HI0; have HO_496001 := n0_; have BK491 := n1_; have BK495 := n2_; have HO506 := n3_; have HO512 := n4_; have HO517 := n5_; have HO523 := n6_; have HO526 := n7_; have HK := n8_; have HB := n9_; have HI0 := n10_; clear n0_ n1_ n2_ n3_ n4_ n5_ n6_ n7_ n8_ n9_ n10_; (try clear hb); (try clear hb2); (try clear hk); (try clear hi); (try clear ho0); obtain ⟨Ao28, co28, eo28⟩ := Kd.R_slice HO526.out; subst eo28) | ((with_reducible refine gate_builtin (b := .append) (xs := #[.tmp 22, .tmp 24]) rfl ?_); (try (refine gate_guard Z94 ?_; dsimp only)); at_builtin; refine Kd.R_append_rows (Kd.int .u8) w.heap.size rfl (.tmp 22) (.tmp 24) 36 5 (.int .u8 0) 1 rfl Try.underlying36 info5 rfl Z25 Z8 v522 y521 t524 _ _ _ (fun k_ => (w.heap.size ≤ k_) ∧ some k_ ≠ (.slice Ao17 t504.length co17 : Value).ownBlock ∧ some k_ ≠ (.slice Ao18 t510.length co18 : Value).ownBlock ∧ some k_ ≠ (v516 : Value).ownBlock ∧ some k_ ≠ (.slice Ao28 t524.length co28 : Value).ownBlock) (fun _ => False) rfl rfl ?aO ?aR (fun _ _ h => h) (fun _ h => h.elim) ?aF (Below.refl _ _) ?aS ?aL ?_; (case aR => repeat (first | exact (Kd.R_reads' HO526.out).2.2 | (with_reducible refine Kd.C_alloc ?_ _) | (with_reducible refine Kd.C_drewN ?_ _) | (with_reducible refine Kd.C_drew ?_))); (case aF => exact (fun k_ hk => ⟨(Nat.le_trans (keep_size (w := w) (g := g) (row := none) Z2) hk), Kd.fresh' (Kd.R_lt (Kd.rup HO506.out)) k_ hk, Kd.fresh' (Kd.R_lt (Kd.rup HO512.out)) k_ hk, Kd.fresh' (Kd.R_lt (Kd.rup HO517.out)) k_ hk, Kd.fresh' (Kd.R_lt (Kd.rup HO526.out)) k_ hk⟩)); (case aO => exact (by exact Kd.rup (Kd.R_mono HO523.out (fun _ hk => ⟨hk.1.1.1.1.1, ⟨hk.1.1.1.2, ⟨hk.1.1.2, ⟨hk.1.2, hk.2⟩⟩⟩⟩)))); (case aS => exact (keep_size (w := w) (g := g) (row := none) Z2)); (case aL => have := LMc23.out; omega); intro v530 w27 ho hb hg hat; rw [← Ny529.out] at ho; have n0_ := ZA (Kd.N_afterv (ok := (fun k_ => (w.heap.size ≤ k_) ∧ some k_ ≠ (.slice Ao17 t504.length co17 : Value).ownBlock ∧ some k_ ≠ (.slice Ao18 t510.length co18 : Value).ownBlock ∧ some k_ ≠ (v516 : Value).ownBlock ∧ some k_ ≠ (.slice Ao28 t524.length co28 : Value).ownBlock ∧ k_ ≠ gb491 ∧ k_ ≠ gb495 ∧ k_ ≠ g)) (by (with_reducible repeat (first | apply Kd.N_alloc | apply Kd.N_drewN | apply Kd.N_drew)); exact Kd.N_mono HO_496001.out (fun _ hk => ⟨⟨hk.1.1.1.1.1.1, ⟨hk.1.1.1.1.2, ⟨hk.1.1.1.2, ⟨hk.1.1.2, ⟨hk.2, ⟨hk.1.1.1.1.1.2.1, ⟨hk.1.1.1.1.1.2.2.1, hk.1.1.1.1.1.2.2.2⟩⟩⟩⟩⟩⟩⟩, hk.1.2⟩)) hg hat); have n1_ := ZA (blk_grown (g := gb491) (o := .cells #[.int .i64 0, .slice none 0 0] 27 (0, 0)) (bup BK491.out) hg (Kd.R_ne HO523.out BK491.out Z25)); have n2_ := ZA (blk_grown (g := gb495) (o := .cells #[.int .i64 x496000_1, u496001] 27 (0, 0)) (bup BK495.out) hg (Kd.R_ne HO523.out BK495.out Z25)); have n3_ := ZA (IsS82.grown (Z9) hg (IsS82.own_ne HI0.out HO523.out Z25)); have n4_ := ZA (Kd.R_after (ok := (fun k_ => (w.heap.size ≤ k_) ∧ some k_ ≠ (.slice Ao18 t510.length co18 : Value).ownBlock ∧ some k_ ≠ (v516 : Value).ownBlock ∧ some k_ ≠ (.slice Ao28 t524.length co28 : Value).ownBlock)) (by exact Kd.rup (Kd.R_mono HO506.out (fun _ hk => ⟨⟨hk.1.1.1.1, ⟨hk.1.1.1.2, ⟨hk.1.1.2, hk.2⟩⟩⟩, hk.1.2⟩))) hg hat); have n5_ := ZA (Kd.R_after (ok := (fun k_ => (w.heap.size ≤ k_) ∧ some k_ ≠ (.slice Ao17 t504.length co17 : Value).ownBlock ∧ some k_ ≠ (v516 : Value).ownBlock ∧ some k_ ≠ (.slice Ao28 t524.length co28 : Value).ownBlock)) (by exact Kd.rup (Kd.R_mono HO512.out (fun _ hk => ⟨⟨hk.1.1.1.1, ⟨hk.1.1.1.2, ⟨hk.1.1.2, hk.2⟩⟩⟩, hk.1.2⟩))) hg hat); have n6_ := ZA (Kd.R_after (ok := (fun k_ => (w.heap.size ≤ k_) ∧ some k_ ≠ (.slice Ao17 t504.length co17 : Value).ownBlock ∧ some k_ ≠ (.slice Ao18 t510.length co18 : Value).ownBlock ∧ some k_ ≠ (.slice Ao28 t524.length co28 : Value).ownBlock)) (by exact Kd.rup (Kd.R_mono HO517.out (fun _ hk => ⟨⟨hk.1.1.1.1.1, ⟨hk.1.1.1.2, ⟨hk.1.1.2, hk.2⟩⟩⟩, hk.1.2⟩))) hg hat); have n7_ := ZA (Kd.R_after (ok := (fun k_ => (w.heap.size ≤ k_) ∧ some k_ ≠ (.slice Ao17 t504.length co17 : Value).ownBlock ∧ some k_ ≠ (.slice Ao18 t510.length co18 : Value).ownBlock ∧ some k_ ≠ (v516 : Value).ownBlock)) (by exact Kd.rup (Kd.R_mono HO526.out (fun _ hk => ⟨⟨hk.1.1.1.1.1, ⟨hk.1.1.1.2, ⟨hk.1.1.2, hk.1.2⟩⟩⟩, hk.2⟩))) hg hat); have n8_ := ZA (below_weaken Z33 HL.out hb); have n9_ := ZA (KeepBut.trans Z2 (KeepBut.of_grown hg g) (Kd.R_base2 HO523.out)); have n10_ := ZA (ho); clear HO_496001 BK491 BK495 HI0 HO506 HO512 HO517 HO526 HB HK HO523; have HO_496001 := n0_; have BK491 := n1_; have BK495 := n2_; have HI0 := n3_; have HO506 := n4_; have HO512 := n5_; have HO517 := n6_; have HO526 := n7_; have HB := n8_; have HK := n9_; have HO531 := n10_; clear n0_ n1_ n2_ n3_ n4_ n5_ n6_ n7_ n8_ n9_ n10_ ho hb hg hat))
       go_meet
       case rel => exact ⟨_, (y529), (t527), (t528), H', ⟨by have := HK1.out; first | omega | exact Nat.le_refl _⟩, ⟨by exact Kd.rup (Kd.R_mono HO531.out (fun _ hk => hk.1))⟩, ⟨by (with_reducible repeat (first | apply Kd.N_alloc | apply Kd.N_drewN | apply Kd.N_drew)); exact Kd.N_mono HO_496001.out (fun _ hk => ⟨hk.1.1, ⟨hk.2, ⟨hk.1.2.2.2.2.2.1, ⟨hk.1.2.2.2.2.2.2.1, hk.1.2.2.2.2.2.2.2⟩⟩⟩⟩)⟩, ⟨by exact bup BK491.out⟩, ⟨by exact bup BK495.out⟩, ⟨Z9⟩, ⟨Z58⟩, ⟨Z60⟩⟩
      ·rw [if_neg c23] at H
       exact absurd H Z44
     ·replace c21 := Bool.eq_false_iff.mpr c21
      subst c21
      rw [if_neg (show ¬ (false = true) by decide)] at H
      (try dsimp only at H)
      have H' := ZA H
      clear H
      go_wp2
      go_meet
      case rel => exact ⟨_, (t515), (t519), (t520), H', ⟨by have := HK1.out; first | omega | exact Nat.le_refl _⟩, ⟨by exact Kd.rup (Kd.R_mono HO517.out (fun _ hk => hk.1.1.1))⟩, ⟨by (with_reducible repeat (first | apply Kd.N_alloc | apply Kd.N_drewN | apply Kd.N_drew)); exact Kd.N_mono HO_496001.out (fun _ hk => ⟨hk.1.1.1.1, ⟨hk.2, ⟨hk.1.1.1.2.1, ⟨hk.1.1.1.2.2.1, hk.1.1.1.2.2.2⟩⟩⟩⟩)⟩, ⟨by exact bup BK491.out⟩, ⟨by exact bup BK495.out⟩, ⟨Z9⟩, ⟨Z58⟩, ⟨Z60⟩⟩
    case rest =>
     clear HC15
     try clear c1
     try clear c2
     try clear p2
     try clear c5
     try clear c6
     try clear c7
     try clear c8
     try clear c11
     try clear c11b0
     try clear c21
     try clear c23
     try clear hcz9_0
     try clear hcz9_1
     try clear hfz9_0
     try clear hfz9_1
     try clear p2
     obtain ⟨kq, x5_14, x1001_14, x1002_14, HA, HJ14, HO_5, HO_496001, BK491, BK495, HI0, HK, HB⟩ := hcut
     cases kq with
     | zero => exact absurd HA.out (by simp [spec_l7page.j1])
     | succ kj14 =>
      have H := HA.out
      clear HA
      simp only [spec_l7page.j1] at H
      replace H := Option.bind_eq_some_iff.mp H
      obtain ⟨t532, A290, H⟩ := H
      (try dsimp only at H)
      have A29 := ZA A290
      clear A290
      replace H := Option.bind_eq_some_iff.mp H
      obtain ⟨⟨t533, t534, t535⟩, A300, H⟩ := H
      (try dsimp only at H)
      have A30 := ZA A300
      clear A300
      replace H := Option.bind_eq_some_iff.mp H
      obtain ⟨⟨t536, t537, t540⟩, A310, H⟩ := H
      (try dsimp only at H)
      have A31 := ZA A310
      clear A310
      have HC32 := ZA H
      clear H
      obtain ⟨Ao33, co33, eo33⟩ := Kd.N_slice HO_496001.out
      subst eo33
      obtain ⟨Ao34, co34, eo34⟩ := Kd.R_slice HO_5.out
      subst eo34
      try go_wp2
      have n0_ := ZA (Kd.R_drew HO_5.out)
      have n1_ := ZA (Kd.N_drew HO_496001.out)
      have n2_ := ZA (blk_drew BK491.out)
      have n3_ := ZA (blk_drew BK495.out)
      have n4_ := ZA (IsS82.drew HI0.out)
      have n5_ := ZA (keep_drew HK.out)
      have n6_ := ZA (below_drew1 HB.out)
      clear HO_5
      clear HO_496001
      clear BK491
      clear BK495
      clear HI0
      clear HK
      clear HB
      have HO_5 := n0_
      have HO_496001 := n1_
      have BK491 := n2_
      have BK495 := n3_
      have HI0 := n4_
      have HK := n5_
      have HB := n6_
      clear n0_ n1_ n2_ n3_ n4_ n5_ n6_
      refine start_ (n := 16) (S := fun w' => w'.cell? ⟨gb495, 0, none⟩ = some (.int .i64 x496000_1) ∧ w'.cell? ⟨gb495, 1, none⟩ = some (.slice Ao33 x496001_1.length co33)) (ds := []) #[false, false, false, false, false, false, false, false, false, false, false, false, false, false, false, false] Z12 rfl rfl (blk_cells2 BK495.out) (fun hHeld => ?_); refine with_tabW spec_l7page.tab8 spec_l7page.bits8 (fun HT_ HW_ => ?_)
      generalize wc.drew = w35 at HO_5 HO_496001 BK491 BK495 HI0 HK HB hHeld ⊢
      refine pure_ (i := 2) (N := some 29) (v := ?_) (a' := ?_) #[false, false, true, false, false, false, false, false, false, false, false, false, false, false, false, false] rfl rfl (any_of HT_.out Z12) (fun _ _ _ h => h) (Or.inl ⟨by rfl, ?_⟩) ?_ ?_
      rotate_left
      ·intro w'
       go_simp
       with_reducible rfl
      rotate_left
      ·simp only [Act.put, List.setIfInBounds_toArray, List.set_cons_zero, List.set_cons_succ, i64_w, i32_w]
       rfl
      refine pure_ (i := 3) (N := some 30) (v := ?_) (a' := ?_) #[false, false, true, true, false, false, false, false, false, false, false, false, false, false, false, false] rfl rfl (any_of HT_.out Z12) (fun _ _ _ h => h) (Or.inl ⟨by rfl, ?_⟩) ?_ ?_
      rotate_left
      ·intro w'
       go_simp
       with_reducible rfl
      rotate_left
      ·simp only [Act.put, List.setIfInBounds_toArray, List.set_cons_zero, List.set_cons_succ, i64_w, i32_w]
       rfl
      refine pure_ (i := 5) (N := some 32) (v := ?_) (a' := ?_) #[false, false, true, true, false, true, false, false, false, false, false, false, false, false, false, false] rfl rfl (any_of HT_.out Z12) (fun _ _ _ h => h) (Or.inl ⟨by rfl, ?_⟩) ?_ ?_
      rotate_left
      ·intro w'
       go_simp
       with_reducible rfl
      rotate_left
      ·simp only [Act.put, List.setIfInBounds_toArray, List.set_cons_zero, List.set_cons_succ, i64_w, i32_w]
       rfl
      refine pure_ (i := 6) (N := some 33) (v := ?_) (a' := ?_) #[false, false, true, true, false, true, true, false, false, false, false, false, false, false, false, false] rfl rfl (any_of HT_.out Z12) (fun _ _ _ h => h) (Or.inl ⟨by rfl, ?_⟩) ?_ ?_
      rotate_left
      ·intro w'
       go_simp
       with_reducible rfl
      rotate_left
      ·simp only [Act.put, List.setIfInBounds_toArray, List.set_cons_zero, List.set_cons_succ, i64_w, i32_w]
       rfl
      refine take_ (i := 0) (N := some 27) (v := ?_) (a' := ?_) #[true, false, true, true, false, true, true, false, false, false, false, false, false, false, false, false] rfl rfl (take_ofW HT_.out HW_.out Z12) (fun _ _ _ h => h) (Or.inl ⟨by rfl, ?_⟩) hHeld ?_ ?_
      rotate_left
      ·rintro w' ⟨s0, s1⟩
       go_simp
       with_reducible rfl
      rotate_left
      ·simp only [Act.put, List.setIfInBounds_toArray, List.set_cons_zero, List.set_cons_succ, i64_w, i32_w]
       rfl
      refine take_ (i := 1) (N := some 28) (v := ?_) (a' := ?_) #[true, true, true, true, false, true, true, false, false, false, false, false, false, false, false, false] rfl rfl (take_ofW HT_.out HW_.out Z12) (fun _ _ _ h => h) (Or.inl ⟨by rfl, ?_⟩) hHeld ?_ ?_
      rotate_left
      ·rintro w' ⟨s0, s1⟩
       go_simp
       with_reducible rfl
      rotate_left
      ·simp only [Act.put, List.setIfInBounds_toArray, List.set_cons_zero, List.set_cons_succ, i64_w, i32_w]
       rfl
      refine join_ (σ := Value × Nat) 2 #[true, true, true, true, true, true, true, true, true, true, true, true, true, true, false, false] (fun s_ => [(31, .int .i64 t532), (34, .int .i64 t533), (36, .tuple #[.agg #[.int .i64 t536, s_.1], .bool t540]), (6, .pointer (some ⟨s_.2, 0, none⟩)), (35, .int .i64 (wrap64 (1 + t533))), (26, .tuple #[.agg #[.int .i64 t536, s_.1], .bool t540]), (37, .agg #[.int .i64 t536, s_.1]), (38, .bool t540)]) (fun s_ w' => (w'.cell? ⟨gb495, 0, none⟩ = some (.int .i64 x496000_1) ∧ w'.cell? ⟨gb495, 1, none⟩ = some (.slice Ao33 x496001_1.length co33)) ∧ (Kd.N (Kd.slice 5 (Kd.int .u8)) 36 w' w.heap.size (fun k_ => (w.heap.size ≤ k_) ∧ some k_ ≠ (.slice Ao33 x496001_1.length co33 : Value).ownBlock ∧ some k_ ≠ (.slice Ao34 x5_14.length co34 : Value).ownBlock ∧ k_ ≠ g ∧ k_ ≠ gb491 ∧ k_ ≠ gb495 ∧ k_ ≠ s_.2) s_.1 t537) ∧ (Kd.N (Kd.slice 5 (Kd.int .u8)) 36 w' w.heap.size (fun k_ => (w.heap.size ≤ k_) ∧ some k_ ≠ (s_.1 : Value).ownBlock ∧ some k_ ≠ (.slice Ao34 x5_14.length co34 : Value).ownBlock ∧ k_ ≠ g ∧ k_ ≠ gb491 ∧ k_ ≠ gb495 ∧ k_ ≠ s_.2) (.slice Ao33 x496001_1.length co33) x496001_1) ∧ (Kd.R (Kd.int .u8) 5 w' w.heap.size (fun k_ => (w.heap.size ≤ k_)) (.slice Ao34 x5_14.length co34) x5_14) ∧ (w'.heap[gb491]? = some (.cells #[.int .i64 0, .slice none 0 0] 27 (0, 0))) ∧ (w'.heap[gb495]? = some (.cells #[.int .i64 x496000_1, .slice Ao33 x496001_1.length co33] 27 (0, 0))) ∧ (w'.heap[s_.2]? = some (.cells #[.int .i64 0, .slice none 0 0] 27 (0, 0))) ∧ (w.heap.size ≤ s_.2) ∧ (w0.heap.size ≤ s_.2) ∧ (g ≠ s_.2) ∧ (s_.2 ≠ g) ∧ (gb491 ≠ s_.2) ∧ (s_.2 ≠ gb491) ∧ (gb495 ≠ s_.2) ∧ (s_.2 ≠ gb495) ∧ (IsS82 w0 w' g s0_0 t534 t535) ∧ (KeepBut w w' g none) ∧ (Below w0.heap.size w0 w')) ?_ ?_
      rotate_left
      ·intro hCont
       refine two_ (i := 4) (j := 13) (Ni := some 31) (Nj := some 6) #[true, true, true, true, true, true, true, false, false, false, false, false, false, false, false, false] #[true, true, true, true, false, true, true, false, false, false, false, false, false, true, false, false] rfl rfl rfl rfl (two_of HT_.out Z12) Z25 Z25 (fun K hK => ?_) (fun K hK => ?_)
       ·skip
        refine goes_ Try.func16 Z12 rfl #[.agg #[.int .i64 x496000_1, .slice Ao33 x496001_1.length co33], .int .i64 (x5_14.length : Int)] Z94 rfl rfl Z1 ?_
        with_reducible refine (spec_PagePlace.calls kj14 x496000_1 _ _ x496001_1 (x5_14.length : Int) t532 _ ?side1 ?side2 A29.out).mono ?_
        (case side1 => repeat (first | exact (Kd.N_reads' HO_496001.out).2.2 | (with_reducible refine Kd.C_alloc ?_ _) | (with_reducible refine Kd.C_drewN ?_ _) | (with_reducible refine Kd.C_drew ?_)))
        (case side2 => exact (Kd.N_reads' HO_496001.out).2.1)
        rintro e w36 ⟨rfl, hb⟩
        refine ⟨_, rfl, ?_⟩
        have n0_ := ZA (Kd.R_below (Kd.rup HO_5.out) hb)
        have n1_ := ZA (Kd.N_below Z20 hb)
        have n2_ := ZA (blk_below (bup BK491.out) hb)
        have n3_ := ZA (blk_below (bup BK495.out) hb)
        have n4_ := ZA (IsS82.below (Z9) hb)
        have n5_ := ZA (KeepBut.trans Z2 (KeepBut.of_below hb g none) (.inl rfl))
        have n6_ := ZA (below_step Z33 hb)
        clear HO_5
        clear HO_496001
        clear BK491
        clear BK495
        clear HI0
        clear HK
        clear HB
        have HO_5 := n0_
        have HO_496001 := n1_
        have BK491 := n2_
        have BK495 := n3_
        have HI0 := n4_
        have HK := n5_
        have HB := n6_
        clear n0_ n1_ n2_ n3_ n4_ n5_ n6_
        (try clear hb)
        (try clear hb2)
        (try clear hk)
        (try clear hi)
        refine hK.out _ _ (blk_cells2 BK495.out) (fun hHeld => ?_)
        clear hK K
        refine norm_ (a' := ?_) ?_ ?_
        rotate_left
        ·show Act.put _ (some 31) _ = _
         simp only [Act.put, List.setIfInBounds_toArray, List.set_cons_zero, List.set_cons_succ, i64_w, i32_w]
         rfl
        refine two_ (i := 7) (j := 13) (Ni := some 34) (Nj := some 6) #[true, true, true, true, true, true, true, true, false, false, false, false, false, false, false, false] #[true, true, true, true, true, true, true, false, false, false, false, false, false, true, false, false] rfl rfl rfl rfl (two_of HT_.out Z12) Z25 Z25 (fun K hK => ?_) (fun K hK => ?_)
        ·skip
         refine goes_ Try.func63 Z12 rfl #[.pointer (some ⟨g, 0, none⟩), .int .i64 50] Z94 rfl rfl Z1 ?_
         with_reducible refine (spec_l1Below.calls g s0_0 x1001_14 x1002_14 50 t533 t534 t535 w0 _ ?side1 ?side2 A30.out).mono ?_
         (case side1 => repeat (first | (with_reducible first | exact HI0.out | apply IsS82.alloc | apply IsS82.drewN | apply IsS82.drew | apply IsS82.set_1 | apply IsS82.set_2 | refine IsS82.far ?_ NB0_491.out _ | refine IsS82.far ?_ NB0_495.out _) | exact HI0.out))
         (case side2 => repeat (first | (with_reducible first | exact HB.out | apply h1 | apply h2 | apply h3 | refine h4 ?_ (IsS82.ge HI0.out) | refine h4 ?_ GE491.out | refine h4 ?_ GE495.out) | exact HB.out))
         rintro e w37 ⟨rfl, hi, hb, hk⟩
         refine ⟨_, rfl, ?_⟩
         have n0_ := ZA (Kd.R_mono (Kd.R_keep (IsS82.apart (show IsS82 w0 _ g s0_0 x1001_14 x1002_14 from Z9) (Kd.rup HO_5.out) Z25) hk (fun _ h => h.2)) (fun _ h => h.1))
         have n1_ := ZA (Kd.N_mono (Kd.N_keep (Kd.N_mono (ok := fun k_ => (((w.heap.size ≤ k_)) ∧ (some k_ ≠ (.slice Ao34 x5_14.length co34 : Value).ownBlock ∧ (k_ ≠ gb491 ∧ (k_ ≠ gb495 ∧ k_ ≠ g))))) Z20 (fun k_ hk_ => (⟨hk_, hk_.2.2.2.2⟩ : _ ∧ k_ ≠ g))) hk (fun _ h => h.2)) (fun _ h => h.1))
         have n2_ := ZA (KeepBut.blk hk (g' := gb491) (o := .cells #[.int .i64 0, .slice none 0 0] 27 (0, 0)) (bup BK491.out) NB491_0.out Z44)
         have n3_ := ZA (KeepBut.blk hk (g' := gb495) (o := .cells #[.int .i64 x496000_1, .slice Ao33 x496001_1.length co33] 27 (0, 0)) (bup BK495.out) NB495_0.out Z44)
         have n4_ := ZA (KeepBut.trans Z2 hk (.inl rfl))
         have n5_ := ZA (hb)
         have n6_ := ZA (hi)
         clear HO_5
         clear HO_496001
         clear BK491
         clear BK495
         clear HK
         clear HB
         clear HI0
         have HO_5 := n0_
         have HO_496001 := n1_
         have BK491 := n2_
         have BK495 := n3_
         have HK := n4_
         have HB := n5_
         have HI0 := n6_
         clear n0_ n1_ n2_ n3_ n4_ n5_ n6_
         (try clear hb)
         (try clear hb2)
         (try clear hk)
         (try clear hi)
         refine hK.out _ _ (blk_cells2 BK495.out) (fun hHeld => ?_)
         clear hK K
         refine norm_ (a' := ?_) ?_ ?_
         rotate_left
         ·show Act.put _ (some 34) _ = _
          simp only [Act.put, List.setIfInBounds_toArray, List.set_cons_zero, List.set_cons_succ, i64_w, i32_w]
          rfl
         refine pure_ (i := 8) (N := some 35) (v := ?_) (a' := ?_) #[true, true, true, true, true, true, true, true, true, false, false, false, false, false, false, false] rfl rfl (any_of HT_.out Z12) (fun _ _ _ h => h) (Or.inl ⟨by rfl, ?_⟩) ?_ ?_
         rotate_left
         ·intro w'
          go_simp
          with_reducible rfl
         rotate_left
         ·simp only [Act.put, List.setIfInBounds_toArray, List.set_cons_zero, List.set_cons_succ, i64_w, i32_w]
          rfl
         refine two_ (i := 9) (j := 13) (Ni := some 36) (Nj := some 6) #[true, true, true, true, true, true, true, true, true, true, false, false, false, false, false, false] #[true, true, true, true, true, true, true, true, true, false, false, false, false, true, false, false] rfl rfl rfl rfl (two_of HT_.out Z12) Z25 Z25 (fun K hK => ?_) (fun K hK => ?_)
         ·skip
          refine goes_ Try.func22 Z12 rfl #[.agg #[.int .i64 x496000_1, .slice Ao33 x496001_1.length co33], .int .i64 t532, .slice Ao34 x5_14.length co34, .int .i64 (wrap64 (1 + t533))] Z94 rfl rfl Z1 ?_
          with_reducible refine (spec_PagePut.calls kj14 x496000_1 _ _ x496001_1 t532 _ _ x5_14 (wrap64 (1 + t533)) t536 t537 t540 _ ?side1 ?side2 ?side3 ?side4 A31.out).mono ?_
          (case side1 => repeat (first | exact (Kd.N_reads' HO_496001.out).2.2 | (with_reducible refine Kd.C_alloc ?_ _) | (with_reducible refine Kd.C_drewN ?_ _) | (with_reducible refine Kd.C_drew ?_)))
          (case side2 => exact (Kd.N_reads' HO_496001.out).2.1)
          (case side3 => repeat (first | exact (Kd.R_reads' HO_5.out).2.2 | (with_reducible refine Kd.C_alloc ?_ _) | (with_reducible refine Kd.C_drewN ?_ _) | (with_reducible refine Kd.C_drew ?_)))
          (case side4 => exact (Kd.R_reads' HO_5.out).2.1)
          rintro e w38 ⟨v538, rfl, ho0, hb⟩
          refine ⟨_, rfl, ?_⟩
          have n0_ := ZA (Kd.R_below (Kd.rup HO_5.out) hb)
          have n1_ := ZA (Kd.N_elder' Z20 Z72 hb)
          have n2_ := ZA (Kd.N_lower (Kd.N_mono (ok' := fun k_ => (w.heap.size ≤ k_) ∧ some k_ ≠ (.slice Ao34 x5_14.length co34 : Value).ownBlock ∧ some k_ ≠ (.slice Ao33 x496001_1.length co33 : Value).ownBlock ∧ k_ ≠ gb491 ∧ k_ ≠ gb495 ∧ k_ ≠ g) ho0 (fun k_ hk_ => ⟨(Nat.le_trans (keep_size (w := w) (g := g) (row := none) Z2) hk_), (Kd.fresh' (Kd.R_lt (Kd.rup HO_5.out)) k_ hk_), (Kd.fresh' (Kd.N_lt Z20) k_ hk_), (Kd.freshB (g := gb491) (o := .cells #[.int .i64 0, .slice none 0 0] 27 (0, 0)) (bup BK491.out) k_ hk_), (Kd.freshB (g := gb495) (o := .cells #[.int .i64 x496000_1, .slice Ao33 x496001_1.length co33] 27 (0, 0)) (bup BK495.out) k_ hk_), (IsS82.fresh (Z9) k_ hk_)⟩)) (keep_size (w := w) (g := g) (row := none) Z2))
          have n3_ := ZA (blk_below (bup BK491.out) hb)
          have n4_ := ZA (blk_below (bup BK495.out) hb)
          have n5_ := ZA (IsS82.below (Z9) hb)
          have n6_ := ZA (KeepBut.trans Z2 (KeepBut.of_below hb g none) (.inl rfl))
          have n7_ := ZA (below_step Z33 hb)
          clear HO_5
          clear HO_496001
          clear BK491
          clear BK495
          clear HI0
          clear HK
          clear HB
          have HO_5 := n0_
          have HO_496001 := n1_
          have HO539 := n2_
          have BK491 := n3_
          have BK495 := n4_
          have HI0 := n5_
          have HK := n6_
          have HB := n7_
          clear n0_ n1_ n2_ n3_ n4_ n5_ n6_ n7_
          (try clear hb)
          (try clear hb2)
          (try clear hk)
          (try clear hi)
          (try clear ho0)
          refine hK.out _ _ (blk_cells2 BK495.out) (fun hHeld => ?_)
          clear hK K
          refine norm_ (a' := ?_) ?_ ?_
          rotate_left
          ·show Act.put _ (some 36) _ = _
           simp only [Act.put, List.setIfInBounds_toArray, List.set_cons_zero, List.set_cons_succ, i64_w, i32_w]
           rfl
          refine pure_ (i := 10) (N := some 26) (v := ?_) (a' := ?_) #[true, true, true, true, true, true, true, true, true, true, true, false, false, false, false, false] rfl rfl (any_of HT_.out Z12) (fun _ _ _ h => h) (Or.inl ⟨by rfl, ?_⟩) ?_ ?_
          rotate_left
          ·intro w'
           go_simp
           with_reducible rfl
          rotate_left
          ·simp only [Act.put, List.setIfInBounds_toArray, List.set_cons_zero, List.set_cons_succ, i64_w, i32_w]
           rfl
          refine pure_ (i := 11) (N := some 37) (v := ?_) (a' := ?_) #[true, true, true, true, true, true, true, true, true, true, true, true, false, false, false, false] rfl rfl (any_of HT_.out Z12) (fun _ _ _ h => h) (Or.inl ⟨by rfl, ?_⟩) ?_ ?_
          rotate_left
          ·intro w'
           go_simp
           with_reducible rfl
          rotate_left
          ·simp only [Act.put, List.setIfInBounds_toArray, List.set_cons_zero, List.set_cons_succ, i64_w, i32_w]
           rfl
          refine pure_ (i := 12) (N := some 38) (v := ?_) (a' := ?_) #[true, true, true, true, true, true, true, true, true, true, true, true, true, false, false, false] rfl rfl (any_of HT_.out Z12) (fun _ _ _ h => h) (Or.inl ⟨by rfl, ?_⟩) ?_ ?_
          rotate_left
          ·intro w'
           go_simp
           with_reducible rfl
          rotate_left
          ·simp only [Act.put, List.setIfInBounds_toArray, List.set_cons_zero, List.set_cons_succ, i64_w, i32_w]
           rfl
          refine one_ (i := 13) (N := some 6) #[true, true, true, true, true, true, true, true, true, true, true, true, true, true, false, false] rfl rfl (one_of HT_.out Z12) Z25 (fun K hK => ?_)
          refine box_step ?hg (N := 6) ?hd (cs := #[.int .i64 0, .slice none 0 0]) (t := 27) ?hr ?_; (case hd => rfl); (case hg => rfl); (case hr => first | (go_simp; done) | (go_simp; rfl))
          intro gb541 hg w39 hbox hb
          have n0_ := ZA (Kd.R_below (Kd.rup HO_5.out) hb)
          have n1_ := ZA (Kd.N_below (Kd.N_elderB Z20 gb541 (Nat.le_of_eq hg.symm)) hb)
          have n2_ := ZA (Kd.N_below (Kd.N_elderB (by (with_reducible repeat (first | apply Kd.N_alloc | apply Kd.N_drewN | apply Kd.N_drew)); exact HO539.out) gb541 (Nat.le_of_eq hg.symm)) hb)
          have n3_ := ZA (blk_below (bup BK491.out) hb)
          have n4_ := ZA (blk_below (bup BK495.out) hb)
          have n5_ := ZA (IsS82.below (Z9) hb)
          have n6_ := ZA (KeepBut.trans Z2 (KeepBut.of_below hb g none) (.inl rfl))
          have n7_ := ZA (below_step Z33 hb)
          have n8_ := ZA (hbox)
          have n9_ := Geq.mk ((Z77 : w.heap.size ≤ gb541))
          have n10_ := ZA ((Nat.le_trans HW0.out (Z77 : w.heap.size ≤ gb541) : w0.heap.size ≤ gb541))
          have n11_ := Neq.mk ((Z67 : gb491 ≠ gb541))
          have n12_ := Neq.mk ((Z68 : gb541 ≠ gb491))
          have n13_ := Neq.mk ((Z74 : gb495 ≠ gb541))
          have n14_ := Neq.mk ((Z75 : gb541 ≠ gb495))
          have n15_ := ZA ((by rw [hg]; exact Nat.ne_of_lt (IsS82.lt (show IsS82 w0 _ g s0_0 t534 t535 from Z9)) : g ≠ gb541))
          have n16_ := ZA ((by rw [hg]; exact Nat.ne_of_gt (IsS82.lt (show IsS82 w0 _ g s0_0 t534 t535 from Z9)) : gb541 ≠ g))
          clear HO_5
          clear HO_496001
          clear HO539
          clear BK491
          clear BK495
          clear HI0
          clear HK
          clear HB
          have HO_5 := n0_
          have HO_496001 := n1_
          have HO539 := n2_
          have BK491 := n3_
          have BK495 := n4_
          have HI0 := n5_
          have HK := n6_
          have HB := n7_
          have BK541 := n8_
          have GW541 := n9_
          have GE541 := n10_
          have NB491_541 := n11_
          have NB541_491 := n12_
          have NB495_541 := n13_
          have NB541_495 := n14_
          have NB0_541 := n15_
          have NB541_0 := n16_
          clear n0_ n1_ n2_ n3_ n4_ n5_ n6_ n7_ n8_ n9_ n10_ n11_ n12_ n13_ n14_ n15_ n16_
          clear hb hbox hg
          refine hK.out _ _ (blk_cells2 BK495.out) (fun hHeld => ?_)
          clear hK K
          refine norm_ (a' := ?_) ?_ ?_
          rotate_left
          ·show Act.put _ (some 6) _ = _
           simp only [Act.put, List.setIfInBounds_toArray, List.set_cons_zero, List.set_cons_succ, i64_w, i32_w]
           rfl
          exact norm_ Z69 (hCont (v538, gb541) _ ⟨hHeld, (by (with_reducible repeat (first | apply Kd.N_alloc | apply Kd.N_drewN | apply Kd.N_drew)); exact Kd.N_mono HO539.out (fun _ hk => ⟨hk.1.1, ⟨hk.1.2.2.1, ⟨hk.1.2.1, ⟨hk.1.2.2.2.2.2, ⟨hk.1.2.2.2.1, ⟨hk.1.2.2.2.2.1, hk.2⟩⟩⟩⟩⟩⟩)), (by (with_reducible repeat (first | apply Kd.N_alloc | apply Kd.N_drewN | apply Kd.N_drew)); exact Kd.N_mono HO_496001.out (fun _ hk => ⟨hk.1.1.1, ⟨hk.1.2, ⟨hk.1.1.2.1, ⟨hk.1.1.2.2.2.2, ⟨hk.1.1.2.2.1, ⟨hk.1.1.2.2.2.1, hk.2⟩⟩⟩⟩⟩⟩)), (Kd.rup HO_5.out), (bup BK491.out), (bup BK495.out), (bup BK541.out), GW541.out, GE541.out, NB0_541.out, NB541_0.out, NB491_541.out, NB541_491.out, NB495_541.out, NB541_495.out, Z16, Z6, Z30⟩)
         ·skip
          refine box_step ?hg (N := 6) ?hd (cs := #[.int .i64 0, .slice none 0 0]) (t := 27) ?hr ?_; (case hd => rfl); (case hg => rfl); (case hr => first | (go_simp; done) | (go_simp; rfl))
          intro gb541 hg w38 hbox hb
          have n0_ := ZA (Kd.R_below (Kd.rup HO_5.out) hb)
          have n1_ := ZA (Kd.N_below (Kd.N_elderB Z20 gb541 (Nat.le_of_eq hg.symm)) hb)
          have n2_ := ZA (blk_below (bup BK491.out) hb)
          have n3_ := ZA (blk_below (bup BK495.out) hb)
          have n4_ := ZA (IsS82.below (Z9) hb)
          have n5_ := ZA (KeepBut.trans Z2 (KeepBut.of_below hb g none) (.inl rfl))
          have n6_ := ZA (below_step Z33 hb)
          have n7_ := ZA (hbox)
          have n8_ := Geq.mk ((Z77 : w.heap.size ≤ gb541))
          have n9_ := ZA ((Nat.le_trans HW0.out (Z77 : w.heap.size ≤ gb541) : w0.heap.size ≤ gb541))
          have n10_ := Neq.mk ((Z67 : gb491 ≠ gb541))
          have n11_ := Neq.mk ((Z68 : gb541 ≠ gb491))
          have n12_ := Neq.mk ((Z74 : gb495 ≠ gb541))
          have n13_ := Neq.mk ((Z75 : gb541 ≠ gb495))
          have n14_ := ZA ((by rw [hg]; exact Nat.ne_of_lt (IsS82.lt (show IsS82 w0 _ g s0_0 t534 t535 from Z9)) : g ≠ gb541))
          have n15_ := ZA ((by rw [hg]; exact Nat.ne_of_gt (IsS82.lt (show IsS82 w0 _ g s0_0 t534 t535 from Z9)) : gb541 ≠ g))
          clear HO_5
          clear HO_496001
          clear BK491
          clear BK495
          clear HI0
          clear HK
          clear HB
          have HO_5 := n0_
          have HO_496001 := n1_
          have BK491 := n2_
          have BK495 := n3_
          have HI0 := n4_
          have HK := n5_
          have HB := n6_
          have BK541 := n7_
          have GW541 := n8_
          have GE541 := n9_
          have NB491_541 := n10_
          have NB541_491 := n11_
          have NB495_541 := n12_
          have NB541_495 := n13_
          have NB0_541 := n14_
          have NB541_0 := n15_
          clear n0_ n1_ n2_ n3_ n4_ n5_ n6_ n7_ n8_ n9_ n10_ n11_ n12_ n13_ n14_ n15_
          clear hb hbox hg
          refine hK.out _ _ (blk_cells2 BK495.out) (fun hHeld => ?_)
          clear hK K
          refine norm_ (a' := ?_) ?_ ?_
          rotate_left
          ·show Act.put _ (some 6) _ = _
           simp only [Act.put, List.setIfInBounds_toArray, List.set_cons_zero, List.set_cons_succ, i64_w, i32_w]
           rfl
          refine one_ (i := 9) (N := some 36) #[true, true, true, true, true, true, true, true, true, true, false, false, false, true, false, false] rfl rfl (one_of HT_.out Z12) Z25 (fun K hK => ?_)
          refine goes_ Try.func22 Z12 rfl #[.agg #[.int .i64 x496000_1, .slice Ao33 x496001_1.length co33], .int .i64 t532, .slice Ao34 x5_14.length co34, .int .i64 (wrap64 (1 + t533))] Z94 rfl rfl Z1 ?_
          with_reducible refine (spec_PagePut.calls kj14 x496000_1 _ _ x496001_1 t532 _ _ x5_14 (wrap64 (1 + t533)) t536 t537 t540 _ ?side1 ?side2 ?side3 ?side4 A31.out).mono ?_
          (case side1 => repeat (first | exact (Kd.N_reads' HO_496001.out).2.2 | (with_reducible refine Kd.C_alloc ?_ _) | (with_reducible refine Kd.C_drewN ?_ _) | (with_reducible refine Kd.C_drew ?_)))
          (case side2 => exact (Kd.N_reads' HO_496001.out).2.1)
          (case side3 => repeat (first | exact (Kd.R_reads' HO_5.out).2.2 | (with_reducible refine Kd.C_alloc ?_ _) | (with_reducible refine Kd.C_drewN ?_ _) | (with_reducible refine Kd.C_drew ?_)))
          (case side4 => exact (Kd.R_reads' HO_5.out).2.1)
          rintro e w39 ⟨v538, rfl, ho0, hb⟩
          refine ⟨_, rfl, ?_⟩
          have n0_ := ZA (Kd.R_below (Kd.rup HO_5.out) hb)
          have n1_ := ZA (Kd.N_elder' Z20 Z72 hb)
          have n2_ := ZA (Kd.N_lower (Kd.N_mono (ok' := fun k_ => (w.heap.size ≤ k_) ∧ some k_ ≠ (.slice Ao34 x5_14.length co34 : Value).ownBlock ∧ some k_ ≠ (.slice Ao33 x496001_1.length co33 : Value).ownBlock ∧ k_ ≠ gb491 ∧ k_ ≠ gb495 ∧ k_ ≠ gb541 ∧ k_ ≠ g) ho0 (fun k_ hk_ => ⟨(Nat.le_trans (keep_size (w := w) (g := g) (row := none) Z6) hk_), (Kd.fresh' (Kd.R_lt (Kd.rup HO_5.out)) k_ hk_), (Kd.fresh' (Kd.N_lt Z20) k_ hk_), (Kd.freshB (g := gb491) (o := .cells #[.int .i64 0, .slice none 0 0] 27 (0, 0)) (bup BK491.out) k_ hk_), (Kd.freshB (g := gb495) (o := .cells #[.int .i64 x496000_1, .slice Ao33 x496001_1.length co33] 27 (0, 0)) (bup BK495.out) k_ hk_), (Kd.freshB (g := gb541) (o := .cells #[.int .i64 0, .slice none 0 0] 27 (0, 0)) (bup BK541.out) k_ hk_), (IsS82.fresh Z16 k_ hk_)⟩)) (keep_size (w := w) (g := g) (row := none) Z6))
          have n3_ := ZA (blk_below (bup BK491.out) hb)
          have n4_ := ZA (blk_below (bup BK495.out) hb)
          have n5_ := ZA (IsS82.below Z16 hb)
          have n6_ := ZA (blk_below (bup BK541.out) hb)
          have n7_ := ZA (KeepBut.trans Z6 (KeepBut.of_below hb g none) (.inl rfl))
          have n8_ := ZA (below_step Z30 hb)
          clear HO_5
          clear HO_496001
          clear BK491
          clear BK495
          clear HI0
          clear BK541
          clear HK
          clear HB
          have HO_5 := n0_
          have HO_496001 := n1_
          have HO539 := n2_
          have BK491 := n3_
          have BK495 := n4_
          have HI0 := n5_
          have BK541 := n6_
          have HK := n7_
          have HB := n8_
          clear n0_ n1_ n2_ n3_ n4_ n5_ n6_ n7_ n8_
          (try clear hb)
          (try clear hb2)
          (try clear hk)
          (try clear hi)
          (try clear ho0)
          refine hK.out _ _ (blk_cells2 BK495.out) (fun hHeld => ?_)
          clear hK K
          refine norm_ (a' := ?_) ?_ ?_
          rotate_left
          ·show Act.put _ (some 36) _ = _
           simp only [Act.put, List.setIfInBounds_toArray, List.set_cons_zero, List.set_cons_succ, i64_w, i32_w]
           rfl
          refine pure_ (i := 10) (N := some 26) (v := ?_) (a' := ?_) #[true, true, true, true, true, true, true, true, true, true, true, false, false, true, false, false] rfl rfl (any_of HT_.out Z12) (fun _ _ _ h => h) (Or.inl ⟨by rfl, ?_⟩) ?_ ?_
          rotate_left
          ·intro w'
           go_simp
           with_reducible rfl
          rotate_left
          ·simp only [Act.put, List.setIfInBounds_toArray, List.set_cons_zero, List.set_cons_succ, i64_w, i32_w]
           rfl
          refine pure_ (i := 11) (N := some 37) (v := ?_) (a' := ?_) #[true, true, true, true, true, true, true, true, true, true, true, true, false, true, false, false] rfl rfl (any_of HT_.out Z12) (fun _ _ _ h => h) (Or.inl ⟨by rfl, ?_⟩) ?_ ?_
          rotate_left
          ·intro w'
           go_simp
           with_reducible rfl
          rotate_left
          ·simp only [Act.put, List.setIfInBounds_toArray, List.set_cons_zero, List.set_cons_succ, i64_w, i32_w]
           rfl
          refine pure_ (i := 12) (N := some 38) (v := ?_) (a' := ?_) #[true, true, true, true, true, true, true, true, true, true, true, true, true, true, false, false] rfl rfl (any_of HT_.out Z12) (fun _ _ _ h => h) (Or.inl ⟨by rfl, ?_⟩) ?_ ?_
          rotate_left
          ·intro w'
           go_simp
           with_reducible rfl
          rotate_left
          ·simp only [Act.put, List.setIfInBounds_toArray, List.set_cons_zero, List.set_cons_succ, i64_w, i32_w]
           rfl
          exact norm_ Z69 (hCont (v538, gb541) _ ⟨hHeld, Z73, Z70, (Kd.rup HO_5.out), (bup BK491.out), (bup BK495.out), (bup BK541.out), GW541.out, GE541.out, NB0_541.out, NB541_0.out, NB491_541.out, NB541_491.out, NB495_541.out, NB541_495.out, Z16, Z6, Z30⟩)
        ·skip
         refine box_step ?hg (N := 6) ?hd (cs := #[.int .i64 0, .slice none 0 0]) (t := 27) ?hr ?_; (case hd => rfl); (case hg => rfl); (case hr => first | (go_simp; done) | (go_simp; rfl))
         intro gb541 hg w37 hbox hb
         have n0_ := ZA (Kd.R_below (Kd.rup HO_5.out) hb)
         have n1_ := ZA (Kd.N_below (Kd.N_elderB Z20 gb541 (Nat.le_of_eq hg.symm)) hb)
         have n2_ := ZA (blk_below (bup BK491.out) hb)
         have n3_ := ZA (blk_below (bup BK495.out) hb)
         have n4_ := ZA (IsS82.below (Z9) hb)
         have n5_ := ZA (KeepBut.trans Z2 (KeepBut.of_below hb g none) (.inl rfl))
         have n6_ := ZA (below_step Z33 hb)
         have n7_ := ZA (hbox)
         have n8_ := Geq.mk ((Z77 : w.heap.size ≤ gb541))
         have n9_ := ZA ((Nat.le_trans HW0.out (Z77 : w.heap.size ≤ gb541) : w0.heap.size ≤ gb541))
         have n10_ := Neq.mk ((Z67 : gb491 ≠ gb541))
         have n11_ := Neq.mk ((Z68 : gb541 ≠ gb491))
         have n12_ := Neq.mk ((Z74 : gb495 ≠ gb541))
         have n13_ := Neq.mk ((Z75 : gb541 ≠ gb495))
         have n14_ := ZA ((by rw [hg]; exact Nat.ne_of_lt (IsS82.lt (show IsS82 w0 _ g s0_0 x1001_14 x1002_14 from Z9)) : g ≠ gb541))
         have n15_ := ZA ((by rw [hg]; exact Nat.ne_of_gt (IsS82.lt (show IsS82 w0 _ g s0_0 x1001_14 x1002_14 from Z9)) : gb541 ≠ g))
         clear HO_5
         clear HO_496001
         clear BK491
         clear BK495
         clear HI0
         clear HK
         clear HB
         have HO_5 := n0_
         have HO_496001 := n1_
         have BK491 := n2_
         have BK495 := n3_
         have HI0 := n4_
         have HK := n5_
         have HB := n6_
         have BK541 := n7_
         have GW541 := n8_
         have GE541 := n9_
         have NB491_541 := n10_
         have NB541_491 := n11_
         have NB495_541 := n12_
         have NB541_495 := n13_
         have NB0_541 := n14_
         have NB541_0 := n15_
         clear n0_ n1_ n2_ n3_ n4_ n5_ n6_ n7_ n8_ n9_ n10_ n11_ n12_ n13_ n14_ n15_
         clear hb hbox hg
         refine hK.out _ _ (blk_cells2 BK495.out) (fun hHeld => ?_)
         clear hK K
         refine norm_ (a' := ?_) ?_ ?_
         rotate_left
         ·show Act.put _ (some 6) _ = _
          simp only [Act.put, List.setIfInBounds_toArray, List.set_cons_zero, List.set_cons_succ, i64_w, i32_w]
          rfl
         refine one_ (i := 7) (N := some 34) #[true, true, true, true, true, true, true, true, false, false, false, false, false, true, false, false] rfl rfl (one_of HT_.out Z12) Z25 (fun K hK => ?_)
         refine goes_ Try.func63 Z12 rfl #[.pointer (some ⟨g, 0, none⟩), .int .i64 50] Z94 rfl rfl Z1 ?_
         with_reducible refine (spec_l1Below.calls g s0_0 x1001_14 x1002_14 50 t533 t534 t535 w0 _ ?side1 ?side2 A30.out).mono ?_
         (case side1 => repeat (first | (with_reducible first | exact HI0.out | apply IsS82.alloc | apply IsS82.drewN | apply IsS82.drew | apply IsS82.set_1 | apply IsS82.set_2 | refine IsS82.far ?_ NB0_491.out _ | refine IsS82.far ?_ NB0_495.out _ | refine IsS82.far ?_ NB0_541.out _) | exact HI0.out))
         (case side2 => repeat (first | (with_reducible first | exact HB.out | apply h1 | apply h2 | apply h3 | refine h4 ?_ (IsS82.ge HI0.out) | refine h4 ?_ GE491.out | refine h4 ?_ GE495.out | refine h4 ?_ GE541.out) | exact HB.out))
         rintro e w38 ⟨rfl, hi, hb, hk⟩
         refine ⟨_, rfl, ?_⟩
         have n0_ := ZA (Kd.R_mono (Kd.R_keep (IsS82.apart (show IsS82 w0 _ g s0_0 x1001_14 x1002_14 from Z27) (Kd.rup HO_5.out) Z25) hk (fun _ h => h.2)) (fun _ h => h.1))
         have n1_ := ZA (Kd.N_mono (Kd.N_keep (Kd.N_mono (ok := fun k_ => ((((w.heap.size ≤ k_)) ∧ (some k_ ≠ (.slice Ao34 x5_14.length co34 : Value).ownBlock ∧ (k_ ≠ gb491 ∧ (k_ ≠ gb495 ∧ k_ ≠ g)))) ∧ k_ ≠ gb541)) Z20 (fun k_ hk_ => (⟨hk_, hk_.1.2.2.2.2⟩ : _ ∧ k_ ≠ g))) hk (fun _ h => h.2)) (fun _ h => h.1))
         have n2_ := ZA (KeepBut.blk hk (g' := gb491) (o := .cells #[.int .i64 0, .slice none 0 0] 27 (0, 0)) (bup BK491.out) NB491_0.out Z44)
         have n3_ := ZA (KeepBut.blk hk (g' := gb495) (o := .cells #[.int .i64 x496000_1, .slice Ao33 x496001_1.length co33] 27 (0, 0)) (bup BK495.out) NB495_0.out Z44)
         have n4_ := ZA (KeepBut.blk hk (g' := gb541) (o := .cells #[.int .i64 0, .slice none 0 0] 27 (0, 0)) (bup BK541.out) NB541_0.out Z44)
         have n5_ := ZA (KeepBut.trans Z6 hk (.inl rfl))
         have n6_ := ZA (hb)
         have n7_ := ZA (hi)
         clear HO_5
         clear HO_496001
         clear BK491
         clear BK495
         clear BK541
         clear HK
         clear HB
         clear HI0
         have HO_5 := n0_
         have HO_496001 := n1_
         have BK491 := n2_
         have BK495 := n3_
         have BK541 := n4_
         have HK := n5_
         have HB := n6_
         have HI0 := n7_
         clear n0_ n1_ n2_ n3_ n4_ n5_ n6_ n7_
         (try clear hb)
         (try clear hb2)
         (try clear hk)
         (try clear hi)
         refine hK.out _ _ (blk_cells2 BK495.out) (fun hHeld => ?_)
         clear hK K
         refine norm_ (a' := ?_) ?_ ?_
         rotate_left
         ·show Act.put _ (some 34) _ = _
          simp only [Act.put, List.setIfInBounds_toArray, List.set_cons_zero, List.set_cons_succ, i64_w, i32_w]
          rfl
         refine pure_ (i := 8) (N := some 35) (v := ?_) (a' := ?_) #[true, true, true, true, true, true, true, true, true, false, false, false, false, true, false, false] rfl rfl (any_of HT_.out Z12) (fun _ _ _ h => h) (Or.inl ⟨by rfl, ?_⟩) ?_ ?_
         rotate_left
         ·intro w'
          go_simp
          with_reducible rfl
         rotate_left
         ·simp only [Act.put, List.setIfInBounds_toArray, List.set_cons_zero, List.set_cons_succ, i64_w, i32_w]
          rfl
         refine one_ (i := 9) (N := some 36) #[true, true, true, true, true, true, true, true, true, true, false, false, false, true, false, false] rfl rfl (one_of HT_.out Z12) Z25 (fun K hK => ?_)
         refine goes_ Try.func22 Z12 rfl #[.agg #[.int .i64 x496000_1, .slice Ao33 x496001_1.length co33], .int .i64 t532, .slice Ao34 x5_14.length co34, .int .i64 (wrap64 (1 + t533))] Z94 rfl rfl Z1 ?_
         with_reducible refine (spec_PagePut.calls kj14 x496000_1 _ _ x496001_1 t532 _ _ x5_14 (wrap64 (1 + t533)) t536 t537 t540 _ ?side1 ?side2 ?side3 ?side4 A31.out).mono ?_
         (case side1 => repeat (first | exact (Kd.N_reads' HO_496001.out).2.2 | (with_reducible refine Kd.C_alloc ?_ _) | (with_reducible refine Kd.C_drewN ?_ _) | (with_reducible refine Kd.C_drew ?_)))
         (case side2 => exact (Kd.N_reads' HO_496001.out).2.1)
         (case side3 => repeat (first | exact (Kd.R_reads' HO_5.out).2.2 | (with_reducible refine Kd.C_alloc ?_ _) | (with_reducible refine Kd.C_drewN ?_ _) | (with_reducible refine Kd.C_drew ?_)))
         (case side4 => exact (Kd.R_reads' HO_5.out).2.1)
         rintro e w39 ⟨v538, rfl, ho0, hb⟩
         refine ⟨_, rfl, ?_⟩
         have n0_ := ZA (Kd.R_below (Kd.rup HO_5.out) hb)
         have n1_ := ZA (Kd.N_elder' Z20 Z72 hb)
         have n2_ := ZA (Kd.N_lower (Kd.N_mono (ok' := fun k_ => (w.heap.size ≤ k_) ∧ some k_ ≠ (.slice Ao34 x5_14.length co34 : Value).ownBlock ∧ some k_ ≠ (.slice Ao33 x496001_1.length co33 : Value).ownBlock ∧ k_ ≠ gb491 ∧ k_ ≠ gb495 ∧ k_ ≠ gb541 ∧ k_ ≠ g) ho0 (fun k_ hk_ => ⟨(Nat.le_trans (keep_size (w := w) (g := g) (row := none) Z6) hk_), (Kd.fresh' (Kd.R_lt (Kd.rup HO_5.out)) k_ hk_), (Kd.fresh' (Kd.N_lt Z20) k_ hk_), (Kd.freshB (g := gb491) (o := .cells #[.int .i64 0, .slice none 0 0] 27 (0, 0)) (bup BK491.out) k_ hk_), (Kd.freshB (g := gb495) (o := .cells #[.int .i64 x496000_1, .slice Ao33 x496001_1.length co33] 27 (0, 0)) (bup BK495.out) k_ hk_), (Kd.freshB (g := gb541) (o := .cells #[.int .i64 0, .slice none 0 0] 27 (0, 0)) (bup BK541.out) k_ hk_), (IsS82.fresh Z16 k_ hk_)⟩)) (keep_size (w := w) (g := g) (row := none) Z6))
         have n3_ := ZA (blk_below (bup BK491.out) hb)
         have n4_ := ZA (blk_below (bup BK495.out) hb)
         have n5_ := ZA (IsS82.below Z16 hb)
         have n6_ := ZA (blk_below (bup BK541.out) hb)
         have n7_ := ZA (KeepBut.trans Z6 (KeepBut.of_below hb g none) (.inl rfl))
         have n8_ := ZA (below_step Z30 hb)
         clear HO_5
         clear HO_496001
         clear BK491
         clear BK495
         clear HI0
         clear BK541
         clear HK
         clear HB
         have HO_5 := n0_
         have HO_496001 := n1_
         have HO539 := n2_
         have BK491 := n3_
         have BK495 := n4_
         have HI0 := n5_
         have BK541 := n6_
         have HK := n7_
         have HB := n8_
         clear n0_ n1_ n2_ n3_ n4_ n5_ n6_ n7_ n8_
         (try clear hb)
         (try clear hb2)
         (try clear hk)
         (try clear hi)
         (try clear ho0)
         refine hK.out _ _ (blk_cells2 BK495.out) (fun hHeld => ?_)
         clear hK K
         refine norm_ (a' := ?_) ?_ ?_
         rotate_left
         ·show Act.put _ (some 36) _ = _
          simp only [Act.put, List.setIfInBounds_toArray, List.set_cons_zero, List.set_cons_succ, i64_w, i32_w]
          rfl
         refine pure_ (i := 10) (N := some 26) (v := ?_) (a' := ?_) #[true, true, true, true, true, true, true, true, true, true, true, false, false, true, false, false] rfl rfl (any_of HT_.out Z12) (fun _ _ _ h => h) (Or.inl ⟨by rfl, ?_⟩) ?_ ?_
         rotate_left
         ·intro w'
          go_simp
          with_reducible rfl
         rotate_left
         ·simp only [Act.put, List.setIfInBounds_toArray, List.set_cons_zero, List.set_cons_succ, i64_w, i32_w]
          rfl
         refine pure_ (i := 11) (N := some 37) (v := ?_) (a' := ?_) #[true, true, true, true, true, true, true, true, true, true, true, true, false, true, false, false] rfl rfl (any_of HT_.out Z12) (fun _ _ _ h => h) (Or.inl ⟨by rfl, ?_⟩) ?_ ?_
         rotate_left
         ·intro w'
          go_simp
          with_reducible rfl
         rotate_left
         ·simp only [Act.put, List.setIfInBounds_toArray, List.set_cons_zero, List.set_cons_succ, i64_w, i32_w]
          rfl
         refine pure_ (i := 12) (N := some 38) (v := ?_) (a' := ?_) #[true, true, true, true, true, true, true, true, true, true, true, true, true, true, false, false] rfl rfl (any_of HT_.out Z12) (fun _ _ _ h => h) (Or.inl ⟨by rfl, ?_⟩) ?_ ?_
         rotate_left
         ·intro w'
          go_simp
          with_reducible rfl
         rotate_left
         ·simp only [Act.put, List.setIfInBounds_toArray, List.set_cons_zero, List.set_cons_succ, i64_w, i32_w]
          rfl
         exact norm_ Z69 (hCont (v538, gb541) _ ⟨hHeld, Z73, Z70, (Kd.rup HO_5.out), (bup BK491.out), (bup BK495.out), (bup BK541.out), GW541.out, GE541.out, NB0_541.out, NB541_0.out, NB491_541.out, NB541_491.out, NB495_541.out, NB541_495.out, Z16, Z6, Z30⟩)
       ·skip
        refine box_step ?hg (N := 6) ?hd (cs := #[.int .i64 0, .slice none 0 0]) (t := 27) ?hr ?_; (case hd => rfl); (case hg => rfl); (case hr => first | (go_simp; done) | (go_simp; rfl))
        intro gb541 hg w36 hbox hb
        have n0_ := ZA (Kd.R_below (Kd.rup HO_5.out) hb)
        have n1_ := ZA (Kd.N_below (Kd.N_elderB Z20 gb541 (Nat.le_of_eq hg.symm)) hb)
        have n2_ := ZA (blk_below (bup BK491.out) hb)
        have n3_ := ZA (blk_below (bup BK495.out) hb)
        have n4_ := ZA (IsS82.below (Z9) hb)
        have n5_ := ZA (KeepBut.trans Z2 (KeepBut.of_below hb g none) (.inl rfl))
        have n6_ := ZA (below_step Z33 hb)
        have n7_ := ZA (hbox)
        have n8_ := Geq.mk ((Z77 : w.heap.size ≤ gb541))
        have n9_ := ZA ((Nat.le_trans HW0.out (Z77 : w.heap.size ≤ gb541) : w0.heap.size ≤ gb541))
        have n10_ := Neq.mk ((Z67 : gb491 ≠ gb541))
        have n11_ := Neq.mk ((Z68 : gb541 ≠ gb491))
        have n12_ := Neq.mk ((Z74 : gb495 ≠ gb541))
        have n13_ := Neq.mk ((Z75 : gb541 ≠ gb495))
        have n14_ := ZA ((by rw [hg]; exact Nat.ne_of_lt (IsS82.lt (show IsS82 w0 _ g s0_0 x1001_14 x1002_14 from Z9)) : g ≠ gb541))
        have n15_ := ZA ((by rw [hg]; exact Nat.ne_of_gt (IsS82.lt (show IsS82 w0 _ g s0_0 x1001_14 x1002_14 from Z9)) : gb541 ≠ g))
        clear HO_5
        clear HO_496001
        clear BK491
        clear BK495
        clear HI0
        clear HK
        clear HB
        have HO_5 := n0_
        have HO_496001 := n1_
        have BK491 := n2_
        have BK495 := n3_
        have HI0 := n4_
        have HK := n5_
        have HB := n6_
        have BK541 := n7_
        have GW541 := n8_
        have GE541 := n9_
        have NB491_541 := n10_
        have NB541_491 := n11_
        have NB495_541 := n12_
        have NB541_495 := n13_
        have NB0_541 := n14_
        have NB541_0 := n15_
        clear n0_ n1_ n2_ n3_ n4_ n5_ n6_ n7_ n8_ n9_ n10_ n11_ n12_ n13_ n14_ n15_
        clear hb hbox hg
        refine hK.out _ _ (blk_cells2 BK495.out) (fun hHeld => ?_)
        clear hK K
        refine norm_ (a' := ?_) ?_ ?_
        rotate_left
        ·show Act.put _ (some 6) _ = _
         simp only [Act.put, List.setIfInBounds_toArray, List.set_cons_zero, List.set_cons_succ, i64_w, i32_w]
         rfl
        refine one_ (i := 4) (N := some 31) #[true, true, true, true, true, true, true, false, false, false, false, false, false, true, false, false] rfl rfl (one_of HT_.out Z12) Z25 (fun K hK => ?_)
        refine goes_ Try.func16 Z12 rfl #[.agg #[.int .i64 x496000_1, .slice Ao33 x496001_1.length co33], .int .i64 (x5_14.length : Int)] Z94 rfl rfl Z1 ?_
        with_reducible refine (spec_PagePlace.calls kj14 x496000_1 _ _ x496001_1 (x5_14.length : Int) t532 _ ?side1 ?side2 A29.out).mono ?_
        (case side1 => repeat (first | exact (Kd.N_reads' HO_496001.out).2.2 | (with_reducible refine Kd.C_alloc ?_ _) | (with_reducible refine Kd.C_drewN ?_ _) | (with_reducible refine Kd.C_drew ?_)))
        (case side2 => exact (Kd.N_reads' HO_496001.out).2.1)
        rintro e w37 ⟨rfl, hb⟩
        refine ⟨_, rfl, ?_⟩
        have n0_ := ZA (Kd.R_below (Kd.rup HO_5.out) hb)
        have n1_ := ZA (Kd.N_below Z20 hb)
        have n2_ := ZA (blk_below (bup BK491.out) hb)
        have n3_ := ZA (blk_below (bup BK495.out) hb)
        have n4_ := ZA (IsS82.below Z16 hb)
        have n5_ := ZA (blk_below (bup BK541.out) hb)
        have n6_ := ZA (KeepBut.trans Z6 (KeepBut.of_below hb g none) (.inl rfl))
        have n7_ := ZA (below_step Z30 hb)
        clear HO_5
        clear HO_496001
        clear BK491
        clear BK495
        clear HI0
        clear BK541
        clear HK
        clear HB
        have HO_5 := n0_
        have HO_496001 := n1_
        have BK491 := n2_
        have BK495 := n3_
        have HI0 := n4_
        have BK541 := n5_
        have HK := n6_
        have HB := n7_
        clear n0_ n1_ n2_ n3_ n4_ n5_ n6_ n7_
        (try clear hb)
        (try clear hb2)
        (try clear hk)
        (try clear hi)
        refine hK.out _ _ (blk_cells2 BK495.out) (fun hHeld => ?_)
        clear hK K
        refine norm_ (a' := ?_) ?_ ?_
        rotate_left
        ·show Act.put _ (some 31) _ = _
         simp only [Act.put, List.setIfInBounds_toArray, List.set_cons_zero, List.set_cons_succ, i64_w, i32_w]
         rfl
        refine one_ (i := 7) (N := some 34) #[true, true, true, true, true, true, true, true, false, false, false, false, false, true, false, false] rfl rfl (one_of HT_.out Z12) Z25 (fun K hK => ?_)
        refine goes_ Try.func63 Z12 rfl #[.pointer (some ⟨g, 0, none⟩), .int .i64 50] Z94 rfl rfl Z1 ?_
        with_reducible refine (spec_l1Below.calls g s0_0 x1001_14 x1002_14 50 t533 t534 t535 w0 _ ?side1 ?side2 A30.out).mono ?_
        (case side1 => repeat (first | (with_reducible first | exact HI0.out | apply IsS82.alloc | apply IsS82.drewN | apply IsS82.drew | apply IsS82.set_1 | apply IsS82.set_2 | refine IsS82.far ?_ NB0_491.out _ | refine IsS82.far ?_ NB0_495.out _ | refine IsS82.far ?_ NB0_541.out _) | exact HI0.out))
        (case side2 => repeat (first | (with_reducible first | exact HB.out | apply h1 | apply h2 | apply h3 | refine h4 ?_ (IsS82.ge HI0.out) | refine h4 ?_ GE491.out | refine h4 ?_ GE495.out | refine h4 ?_ GE541.out) | exact HB.out))
        rintro e w38 ⟨rfl, hi, hb, hk⟩
        refine ⟨_, rfl, ?_⟩
        have n0_ := ZA (Kd.R_mono (Kd.R_keep (IsS82.apart (show IsS82 w0 _ g s0_0 x1001_14 x1002_14 from Z27) (Kd.rup HO_5.out) Z25) hk (fun _ h => h.2)) (fun _ h => h.1))
        have n1_ := ZA (Kd.N_mono (Kd.N_keep (Kd.N_mono (ok := fun k_ => ((((w.heap.size ≤ k_)) ∧ (some k_ ≠ (.slice Ao34 x5_14.length co34 : Value).ownBlock ∧ (k_ ≠ gb491 ∧ (k_ ≠ gb495 ∧ k_ ≠ g)))) ∧ k_ ≠ gb541)) Z20 (fun k_ hk_ => (⟨hk_, hk_.1.2.2.2.2⟩ : _ ∧ k_ ≠ g))) hk (fun _ h => h.2)) (fun _ h => h.1))
        have n2_ := ZA (KeepBut.blk hk (g' := gb491) (o := .cells #[.int .i64 0, .slice none 0 0] 27 (0, 0)) (bup BK491.out) NB491_0.out Z44)
        have n3_ := ZA (KeepBut.blk hk (g' := gb495) (o := .cells #[.int .i64 x496000_1, .slice Ao33 x496001_1.length co33] 27 (0, 0)) (bup BK495.out) NB495_0.out Z44)
        have n4_ := ZA (KeepBut.blk hk (g' := gb541) (o := .cells #[.int .i64 0, .slice none 0 0] 27 (0, 0)) (bup BK541.out) NB541_0.out Z44)
        have n5_ := ZA (KeepBut.trans Z6 hk (.inl rfl))
        have n6_ := ZA (hb)
        have n7_ := ZA (hi)
        clear HO_5
        clear HO_496001
        clear BK491
        clear BK495
        clear BK541
        clear HK
        clear HB
        clear HI0
        have HO_5 := n0_
        have HO_496001 := n1_
        have BK491 := n2_
        have BK495 := n3_
        have BK541 := n4_
        have HK := n5_
        have HB := n6_
        have HI0 := n7_
        clear n0_ n1_ n2_ n3_ n4_ n5_ n6_ n7_
        (try clear hb)
        (try clear hb2)
        (try clear hk)
        (try clear hi)
        refine hK.out _ _ (blk_cells2 BK495.out) (fun hHeld => ?_)
        clear hK K
        refine norm_ (a' := ?_) ?_ ?_
        rotate_left
        ·show Act.put _ (some 34) _ = _
         simp only [Act.put, List.setIfInBounds_toArray, List.set_cons_zero, List.set_cons_succ, i64_w, i32_w]
         rfl
        refine pure_ (i := 8) (N := some 35) (v := ?_) (a' := ?_) #[true, true, true, true, true, true, true, true, true, false, false, false, false, true, false, false] rfl rfl (any_of HT_.out Z12) (fun _ _ _ h => h) (Or.inl ⟨by rfl, ?_⟩) ?_ ?_
        rotate_left
        ·intro w'
         go_simp
         with_reducible rfl
        rotate_left
        ·simp only [Act.put, List.setIfInBounds_toArray, List.set_cons_zero, List.set_cons_succ, i64_w, i32_w]
         rfl
        refine one_ (i := 9) (N := some 36) #[true, true, true, true, true, true, true, true, true, true, false, false, false, true, false, false] rfl rfl (one_of HT_.out Z12) Z25 (fun K hK => ?_)
        refine goes_ Try.func22 Z12 rfl #[.agg #[.int .i64 x496000_1, .slice Ao33 x496001_1.length co33], .int .i64 t532, .slice Ao34 x5_14.length co34, .int .i64 (wrap64 (1 + t533))] Z94 rfl rfl Z1 ?_
        with_reducible refine (spec_PagePut.calls kj14 x496000_1 _ _ x496001_1 t532 _ _ x5_14 (wrap64 (1 + t533)) t536 t537 t540 _ ?side1 ?side2 ?side3 ?side4 A31.out).mono ?_
        (case side1 => repeat (first | exact (Kd.N_reads' HO_496001.out).2.2 | (with_reducible refine Kd.C_alloc ?_ _) | (with_reducible refine Kd.C_drewN ?_ _) | (with_reducible refine Kd.C_drew ?_)))
        (case side2 => exact (Kd.N_reads' HO_496001.out).2.1)
        (case side3 => repeat (first | exact (Kd.R_reads' HO_5.out).2.2 | (with_reducible refine Kd.C_alloc ?_ _) | (with_reducible refine Kd.C_drewN ?_ _) | (with_reducible refine Kd.C_drew ?_)))
        (case side4 => exact (Kd.R_reads' HO_5.out).2.1)
        rintro e w39 ⟨v538, rfl, ho0, hb⟩
        refine ⟨_, rfl, ?_⟩
        have n0_ := ZA (Kd.R_below (Kd.rup HO_5.out) hb)
        have n1_ := ZA (Kd.N_elder' Z20 Z72 hb)
        have n2_ := ZA (Kd.N_lower (Kd.N_mono (ok' := fun k_ => (w.heap.size ≤ k_) ∧ some k_ ≠ (.slice Ao34 x5_14.length co34 : Value).ownBlock ∧ some k_ ≠ (.slice Ao33 x496001_1.length co33 : Value).ownBlock ∧ k_ ≠ gb491 ∧ k_ ≠ gb495 ∧ k_ ≠ gb541 ∧ k_ ≠ g) ho0 (fun k_ hk_ => ⟨(Nat.le_trans (keep_size (w := w) (g := g) (row := none) Z6) hk_), (Kd.fresh' (Kd.R_lt (Kd.rup HO_5.out)) k_ hk_), (Kd.fresh' (Kd.N_lt Z20) k_ hk_), (Kd.freshB (g := gb491) (o := .cells #[.int .i64 0, .slice none 0 0] 27 (0, 0)) (bup BK491.out) k_ hk_), (Kd.freshB (g := gb495) (o := .cells #[.int .i64 x496000_1, .slice Ao33 x496001_1.length co33] 27 (0, 0)) (bup BK495.out) k_ hk_), (Kd.freshB (g := gb541) (o := .cells #[.int .i64 0, .slice none 0 0] 27 (0, 0)) (bup BK541.out) k_ hk_), (IsS82.fresh Z16 k_ hk_)⟩)) (keep_size (w := w) (g := g) (row := none) Z6))
        have n3_ := ZA (blk_below (bup BK491.out) hb)
        have n4_ := ZA (blk_below (bup BK495.out) hb)
        have n5_ := ZA (IsS82.below Z16 hb)
        have n6_ := ZA (blk_below (bup BK541.out) hb)
        have n7_ := ZA (KeepBut.trans Z6 (KeepBut.of_below hb g none) (.inl rfl))
        have n8_ := ZA (below_step Z30 hb)
        clear HO_5
        clear HO_496001
        clear BK491
        clear BK495
        clear HI0
        clear BK541
        clear HK
        clear HB
        have HO_5 := n0_
        have HO_496001 := n1_
        have HO539 := n2_
        have BK491 := n3_
        have BK495 := n4_
        have HI0 := n5_
        have BK541 := n6_
        have HK := n7_
        have HB := n8_
        clear n0_ n1_ n2_ n3_ n4_ n5_ n6_ n7_ n8_
        (try clear hb)
        (try clear hb2)
        (try clear hk)
        (try clear hi)
        (try clear ho0)
        refine hK.out _ _ (blk_cells2 BK495.out) (fun hHeld => ?_)
        clear hK K
        refine norm_ (a' := ?_) ?_ ?_
        rotate_left
        ·show Act.put _ (some 36) _ = _
         simp only [Act.put, List.setIfInBounds_toArray, List.set_cons_zero, List.set_cons_succ, i64_w, i32_w]
         rfl
        refine pure_ (i := 10) (N := some 26) (v := ?_) (a' := ?_) #[true, true, true, true, true, true, true, true, true, true, true, false, false, true, false, false] rfl rfl (any_of HT_.out Z12) (fun _ _ _ h => h) (Or.inl ⟨by rfl, ?_⟩) ?_ ?_
        rotate_left
        ·intro w'
         go_simp
         with_reducible rfl
        rotate_left
        ·simp only [Act.put, List.setIfInBounds_toArray, List.set_cons_zero, List.set_cons_succ, i64_w, i32_w]
         rfl
        refine pure_ (i := 11) (N := some 37) (v := ?_) (a' := ?_) #[true, true, true, true, true, true, true, true, true, true, true, true, false, true, false, false] rfl rfl (any_of HT_.out Z12) (fun _ _ _ h => h) (Or.inl ⟨by rfl, ?_⟩) ?_ ?_
        rotate_left
        ·intro w'
         go_simp
         with_reducible rfl
        rotate_left
        ·simp only [Act.put, List.setIfInBounds_toArray, List.set_cons_zero, List.set_cons_succ, i64_w, i32_w]
         rfl
        refine pure_ (i := 12) (N := some 38) (v := ?_) (a' := ?_) #[true, true, true, true, true, true, true, true, true, true, true, true, true, true, false, false] rfl rfl (any_of HT_.out Z12) (fun _ _ _ h => h) (Or.inl ⟨by rfl, ?_⟩) ?_ ?_
        rotate_left
        ·intro w'
         go_simp
         with_reducible rfl
        rotate_left
        ·simp only [Act.put, List.setIfInBounds_toArray, List.set_cons_zero, List.set_cons_succ, i64_w, i32_w]
         rfl
        exact norm_ Z69 (hCont (v538, gb541) _ ⟨hHeld, Z73, Z70, (Kd.rup HO_5.out), (bup BK491.out), (bup BK495.out), (bup BK541.out), GW541.out, GE541.out, NB0_541.out, NB541_0.out, NB491_541.out, NB541_491.out, NB495_541.out, NB541_495.out, Z16, Z6, Z30⟩)
      rintro ⟨v538, gb541⟩ w40 ⟨hS_, h0_, h1_, h2_, h3_, h4_, h5_, h6_, h7_, h8_, h9_, h10_, h11_, h12_, h13_, h14_, h15_, h16_⟩
      have n0_ : Aside0 (Kd.N (Kd.slice 5 (Kd.int .u8)) 36 w40 w.heap.size (fun k_ => (w.heap.size ≤ k_) ∧ some k_ ≠ (.slice Ao33 x496001_1.length co33 : Value).ownBlock ∧ some k_ ≠ (.slice Ao34 x5_14.length co34 : Value).ownBlock ∧ k_ ≠ g ∧ k_ ≠ gb491 ∧ k_ ≠ gb495 ∧ k_ ≠ gb541) v538 t537) := ⟨h0_⟩
      have n1_ : Aside0 (Kd.N (Kd.slice 5 (Kd.int .u8)) 36 w40 w.heap.size (fun k_ => (w.heap.size ≤ k_) ∧ some k_ ≠ (v538 : Value).ownBlock ∧ some k_ ≠ (.slice Ao34 x5_14.length co34 : Value).ownBlock ∧ k_ ≠ g ∧ k_ ≠ gb491 ∧ k_ ≠ gb495 ∧ k_ ≠ gb541) (.slice Ao33 x496001_1.length co33) x496001_1) := ⟨h1_⟩
      have n2_ : Aside0 (Kd.R (Kd.int .u8) 5 w40 w.heap.size (fun k_ => (w.heap.size ≤ k_)) (.slice Ao34 x5_14.length co34) x5_14) := ⟨h2_⟩
      have n3_ : Aside0 (w40.heap[gb491]? = some (.cells #[.int .i64 0, .slice none 0 0] 27 (0, 0))) := ⟨h3_⟩
      have n4_ : Aside0 (w40.heap[gb495]? = some (.cells #[.int .i64 x496000_1, .slice Ao33 x496001_1.length co33] 27 (0, 0))) := ⟨h4_⟩
      have n5_ : Aside0 (w40.heap[gb541]? = some (.cells #[.int .i64 0, .slice none 0 0] 27 (0, 0))) := ⟨h5_⟩
      have n6_ : Aside0 (w.heap.size ≤ gb541) := ⟨h6_⟩
      have n7_ : Aside0 (w0.heap.size ≤ gb541) := ⟨h7_⟩
      have n8_ : Aside0 (g ≠ gb541) := ⟨h8_⟩
      have n9_ : Aside0 (gb541 ≠ g) := ⟨h9_⟩
      have n10_ : Aside0 (gb491 ≠ gb541) := ⟨h10_⟩
      have n11_ : Aside0 (gb541 ≠ gb491) := ⟨h11_⟩
      have n12_ : Aside0 (gb495 ≠ gb541) := ⟨h12_⟩
      have n13_ : Aside0 (gb541 ≠ gb495) := ⟨h13_⟩
      have n14_ : Aside0 (IsS82 w0 w40 g s0_0 t534 t535) := ⟨h14_⟩
      have n15_ : Aside0 (KeepBut w w40 g none) := ⟨h15_⟩
      have n16_ : Aside0 (Below w0.heap.size w0 w40) := ⟨h16_⟩
      clear HO_5
      clear HO_496001
      clear BK491
      clear BK495
      clear HI0
      clear HK
      clear HB
      clear h0_ h1_ h2_ h3_ h4_ h5_ h6_ h7_ h8_ h9_ h10_ h11_ h12_ h13_ h14_ h15_ h16_
      have HO539 := n0_
      have HO_496001 := n1_
      have HO_5 := n2_
      have BK491 := n3_
      have BK495 := n4_
      have BK541 := n5_
      have GW541 := n6_
      have GE541 := n7_
      have NB0_541 := n8_
      have NB541_0 := n9_
      have NB491_541 := n10_
      have NB541_491 := n11_
      have NB495_541 := n12_
      have NB541_495 := n13_
      have HI0 := n14_
      have HK := n15_
      have HB := n16_
      clear n0_ n1_ n2_ n3_ n4_ n5_ n6_ n7_ n8_ n9_ n10_ n11_ n12_ n13_ n14_ n15_ n16_
      have hHeld : w40.cell? ⟨gb495, 0, none⟩ = some (.int .i64 x496000_1) ∧ w40.cell? ⟨gb495, 1, none⟩ = some (.slice Ao33 x496001_1.length co33) := hS_
      obtain ⟨Ao42, co42, eo42⟩ := Kd.N_slice HO539.out
      (first | subst eo42 | (injection eo42 with f1_ f2_ f3_; have f4_ := f1_.symm; have f5_ := f3_.symm; clear f1_ f2_ f3_; subst f4_; subst f5_))
      refine norm_ (a' := ?_) ?_ ?_
      rotate_left
      ·simp only [putAll, Act.put, List.setIfInBounds_toArray, List.set_cons_zero, List.set_cons_succ]
       rfl
      refine one_ (i := 14) (N := none) #[true, true, true, true, true, true, true, true, true, true, true, true, true, true, true, false] rfl rfl (one_of HT_.out Z12) Z25 (fun K hK => ?_)
      have hs41 : w40.cell? ⟨gb541, 0, none⟩ = some (.int .i64 0) := (blk_cell BK541.out 0).trans rfl
      have hfs41 := blk_frozen BK541.out 0
      have hns41_0 := NB491_541.out
      have hns41_1 := NB495_541.out
      have hms41_0 := NB541_491.out
      have hms41_1 := NB541_495.out
      have hs43 : w40.cell? ⟨gb541, 1, none⟩ = some (.slice none 0 0) := (blk_cell BK541.out 1).trans rfl
      have hfs43 := blk_frozen BK541.out 1
      have hns43_0 := NB491_541.out
      have hns43_1 := NB495_541.out
      have hms43_0 := NB541_491.out
      have hms43_1 := NB541_495.out
      refine skip_ (w1 := ?_) ?hw_ ?hN_ ?_ ?_
      case hN_ => rfl
      case hw_ => rfl
      rotate_left
      ·go_simp
       rfl
      refine hK.out _ _ ⟨((cell_far (p := ⟨gb541, _, none⟩) NB495_541.out _).trans (((cell_far (p := ⟨gb541, _, none⟩) NB495_541.out _).trans (hHeld.1)))), ((cell_far (p := ⟨gb541, _, none⟩) NB495_541.out _).trans (((cell_far (p := ⟨gb541, _, none⟩) NB495_541.out _).trans (hHeld.2))))⟩ (fun hHeld => ?_)
      clear hK K
      refine pure_ (i := 15) (N := some 7) (v := ?_) (a' := ?_) #[true, true, true, true, true, true, true, true, true, true, true, true, true, true, true, true] rfl rfl (any_of HT_.out Z12) (fun _ _ _ h => h) (Or.inl ⟨by rfl, ?_⟩) ?_ ?_
      rotate_left
      ·intro w'
       go_simp
       with_reducible rfl
      rotate_left
      ·simp only [Act.put, List.setIfInBounds_toArray, List.set_cons_zero, List.set_cons_succ, i64_w, i32_w]
       rfl
      refine done_ (done_of HT_.out Z12) ?_
      go_upto_if 39 with (fail)
      (try replace NB491_495 := Neq.mk NB491_495.out)
      (try replace NB491_541 := Neq.mk NB491_541.out)
      (try replace NB495_491 := Neq.mk NB495_491.out)
      (try replace NB495_541 := Neq.mk NB495_541.out)
      (try replace NB541_491 := Neq.mk NB541_491.out)
      (try replace NB541_495 := Neq.mk NB541_495.out)
      go_cut [] (fun wc => ∃ (kq : Nat) (x496000_31 : Int) (x496001_31 : List (List Int)) (u496001 : Value), Aside0 (spec_l7page.j2 kq x4_1 s0_0 t534 t535 x496000_31 x496001_31 = some (r1, r2, r3, r4)) ∧ Aside0 (kq ≤ kj14) ∧ Aside0 (Kd.N (Kd.slice 5 (Kd.int .u8)) 36 wc w.heap.size (fun k_ => (w.heap.size ≤ k_) ∧ True ∧ k_ ≠ gb491 ∧ k_ ≠ gb495 ∧ k_ ≠ gb541 ∧ k_ ≠ g) u496001 x496001_31) ∧ Aside0 True ∧ Aside0 (wc.heap[gb491]? = some (.cells #[.int .i64 0, (.slice none 0 0)] 27 (0, 0))) ∧ Aside0 (wc.heap[gb495]? = some (.cells #[.int .i64 x496000_31, u496001] 27 (0, 0))) ∧ Aside0 (wc.heap[gb541]? = some (.cells #[.int .i64 t536, (.slice Ao42 t537.length co42)] 27 (0, 0))) ∧ Aside0 (IsS82 w0 wc g s0_0 t534 t535) ∧ Aside0 (KeepBut w wc g none) ∧ Aside0 (Below w0.heap.size w0 wc))
      case first =>
       have H := HC32.out
       clear HC32
       by_cases c44 : t540 = true
       ·subst c44
        rw [if_pos rfl] at H
        (try dsimp only at H)
        have H' := ZA H
        clear H
        have hnb45 := NB541_491.out
        have hnc45 := NB491_541.out
        have hnb46 := NB541_495.out
        have hnc46 := NB495_541.out
        have hnb47 := NB541_0.out
        have hnc47 := NB0_541.out
        obtain ⟨hcz48_0, hcz48_1⟩ := blk_cells2 BK541.out
        obtain ⟨hfz48_0, hfz48_1⟩ := blk_frozens2 BK541.out
        have hnb49 := NB495_491.out
        have hnc49 := NB491_495.out
        have hnb50 := NB495_0.out
        have hnc50 := NB0_495.out
        obtain ⟨hcz51_0, hcz51_1⟩ := blk_cells2 BK495.out
        obtain ⟨hfz51_0, hfz51_1⟩ := blk_frozens2 BK495.out
        go_wp2
        go_meet
        case rel => exact ⟨_, (t536), (t537), (.slice Ao42 t537.length co42), H', ⟨by have := HK1.out; have := HJ14.out; first | omega | exact Nat.le_refl _⟩, ⟨by (with_reducible repeat (first | apply Kd.N_alloc | apply Kd.N_drewN | apply Kd.N_drew)); exact Kd.N_mono (Kd.N_far (p := ⟨gb495, 1, none⟩) (Kd.N_far (p := ⟨gb495, 0, none⟩) (Kd.N_far (p := ⟨gb541, 1, none⟩) (Kd.N_far (p := ⟨gb541, 0, none⟩) (Kd.N_mono (Kd.N_mono HO539.out (fun k_ hk => (⟨hk, hk.2.2.2.2.2.2⟩ : _ ∧ k_ ≠ gb541))) (fun k_ hk => (⟨hk, hk.1.2.2.2.2.2.1⟩ : _ ∧ k_ ≠ gb495))) (fun _ hk => hk.1.2) (.int .i64 t536)) (fun _ hk => hk.1.2) (.slice Ao42 t537.length co42)) (fun _ hk => hk.2) (.int .i64 t536)) (fun _ hk => hk.2) (.slice Ao42 t537.length co42)) (fun _ hk => by (try dsimp only at hk); refine ⟨by omega, trivial, by omega⟩)⟩, ⟨trivial⟩, ⟨bput BK491.out⟩, ⟨bput BK495.out⟩, ⟨bput BK541.out⟩, ⟨Z27⟩, ⟨Z37⟩, ⟨Z47⟩⟩
       ·replace c44 := Bool.eq_false_iff.mpr c44
        subst c44
        rw [if_neg (show ¬ (false = true) by decide)] at H
        (try dsimp only at H)
        have H' := ZA H
        clear H
        go_wp2
        go_meet
        case rel => exact ⟨_, (x496000_1), (x496001_1), (.slice Ao33 x496001_1.length co33), H', ⟨by have := HK1.out; have := HJ14.out; first | omega | exact Nat.le_refl _⟩, ⟨by (with_reducible repeat (first | apply Kd.N_alloc | apply Kd.N_drewN | apply Kd.N_drew)); exact Kd.N_mono (Kd.N_far (p := ⟨gb541, 1, none⟩) (Kd.N_far (p := ⟨gb541, 0, none⟩) (Kd.N_mono HO_496001.out (fun k_ hk => (⟨hk, hk.2.2.2.2.2.2⟩ : _ ∧ k_ ≠ gb541))) (fun _ hk => hk.2) (.int .i64 t536)) (fun _ hk => hk.2) (.slice Ao42 t537.length co42)) (fun _ hk => by (try dsimp only at hk); refine ⟨by omega, trivial, by omega⟩)⟩, ⟨trivial⟩, ⟨bput BK491.out⟩, ⟨bput BK495.out⟩, ⟨bput BK541.out⟩, ⟨Z27⟩, ⟨Z37⟩, ⟨Z47⟩⟩
      case rest =>
       clear HC32
       try clear c1
       try clear c2
       try clear p2
       try clear c4
       try clear c5
       try clear c6
       try clear p6
       try clear c16
       try clear c22
       try clear c44
       try clear c45
       try clear c46
       try clear c47
       try clear c49
       try clear c50
       try clear hcz48_0
       try clear hcz48_1
       try clear hcz51_0
       try clear hcz51_1
       try clear hfz48_0
       try clear hfz48_1
       try clear hfz51_0
       try clear hfz51_1
       obtain ⟨kq, x496000_31, x496001_31, u496001, HA, HJ31, HO_496001, HO_542001, BK491, BK495, BK541, HI0, HK, HB⟩ := hcut
       cases kq with
       | zero => exact absurd HA.out (by simp [spec_l7page.j2])
       | succ kj31 =>
        have H := HA.out
        clear HA
        simp only [spec_l7page.j2] at H
        have HC52 := ZA H
        clear H
        go_upto_region 11 with (fail)
        go_cut [48] (fun v48 wc => ∃ (kq : Nat) (x48_51 : Bool) (x1001_51 : Int) (x1002_51 : Int), v48 = .bool x48_51 ∧ Aside0 (spec_l7page.j3 kq x4_1 x48_51 s0_0 x1001_51 x1002_51 x496000_31 x496001_31 = some (r1, r2, r3, r4)) ∧ Aside0 (kq ≤ kj31) ∧ Aside0 (Kd.N (Kd.slice 5 (Kd.int .u8)) 36 wc w.heap.size (fun k_ => (w.heap.size ≤ k_) ∧ True ∧ k_ ≠ gb491 ∧ k_ ≠ gb495 ∧ k_ ≠ gb541 ∧ k_ ≠ g) u496001 x496001_31) ∧ Aside0 True ∧ Aside0 (wc.heap[gb491]? = some (.cells #[.int .i64 0, (.slice none 0 0)] 27 (0, 0))) ∧ Aside0 (wc.heap[gb495]? = some (.cells #[.int .i64 x496000_31, u496001] 27 (0, 0))) ∧ Aside0 (wc.heap[gb541]? = some (.cells #[.int .i64 t536, (.slice Ao42 t537.length co42)] 27 (0, 0))) ∧ Aside0 (IsS82 w0 wc g s0_0 x1001_51 x1002_51) ∧ Aside0 (KeepBut w wc g none) ∧ Aside0 (Below w0.heap.size w0 wc))
        case first =>
         have H := HC52.out
         clear HC52
         replace H := Option.bind_eq_some_iff.mp H
         obtain ⟨⟨t542, t543, t544⟩, A530, H⟩ := H
         (try dsimp only at H)
         have A53 := ZA A530
         clear A530
         by_cases c54 : t542 = true
         ·subst c54
          rw [if_pos rfl] at H
          (try dsimp only at H)
          have H' := ZA H
          clear H
          go_wp2_with (first | ((with_reducible refine gate_callee (f := 59) rfl ?_); refine goesL_ (some 42) rfl rfl Try.func59 Z12 rfl #[.pointer (some ⟨g, 0, none⟩), .int .i64 5] rfl Z1 ?_; (with_reducible refine (spec_l1Once.calls g s0_0 t534 t535 5 true t543 t544 w0 _ ?side1 ?side2 A53.out).mono ?_); (case side1 => repeat (first | (with_reducible first | exact HI0.out | apply IsS82.alloc | apply IsS82.drewN | apply IsS82.drew | apply IsS82.set_1 | apply IsS82.set_2 | refine IsS82.far ?_ NB0_491.out _ | refine IsS82.far ?_ NB0_495.out _ | refine IsS82.far ?_ NB0_541.out _) | exact HI0.out)); (case side2 => repeat (first | (with_reducible first | exact HB.out | apply h1 | apply h2 | apply h3 | refine h4 ?_ (IsS82.ge HI0.out) | refine h4 ?_ GE491.out | refine h4 ?_ GE495.out | refine h4 ?_ GE541.out) | exact HB.out)); rintro e w55 ⟨rfl, hi, hb, hk⟩; refine ⟨_, rfl, ?_⟩; have n0_ := ZA (Kd.N_mono (Kd.N_keep (Kd.N_mono (ok := fun k_ => (((w.heap.size ≤ k_)) ∧ (True ∧ (k_ ≠ gb491 ∧ (k_ ≠ gb495 ∧ (k_ ≠ gb541 ∧ k_ ≠ g)))))) Z20 (fun k_ hk_ => (⟨hk_, hk_.2.2.2.2.2⟩ : _ ∧ k_ ≠ g))) hk (fun _ h => h.2)) (fun _ h => h.1)); have n1_ := ZA trivial; have n2_ := ZA (KeepBut.blk hk (g' := gb491) (o := .cells #[.int .i64 0, .slice none 0 0] 27 (0, 0)) (bup BK491.out) NB491_0.out Z44); have n3_ := ZA (KeepBut.blk hk (g' := gb495) (o := .cells #[.int .i64 x496000_31, u496001] 27 (0, 0)) (bup BK495.out) NB495_0.out Z44); have n4_ := ZA (KeepBut.blk hk (g' := gb541) (o := .cells #[.int .i64 t536, .slice Ao42 t537.length co42] 27 (0, 0)) (bup BK541.out) NB541_0.out Z44); have n5_ := ZA (KeepBut.trans Z6 hk (.inl rfl)); have n6_ := ZA (hb); have n7_ := ZA (hi); clear HO_496001 HO_542001 BK491 BK495 BK541 HK HB HI0; have HO_496001 := n0_; have HO_542001 := n1_; have BK491 := n2_; have BK495 := n3_; have BK541 := n4_; have HK := n5_; have HB := n6_; have HI0 := n7_; clear n0_ n1_ n2_ n3_ n4_ n5_ n6_ n7_; (try clear hb); (try clear hb2); (try clear hk); (try clear hi); have hnb56 := NB495_491.out; have hnc56 := NB491_495.out; have hnb57 := NB495_541.out; have hnc57 := NB541_495.out; have hnb58 := NB495_0.out; have hnc58 := NB0_495.out; obtain ⟨hcz59_0, hcz59_1⟩ := blk_cells2 BK495.out; obtain ⟨hfz59_0, hfz59_1⟩ := blk_frozens2 BK495.out; obtain ⟨Ao60, co60, eo60⟩ := Kd.N_slice HO_496001.out; subst eo60))
          go_meet
          case rel => exact ⟨_, (decide ((x496001_31.length : Int) > 0)), (t543), (t544), Z95, H', ⟨by have := HK1.out; have := HJ14.out; have := HJ31.out; first | omega | exact Nat.le_refl _⟩, ⟨by (with_reducible repeat (first | apply Kd.N_alloc | apply Kd.N_drewN | apply Kd.N_drew)); exact HO_496001.out⟩, ⟨by (with_reducible repeat (first | apply Kd.N_alloc | apply Kd.N_drewN | apply Kd.N_drew)); exact HO_542001.out⟩, ⟨by exact bup BK491.out⟩, ⟨by exact bup BK495.out⟩, ⟨by exact bup BK541.out⟩, ⟨Z27⟩, ⟨Z37⟩, ⟨Z47⟩⟩
         ·replace c54 := Bool.eq_false_iff.mpr c54
          subst c54
          rw [if_neg (show ¬ (false = true) by decide)] at H
          (try dsimp only at H)
          have H' := ZA H
          clear H
          go_wp2_with (first | ((with_reducible refine gate_callee (f := 59) rfl ?_); refine goesL_ (some 42) rfl rfl Try.func59 Z12 rfl #[.pointer (some ⟨g, 0, none⟩), .int .i64 5] rfl Z1 ?_; (with_reducible refine (spec_l1Once.calls g s0_0 t534 t535 5 false t543 t544 w0 _ ?side1 ?side2 A53.out).mono ?_); (case side1 => repeat (first | (with_reducible first | exact HI0.out | apply IsS82.alloc | apply IsS82.drewN | apply IsS82.drew | apply IsS82.set_1 | apply IsS82.set_2 | refine IsS82.far ?_ NB0_491.out _ | refine IsS82.far ?_ NB0_495.out _ | refine IsS82.far ?_ NB0_541.out _) | exact HI0.out)); (case side2 => repeat (first | (with_reducible first | exact HB.out | apply h1 | apply h2 | apply h3 | refine h4 ?_ (IsS82.ge HI0.out) | refine h4 ?_ GE491.out | refine h4 ?_ GE495.out | refine h4 ?_ GE541.out) | exact HB.out)); rintro e w61 ⟨rfl, hi, hb, hk⟩; refine ⟨_, rfl, ?_⟩; have n0_ := ZA (Kd.N_mono (Kd.N_keep (Kd.N_mono (ok := fun k_ => (((w.heap.size ≤ k_)) ∧ (True ∧ (k_ ≠ gb491 ∧ (k_ ≠ gb495 ∧ (k_ ≠ gb541 ∧ k_ ≠ g)))))) Z20 (fun k_ hk_ => (⟨hk_, hk_.2.2.2.2.2⟩ : _ ∧ k_ ≠ g))) hk (fun _ h => h.2)) (fun _ h => h.1)); have n1_ := ZA trivial; have n2_ := ZA (KeepBut.blk hk (g' := gb491) (o := .cells #[.int .i64 0, .slice none 0 0] 27 (0, 0)) (bup BK491.out) NB491_0.out Z44); have n3_ := ZA (KeepBut.blk hk (g' := gb495) (o := .cells #[.int .i64 x496000_31, u496001] 27 (0, 0)) (bup BK495.out) NB495_0.out Z44); have n4_ := ZA (KeepBut.blk hk (g' := gb541) (o := .cells #[.int .i64 t536, .slice Ao42 t537.length co42] 27 (0, 0)) (bup BK541.out) NB541_0.out Z44); have n5_ := ZA (KeepBut.trans Z6 hk (.inl rfl)); have n6_ := ZA (hb); have n7_ := ZA (hi); clear HO_496001 HO_542001 BK491 BK495 BK541 HK HB HI0; have HO_496001 := n0_; have HO_542001 := n1_; have BK491 := n2_; have BK495 := n3_; have BK541 := n4_; have HK := n5_; have HB := n6_; have HI0 := n7_; clear n0_ n1_ n2_ n3_ n4_ n5_ n6_ n7_; (try clear hb); (try clear hb2); (try clear hk); (try clear hi)))
          go_meet
          case rel => exact ⟨_, (false), (t543), (t544), Z95, H', ⟨by have := HK1.out; have := HJ14.out; have := HJ31.out; first | omega | exact Nat.le_refl _⟩, ⟨by (with_reducible repeat (first | apply Kd.N_alloc | apply Kd.N_drewN | apply Kd.N_drew)); exact HO_496001.out⟩, ⟨by (with_reducible repeat (first | apply Kd.N_alloc | apply Kd.N_drewN | apply Kd.N_drew)); exact HO_542001.out⟩, ⟨by exact bup BK491.out⟩, ⟨by exact bup BK495.out⟩, ⟨by exact bup BK541.out⟩, ⟨Z27⟩, ⟨Z37⟩, ⟨Z47⟩⟩
        case rest =>
         clear HC52
         try clear c1
         try clear c2
         try clear p2
         try clear c4
         try clear c5
         try clear c6
         try clear p6
         try clear c16
         try clear c22
         try clear c44
         try clear c45
         try clear c46
         try clear c47
         try clear c49
         try clear c50
         try clear c54
         try clear c56
         try clear c57
         try clear c58
         try clear c59
         try clear hcz48_0
         try clear hcz48_1
         try clear hcz51_0
         try clear hcz51_1
         try clear hcz59_0
         try clear hcz59_1
         try clear hfz48_0
         try clear hfz48_1
         try clear hfz51_0
         try clear hfz51_1
         try clear hfz59_0
         try clear hfz59_1
         try clear p2
         try clear p6
         obtain ⟨kq, x48_51, x1001_51, x1002_51, rfl, HA, HJ51, HO_496001, HO_542001, BK491, BK495, BK541, HI0, HK, HB⟩ := hcut
         cases kq with
         | zero => exact absurd HA.out (by simp [spec_l7page.j3])
         | succ kj51 =>
          have H := HA.out
          clear HA
          simp only [spec_l7page.j3] at H
          by_cases c62 : x48_51 = true
          ·subst c62
           rw [if_pos rfl] at H
           (try dsimp only at H)
           replace H := Option.bind_eq_some_iff.mp H
           obtain ⟨⟨t545, t546, t547⟩, A630, H⟩ := H
           (try dsimp only at H)
           have A63 := ZA A630
           clear A630
           replace H := Option.bind_eq_some_iff.mp H
           obtain ⟨⟨t548, t549, t550⟩, A640, H⟩ := H
           (try dsimp only at H)
           have A64 := ZA A640
           clear A640
           replace H := Option.bind_eq_some_iff.mp H
           obtain ⟨⟨t551, t552, t555⟩, A650, H⟩ := H
           (try dsimp only at H)
           have A65 := ZA A650
           clear A650
           have H' := ZA H
           clear H
           try go_wp2
           have n0_ := ZA (Kd.N_drew HO_496001.out)
           have n1_ := ZA trivial
           have n2_ := ZA (blk_drew BK491.out)
           have n3_ := ZA (blk_drew BK495.out)
           have n4_ := ZA (blk_drew BK541.out)
           have n5_ := ZA (IsS82.drew HI0.out)
           have n6_ := ZA (keep_drew HK.out)
           have n7_ := ZA (below_drew1 HB.out)
           clear HO_496001
           clear HO_542001
           clear BK491
           clear BK495
           clear BK541
           clear HI0
           clear HK
           clear HB
           have HO_496001 := n0_
           have HO_542001 := n1_
           have BK491 := n2_
           have BK495 := n3_
           have BK541 := n4_
           have HI0 := n5_
           have HK := n6_
           have HB := n7_
           clear n0_ n1_ n2_ n3_ n4_ n5_ n6_ n7_
           obtain ⟨Ao67, co67, eo67⟩ := Kd.N_slice HO_496001.out
           (first | subst eo67 | (injection eo67 with f1_ f2_ f3_; have f4_ := f1_.symm; have f5_ := f3_.symm; clear f1_ f2_ f3_; subst f4_; subst f5_))
           refine start_ (n := 14) (S := fun w' => w'.cell? ⟨gb495, 0, none⟩ = some (.int .i64 x496000_31) ∧ w'.cell? ⟨gb495, 1, none⟩ = some (.slice Ao67 x496001_31.length co67)) (ds := [13]) #[false, false, false, false, false, false, false, false, false, false, false, false, false, false] Z12 rfl rfl (blk_cells2 BK495.out) (fun hHeld => ?_); refine with_tabW spec_l7page.tab12 spec_l7page.bits12 (fun HT_ HW_ => ?_)
           generalize wc.drew = w66 at HO_496001 HO_542001 BK491 BK495 BK541 HI0 HK HB hHeld ⊢
           refine pure_ (i := 1) (N := some 51) (v := ?_) (a' := ?_) #[false, true, false, false, false, false, false, false, false, false, false, false, false, false] rfl rfl (any_of HT_.out Z12) (fun _ _ _ h => h) (Or.inl ⟨by rfl, ?_⟩) ?_ ?_
           rotate_left
           ·intro w'
            go_simp
            with_reducible rfl
           rotate_left
           ·simp only [Act.put, List.setIfInBounds_toArray, List.set_cons_zero, List.set_cons_succ, i64_w, i32_w]
            rfl
           refine pure_ (i := 2) (N := some 52) (v := ?_) (a' := ?_) #[false, true, true, false, false, false, false, false, false, false, false, false, false, false] rfl rfl (any_of HT_.out Z12) (fun _ _ _ h => h) (Or.inl ⟨by rfl, ?_⟩) ?_ ?_
           rotate_left
           ·intro w'
            go_simp
            with_reducible rfl
           rotate_left
           ·simp only [Act.put, List.setIfInBounds_toArray, List.set_cons_zero, List.set_cons_succ, i64_w, i32_w]
            rfl
           refine pure_ (i := 6) (N := some 56) (v := ?_) (a' := ?_) #[false, true, true, false, false, false, true, false, false, false, false, false, false, false] rfl rfl (any_of HT_.out Z12) (fun _ _ _ h => h) (Or.inl ⟨by rfl, ?_⟩) ?_ ?_
           rotate_left
           ·intro w'
            go_simp
            with_reducible rfl
           rotate_left
           ·simp only [Act.put, List.setIfInBounds_toArray, List.set_cons_zero, List.set_cons_succ, i64_w, i32_w]
            rfl
           refine take_ (i := 0) (N := some 50) (v := ?_) (a' := ?_) #[true, true, true, false, false, false, true, false, false, false, false, false, false, false] rfl rfl (take_ofW HT_.out HW_.out Z12) (fun _ _ _ h => h) (Or.inl ⟨by rfl, ?_⟩) hHeld ?_ ?_
           rotate_left
           ·rintro w' ⟨s0, s1⟩
            go_simp
            with_reducible rfl
           rotate_left
           ·simp only [Act.put, List.setIfInBounds_toArray, List.set_cons_zero, List.set_cons_succ, i64_w, i32_w]
            rfl
           refine take_ (i := 3) (N := some 53) (v := ?_) (a' := ?_) #[true, true, true, true, false, false, true, false, false, false, false, false, false, false] rfl rfl (take_ofW HT_.out HW_.out Z12) (fun _ _ _ h => h) (Or.inl ⟨by rfl, ?_⟩) hHeld ?_ ?_
           rotate_left
           ·rintro w' ⟨s0, s1⟩
            go_simp
            with_reducible rfl
           rotate_left
           ·simp only [Act.put, List.setIfInBounds_toArray, List.set_cons_zero, List.set_cons_succ, i64_w, i32_w]
            rfl
           refine pure_ (i := 4) (N := some 54) (v := ?_) (a' := ?_) #[true, true, true, true, true, false, true, false, false, false, false, false, false, false] rfl rfl (any_of HT_.out Z12) (fun _ _ _ h => h) (Or.inl ⟨by rfl, ?_⟩) ?_ ?_
           rotate_left
           ·intro w'
            go_simp
            with_reducible rfl
           rotate_left
           ·simp only [Act.put, List.setIfInBounds_toArray, List.set_cons_zero, List.set_cons_succ, i64_w, i32_w]
            rfl
           refine one_ (i := 5) (N := some 55) #[true, true, true, true, true, true, true, false, false, false, false, false, false, false] rfl rfl (one_of HT_.out Z12) Z25 (fun K hK => ?_)
           refine goes_ Try.func63 Z12 rfl #[.pointer (some ⟨g, 0, none⟩), .int .i64 (x496001_31.length : Int)] Z94 rfl rfl Z1 ?_
           with_reducible refine (spec_l1Below.calls g s0_0 x1001_51 x1002_51 (x496001_31.length : Int) t545 t546 t547 w0 _ ?side1 ?side2 A63.out).mono ?_
           (case side1 => repeat (first | (with_reducible first | exact HI0.out | apply IsS82.alloc | apply IsS82.drewN | apply IsS82.drew | apply IsS82.set_1 | apply IsS82.set_2 | refine IsS82.far ?_ NB0_491.out _ | refine IsS82.far ?_ NB0_495.out _ | refine IsS82.far ?_ NB0_541.out _) | exact HI0.out))
           (case side2 => repeat (first | (with_reducible first | exact HB.out | apply h1 | apply h2 | apply h3 | refine h4 ?_ (IsS82.ge HI0.out) | refine h4 ?_ GE491.out | refine h4 ?_ GE495.out | refine h4 ?_ GE541.out) | exact HB.out))
           rintro e w68 ⟨rfl, hi, hb, hk⟩
           refine ⟨_, rfl, ?_⟩
           have n0_ := ZA (Kd.N_mono (Kd.N_keep (Kd.N_mono (ok := fun k_ => (((w.heap.size ≤ k_)) ∧ (True ∧ (k_ ≠ gb491 ∧ (k_ ≠ gb495 ∧ (k_ ≠ gb541 ∧ k_ ≠ g)))))) Z20 (fun k_ hk_ => (⟨hk_, hk_.2.2.2.2.2⟩ : _ ∧ k_ ≠ g))) hk (fun _ h => h.2)) (fun _ h => h.1))
           have n1_ := ZA trivial
           have n2_ := ZA (KeepBut.blk hk (g' := gb491) (o := .cells #[.int .i64 0, .slice none 0 0] 27 (0, 0)) (bup BK491.out) NB491_0.out Z44)
           have n3_ := ZA (KeepBut.blk hk (g' := gb495) (o := .cells #[.int .i64 x496000_31, .slice Ao67 x496001_31.length co67] 27 (0, 0)) (bup BK495.out) NB495_0.out Z44)
           have n4_ := ZA (KeepBut.blk hk (g' := gb541) (o := .cells #[.int .i64 t536, .slice Ao42 t537.length co42] 27 (0, 0)) (bup BK541.out) NB541_0.out Z44)
           have n5_ := ZA (KeepBut.trans Z6 hk (.inl rfl))
           have n6_ := ZA (hb)
           have n7_ := ZA (hi)
           clear HO_496001
           clear HO_542001
           clear BK491
           clear BK495
           clear BK541
           clear HK
           clear HB
           clear HI0
           have HO_496001 := n0_
           have HO_542001 := n1_
           have BK491 := n2_
           have BK495 := n3_
           have BK541 := n4_
           have HK := n5_
           have HB := n6_
           have HI0 := n7_
           clear n0_ n1_ n2_ n3_ n4_ n5_ n6_ n7_
           (try clear hb)
           (try clear hb2)
           (try clear hk)
           (try clear hi)
           refine hK.out _ _ (blk_cells2 BK495.out) (fun hHeld => ?_)
           clear hK K
           refine norm_ (a' := ?_) ?_ ?_
           rotate_left
           ·show Act.put _ (some 55) _ = _
            simp only [Act.put, List.setIfInBounds_toArray, List.set_cons_zero, List.set_cons_succ, i64_w, i32_w]
            rfl
           refine one_ (i := 7) (N := some 57) #[true, true, true, true, true, true, true, true, false, false, false, false, false, false] rfl rfl (one_of HT_.out Z12) Z25 (fun K hK => ?_)
           refine goes_ Try.func63 Z12 rfl #[.pointer (some ⟨g, 0, none⟩), .int .i64 50] Z94 rfl rfl Z1 ?_
           with_reducible refine (spec_l1Below.calls g s0_0 t546 t547 50 t548 t549 t550 w0 _ ?side1 ?side2 A64.out).mono ?_
           (case side1 => repeat (first | (with_reducible first | exact HI0.out | apply IsS82.alloc | apply IsS82.drewN | apply IsS82.drew | apply IsS82.set_1 | apply IsS82.set_2 | refine IsS82.far ?_ NB0_491.out _ | refine IsS82.far ?_ NB0_495.out _ | refine IsS82.far ?_ NB0_541.out _) | exact HI0.out))
           (case side2 => repeat (first | (with_reducible first | exact HB.out | apply h1 | apply h2 | apply h3 | refine h4 ?_ (IsS82.ge HI0.out) | refine h4 ?_ GE491.out | refine h4 ?_ GE495.out | refine h4 ?_ GE541.out) | exact HB.out))
           rintro e w69 ⟨rfl, hi, hb, hk⟩
           refine ⟨_, rfl, ?_⟩
           have n0_ := ZA (Kd.N_mono (Kd.N_keep (Kd.N_mono (ok := fun k_ => (((w.heap.size ≤ k_)) ∧ (True ∧ (k_ ≠ gb491 ∧ (k_ ≠ gb495 ∧ (k_ ≠ gb541 ∧ k_ ≠ g)))))) Z20 (fun k_ hk_ => (⟨hk_, hk_.2.2.2.2.2⟩ : _ ∧ k_ ≠ g))) hk (fun _ h => h.2)) (fun _ h => h.1))
           have n1_ := ZA trivial
           have n2_ := ZA (KeepBut.blk hk (g' := gb491) (o := .cells #[.int .i64 0, .slice none 0 0] 27 (0, 0)) (bup BK491.out) NB491_0.out Z44)
           have n3_ := ZA (KeepBut.blk hk (g' := gb495) (o := .cells #[.int .i64 x496000_31, .slice Ao67 x496001_31.length co67] 27 (0, 0)) (bup BK495.out) NB495_0.out Z44)
           have n4_ := ZA (KeepBut.blk hk (g' := gb541) (o := .cells #[.int .i64 t536, .slice Ao42 t537.length co42] 27 (0, 0)) (bup BK541.out) NB541_0.out Z44)
           have n5_ := ZA (KeepBut.trans Z6 hk (.inl rfl))
           have n6_ := ZA (hb)
           have n7_ := ZA (hi)
           clear HO_496001
           clear HO_542001
           clear BK491
           clear BK495
           clear BK541
           clear HK
           clear HB
           clear HI0
           have HO_496001 := n0_
           have HO_542001 := n1_
           have BK491 := n2_
           have BK495 := n3_
           have BK541 := n4_
           have HK := n5_
           have HB := n6_
           have HI0 := n7_
           clear n0_ n1_ n2_ n3_ n4_ n5_ n6_ n7_
           (try clear hb)
           (try clear hb2)
           (try clear hk)
           (try clear hi)
           refine hK.out _ _ (blk_cells2 BK495.out) (fun hHeld => ?_)
           clear hK K
           refine norm_ (a' := ?_) ?_ ?_
           rotate_left
           ·show Act.put _ (some 57) _ = _
            simp only [Act.put, List.setIfInBounds_toArray, List.set_cons_zero, List.set_cons_succ, i64_w, i32_w]
            rfl
           refine pure_ (i := 8) (N := some 58) (v := ?_) (a' := ?_) #[true, true, true, true, true, true, true, true, true, false, false, false, false, false] rfl rfl (any_of HT_.out Z12) (fun _ _ _ h => h) (Or.inl ⟨by rfl, ?_⟩) ?_ ?_
           rotate_left
           ·intro w'
            go_simp
            with_reducible rfl
           rotate_left
           ·simp only [Act.put, List.setIfInBounds_toArray, List.set_cons_zero, List.set_cons_succ, i64_w, i32_w]
            rfl
           refine one_ (i := 9) (N := some 59) #[true, true, true, true, true, true, true, true, true, true, false, false, false, false] rfl rfl (one_of HT_.out Z12) Z25 (fun K hK => ?_)
           refine goes_ Try.func18 Z12 rfl #[.agg #[.int .i64 x496000_31, .slice Ao67 x496001_31.length co67], .int .i64 t545, .int .i64 (wrap64 (1 + t548))] Z94 rfl rfl Z1 ?_
           with_reducible refine (spec_PageClear.calls kj51 x496000_31 _ _ x496001_31 t545 (wrap64 (1 + t548)) t551 t552 t555 _ ?side1 ?side2 A65.out).mono ?_
           (case side1 => repeat (first | exact (Kd.N_reads' HO_496001.out).2.2 | (with_reducible refine Kd.C_alloc ?_ _) | (with_reducible refine Kd.C_drewN ?_ _) | (with_reducible refine Kd.C_drew ?_)))
           (case side2 => exact (Kd.N_reads' HO_496001.out).2.1)
           rintro e w70 ⟨v553, rfl, ho0, hb⟩
           refine ⟨_, rfl, ?_⟩
           have n0_ := ZA (Kd.N_elder' Z20 Z72 hb)
           have n1_ := ZA trivial
           have n2_ := ZA (Kd.N_lower (Kd.N_mono (ok' := fun k_ => (w.heap.size ≤ k_) ∧ some k_ ≠ (.slice Ao67 x496001_31.length co67 : Value).ownBlock ∧ True ∧ k_ ≠ gb491 ∧ k_ ≠ gb495 ∧ k_ ≠ gb541 ∧ k_ ≠ g) (Kd.S_N (Kd.S_bound ho0)) (fun k_ hk_ => ⟨(Nat.le_trans (keep_size (w := w) (g := g) (row := none) Z6) hk_.2.1), (Kd.fresh' (Kd.N_lt Z20) k_ hk_.2.1), trivial, (Kd.freshB (g := gb491) (o := .cells #[.int .i64 0, .slice none 0 0] 27 (0, 0)) (bup BK491.out) k_ hk_.2.1), (Kd.freshB (g := gb495) (o := .cells #[.int .i64 x496000_31, .slice Ao67 x496001_31.length co67] 27 (0, 0)) (bup BK495.out) k_ hk_.2.1), (Kd.freshB (g := gb541) (o := .cells #[.int .i64 t536, .slice Ao42 t537.length co42] 27 (0, 0)) (bup BK541.out) k_ hk_.2.1), (IsS82.fresh Z16 k_ hk_.2.1)⟩)) (keep_size (w := w) (g := g) (row := none) Z6))
           have n3_ := ZA (blk_below (bup BK491.out) hb)
           have n4_ := ZA (blk_below (bup BK495.out) hb)
           have n5_ := ZA (blk_below (bup BK541.out) hb)
           have n6_ := ZA (IsS82.below Z16 hb)
           have n7_ := ZA (KeepBut.trans Z6 (KeepBut.of_below hb g none) (.inl rfl))
           have n8_ := ZA (below_step Z30 hb)
           clear HO_496001
           clear HO_542001
           clear BK491
           clear BK495
           clear BK541
           clear HI0
           clear HK
           clear HB
           have HO_496001 := n0_
           have HO_542001 := n1_
           have HO554 := n2_
           have BK491 := n3_
           have BK495 := n4_
           have BK541 := n5_
           have HI0 := n6_
           have HK := n7_
           have HB := n8_
           clear n0_ n1_ n2_ n3_ n4_ n5_ n6_ n7_ n8_
           (try clear hb)
           (try clear hb2)
           (try clear hk)
           (try clear hi)
           (try clear ho0)
           obtain ⟨Ao72, co72, eo72⟩ := Kd.N_slice HO554.out
           (first | subst eo72 | (injection eo72 with f1_ f2_ f3_; have f4_ := f1_.symm; have f5_ := f3_.symm; clear f1_ f2_ f3_; subst f4_; subst f5_))
           refine hK.out _ _ (blk_cells2 BK495.out) (fun hHeld => ?_)
           clear hK K
           refine norm_ (a' := ?_) ?_ ?_
           rotate_left
           ·show Act.put _ (some 59) _ = _
            simp only [Act.put, List.setIfInBounds_toArray, List.set_cons_zero, List.set_cons_succ, i64_w, i32_w]
            rfl
           refine pure_ (i := 10) (N := some 49) (v := ?_) (a' := ?_) #[true, true, true, true, true, true, true, true, true, true, true, false, false, false] rfl rfl (any_of HT_.out Z12) (fun _ _ _ h => h) (Or.inl ⟨by rfl, ?_⟩) ?_ ?_
           rotate_left
           ·intro w'
            go_simp
            with_reducible rfl
           rotate_left
           ·simp only [Act.put, List.setIfInBounds_toArray, List.set_cons_zero, List.set_cons_succ, i64_w, i32_w]
            rfl
           refine pure_ (i := 11) (N := some 60) (v := ?_) (a' := ?_) #[true, true, true, true, true, true, true, true, true, true, true, true, false, false] rfl rfl (any_of HT_.out Z12) (fun _ _ _ h => h) (Or.inl ⟨by rfl, ?_⟩) ?_ ?_
           rotate_left
           ·intro w'
            go_simp
            with_reducible rfl
           rotate_left
           ·simp only [Act.put, List.setIfInBounds_toArray, List.set_cons_zero, List.set_cons_succ, i64_w, i32_w]
            rfl
           refine pure_ (i := 12) (N := some 61) (v := ?_) (a' := ?_) #[true, true, true, true, true, true, true, true, true, true, true, true, true, false] rfl rfl (any_of HT_.out Z12) (fun _ _ _ h => h) (Or.inl ⟨by rfl, ?_⟩) ?_ ?_
           rotate_left
           ·intro w'
            go_simp
            with_reducible rfl
           rotate_left
           ·simp only [Act.put, List.setIfInBounds_toArray, List.set_cons_zero, List.set_cons_succ, i64_w, i32_w]
            rfl
           refine last_ (i := 13) (N := none) #[true, true, true, true, true, true, true, true, true, true, true, true, true, true] rfl rfl (one_of HT_.out Z12) Z25 (fun K hK => ?_)
           have hs71 : w70.cell? ⟨gb495, 0, none⟩ = some (.int .i64 x496000_31) := (blk_cell BK495.out 0).trans rfl
           have hfs71 := blk_frozen BK495.out 0
           have hns71_0 := NB491_495.out
           have hns71_2 := NB541_495.out
           have hms71_0 := NB495_491.out
           have hms71_2 := NB495_541.out
           have hs73 : w70.cell? ⟨gb495, 1, none⟩ = some (.slice Ao67 x496001_31.length co67) := (blk_cell BK495.out 1).trans rfl
           have hfs73 := blk_frozen BK495.out 1
           have hns73_0 := NB491_495.out
           have hns73_2 := NB541_495.out
           have hms73_0 := NB495_491.out
           have hms73_2 := NB495_541.out
           refine skip_ (w1 := ?_) ?hw_ ?hN_ ?_ ?_
           case hN_ => rfl
           case hw_ => rfl
           rotate_left
           ·go_simp
            rfl
           refine hK.out _ _ ?_
           clear hK K
           refine done_ (done_of HT_.out Z12) ?_
           try go_wp2
           go_roundg kj51
           case measure => have := HK1.out; have := HJ14.out; have := HJ31.out; have := HJ51.out; omega
           case rel => exact ⟨(wrap64 (x4_1 - 1)), (t549), (t550), (t551), (t552), (.slice Ao72 t552.length co72), Z95, H', ⟨by have := HK1.out; have := HJ14.out; have := HJ31.out; have := HJ51.out; omega⟩, ⟨by (with_reducible repeat (first | apply Kd.N_alloc | apply Kd.N_drewN | apply Kd.N_drew)); exact Kd.N_mono (Kd.N_far (p := ⟨gb495, 1, none⟩) (Kd.N_far (p := ⟨gb495, 0, none⟩) (Kd.N_mono HO554.out (fun k_ hk => (⟨hk, hk.2.2.2.2.1⟩ : _ ∧ k_ ≠ gb495))) (fun _ hk => hk.2) (.int .i64 t551)) (fun _ hk => hk.2) (.slice Ao72 t552.length co72)) (fun _ hk => ⟨hk.1.1, ⟨hk.1.2.2.2.1, ⟨hk.1.2.2.2.2.1, hk.1.2.2.2.2.2.2⟩⟩⟩)⟩, ⟨bput BK491.out⟩, ⟨bput BK495.out⟩, ⟨Z27⟩, ⟨Z37⟩, ⟨Z47⟩⟩
          ·replace c62 := Bool.eq_false_iff.mpr c62
           subst c62
           rw [if_neg (show ¬ (false = true) by decide)] at H
           (try dsimp only at H)
           have H' := ZA H
           clear H
           go_wp2
           go_roundg kj51
           case measure => have := HK1.out; have := HJ14.out; have := HJ31.out; have := HJ51.out; omega
           case rel => exact ⟨(wrap64 (x4_1 - 1)), (x1001_51), (x1002_51), (x496000_31), (x496001_31), (u496001), Z95, H', ⟨by have := HK1.out; have := HJ14.out; have := HJ31.out; have := HJ51.out; omega⟩, ⟨by (with_reducible repeat (first | apply Kd.N_alloc | apply Kd.N_drewN | apply Kd.N_drew)); exact Kd.N_mono HO_496001.out (fun _ hk => ⟨hk.1, ⟨hk.2.2.1, ⟨hk.2.2.2.1, hk.2.2.2.2.2⟩⟩⟩)⟩, ⟨by exact bup BK491.out⟩, ⟨by exact bup BK495.out⟩, ⟨Z27⟩, ⟨Z37⟩, ⟨Z47⟩⟩
   ·rw [if_neg c11] at H
    have c11b0 : decide (0 < x4_1) = false := decide_eq_false c11
    clear c11
    simp only [Option.some.injEq, Prod.mk.injEq] at H
    obtain ⟨rfl, rfl, rfl, rfl⟩ := H
    have hnb74 := NB495_491.out
    have hnc74 := NB491_495.out
    have hnb75 := NB495_0.out
    have hnc75 := NB0_495.out
    obtain ⟨hcz76_0, hcz76_1⟩ := blk_cells2 BK495.out
    obtain ⟨hfz76_0, hfz76_1⟩ := blk_frozens2 BK495.out
    have hnb77 := NB491_0.out
    have hnc77 := NB0_491.out
    obtain ⟨hcz78_0, hcz78_1⟩ := blk_cells2 BK491.out
    obtain ⟨hfz78_0, hfz78_1⟩ := blk_frozens2 BK491.out
    obtain ⟨Ao79, co79, eo79⟩ := Kd.N_slice HO_496001.out
    subst eo79
    go_wp2
    refine bodyPost_ret (results_cell_row rfl _ _ gb491 27 #[.int .i64 x496000_1, .slice Ao79 x496001_1.length co79] (0, 0) _ rfl (bput BK491.out) Try.underlying27 rfl Z12) rfl ?_
    exact ⟨_, by first | rfl | (simp [errW_none, errW_some] <;> rfl) | (simp [*, errW_none, errW_some] <;> rfl), by (with_reducible repeat (first | apply Kd.N_alloc | apply Kd.N_drewN | apply Kd.N_drew)); exact Kd.N_mono (Kd.N_far (p := ⟨gb491, 1, none⟩) (Kd.N_far (p := ⟨gb491, 0, none⟩) (Kd.N_mono HO_496001.out (fun k_ hk => (⟨hk, hk.2.1⟩ : _ ∧ k_ ≠ gb491))) (fun _ hk => hk.2) (.int .i64 x496000_1)) (fun _ hk => hk.2) (.slice Ao79 x496001_1.length co79)) (fun _ hk => hk.1.1), Z9, Z60, Z58⟩
end Go.Proofs.Ytokpniagnbaflaa.PFnPlaces
