import Derived.Test.YtcjeokkhpjppaaaZFnSpans29
import Derived.Test.YtcjeokkhpjppaaaZFnSpans31
import Derived.Test.YtcjeokkhpjppaaaZFnSpans32
import Derived.Test.YtcjeokkhpjppaaaZFnSpans37
import Derived.Test.YtcjeokkhpjppaaaZFnSpans38
namespace Go.Proofs.Ytcjeokkhpjppaaa.PFnSpans
open Go.RowKit Go.Proofs.YtcjeokkhpjppaaaW.PrintWords Go.Proofs.YtcjeokkhpjppaaaW.PrintLast Go.Proofs.YtcjeokkhpjppaaaW.PrintMore
attribute [local go_sem] max2_int min2_int max_two min_two max_three min_three max_four min_four   -- for this text's walks alone
attribute [local go_sem high] fl_eql fl_neq fl_lss fl_leq fl_gtr fl_geq fl_add fl_sub fl_mul fl_quo fl_neg fl_ofInt fl_toInt fl_store sub_sign ext_bits fl_nan_quo fl_nan_add fl_nan_mul fl_nan_sub
open Go.Proofs.YtcjeokkhpjppaaaW.PrintWords renaming below_alloc → h1, pw_below_drewN → h2, below_drew1 → h3, below_set → h4, blk_drewN → b1, blk_drew → b2, blk_alloc → b3
set_option linter.unusedVariables false
set_option linter.unusedSimpArgs false
theorem laws_FnSpans.str_le : ∀ (a b : List UInt8), (Op.bytesLess a b || a == b) = !Op.bytesLess b a
  | [], [] => rfl
  | [], y :: b => by simp [Op.bytesLess]
  | x :: a, [] => by simp [Op.bytesLess]
  | x :: a, y :: b => by
    have ih := laws_FnSpans.str_le a b
    simp only [Op.bytesLess]
    by_cases h1 : x < y
    · have h2 : ¬ y < x := by rw [UInt8.lt_iff_toNat_lt] at h1 ⊢; omega
      have h3 : ¬ y = x := by rintro rfl; rw [UInt8.lt_iff_toNat_lt] at h1; omega
      simp [h1, h2, h3]
    · by_cases h2 : y < x
      · have h3 : ¬ x = y := by rintro rfl; rw [UInt8.lt_iff_toNat_lt] at h2; omega
        simp [h1, h2, h3]
      · have e : x = y := by rw [UInt8.lt_iff_toNat_lt] at h1 h2; exact UInt8.toNat_inj.mp (by omega)
        subst e
        simp [h1, ← ih]
attribute [local go_sem high] laws_FnSpans.str_le
mutual
def laws_FnSpans.j0 : Nat → Bool → Int → Int → Nat → List Int → Int → Int → Nat → List Int → Int → Int → Nat → List Int → Option (Bool)
 | 0, _, _, _, _, _, _, _, _, _, _, _, _, _ => none
 | k + 1, x27, x472000, x472001, x472002, x472003, x473000, x473001, x473002, x473003, x474000, x474001, x474002, x474003 => if x27 = true then ((impl_InSpan.f k x472000 x472001 x472002 x472003 x473000 x473001 x473002 x473003 x474000 x474001 x474002 x474003).bind fun t477 => (some (!t477))) else ((spec_KeyBytes.f k x472000 x472001 x472002 x472003).bind fun t478 => ((spec_KeyBytes.f k x474000 x474001 x474002 x474003).bind fun t481 => (if ((Op.bytesLess ((strOfNums t481).toList) ((strOfNums t478).toList)) = true) then (laws_FnSpans.j1 k false x472000 x472001 x472002 x472003 x473000 x473001 x473002 x473003 x474000 x474001 x474002 x474003) else ((spec_KeyBytes.f k x474000 x474001 x474002 x474003).bind fun t484 => ((spec_KeyBytes.f k x473000 x473001 x473002 x473003).bind fun t487 => (laws_FnSpans.j1 k (!(Op.bytesLess ((strOfNums t487).toList) ((strOfNums t484).toList))) x472000 x472001 x472002 x472003 x473000 x473001 x473002 x473003 x474000 x474001 x474002 x474003))))))
def laws_FnSpans.j1 : Nat → Bool → Int → Int → Nat → List Int → Int → Int → Nat → List Int → Int → Int → Nat → List Int → Option (Bool)
 | 0, _, _, _, _, _, _, _, _, _, _, _, _, _ => none
 | k + 1, x6, x472000, x472001, x472002, x472003, x473000, x473001, x473002, x473003, x474000, x474001, x474002, x474003 => (impl_InSpan.f k x472000 x472001 x472002 x472003 x473000 x473001 x473002 x473003 x474000 x474001 x474002 x474003).bind fun t490 => (if (t490 == x6) = true then ((impl_InSpan.f k x474000 x474001 x474002 x474003 x474000 x474001 x474002 x474003 x474000 x474001 x474002 x474003).bind fun t491 => (if t491 = true then ((impl_InSpan.f k x474000 x474001 x474002 x474003 x474000 x474001 x474002 x474003 x473000 x473001 x473002 x473003).bind fun t492 => ((laws_sameItem.f k x474000 x474001 x474002 x474003 x473000 x473001 x473002 x473003).bind fun t493 => (some (t492 == t493)))) else (some false))) else (some false))
end
def laws_FnSpans.f (k : Nat) (l0 : List Int) : Option (Bool) := (laws_big.f l0).bind fun t452 => (if t452 = true then (some true) else ((spec_DrawInSpan.f k l0).bind fun bt453 => ((spec_KeyOk.f k bt453.1 bt453.2.1 bt453.2.2.1 bt453.2.2.2.1).bind fun t474 => (if t474 = true then ((spec_KeyOk.f k bt453.2.2.2.2.1 bt453.2.2.2.2.2.1 bt453.2.2.2.2.2.2.1 bt453.2.2.2.2.2.2.2.1).bind fun t475 => (if t475 = true then ((spec_KeyOk.f k bt453.2.2.2.2.2.2.2.2.1 bt453.2.2.2.2.2.2.2.2.2.1 bt453.2.2.2.2.2.2.2.2.2.2.1 bt453.2.2.2.2.2.2.2.2.2.2.2).bind fun t476 => (laws_FnSpans.j0 k (!t476) bt453.1 bt453.2.1 bt453.2.2.1 bt453.2.2.2.1 bt453.2.2.2.2.1 bt453.2.2.2.2.2.1 bt453.2.2.2.2.2.2.1 bt453.2.2.2.2.2.2.2.1 bt453.2.2.2.2.2.2.2.2.1 bt453.2.2.2.2.2.2.2.2.2.1 bt453.2.2.2.2.2.2.2.2.2.2.1 bt453.2.2.2.2.2.2.2.2.2.2.2)) else (laws_FnSpans.j0 k true bt453.1 bt453.2.1 bt453.2.2.1 bt453.2.2.2.1 bt453.2.2.2.2.1 bt453.2.2.2.2.2.1 bt453.2.2.2.2.2.2.1 bt453.2.2.2.2.2.2.2.1 bt453.2.2.2.2.2.2.2.2.1 bt453.2.2.2.2.2.2.2.2.2.1 bt453.2.2.2.2.2.2.2.2.2.2.1 bt453.2.2.2.2.2.2.2.2.2.2.2))) else (laws_FnSpans.j0 k true bt453.1 bt453.2.1 bt453.2.2.1 bt453.2.2.2.1 bt453.2.2.2.2.1 bt453.2.2.2.2.2.1 bt453.2.2.2.2.2.2.1 bt453.2.2.2.2.2.2.2.1 bt453.2.2.2.2.2.2.2.2.1 bt453.2.2.2.2.2.2.2.2.2.1 bt453.2.2.2.2.2.2.2.2.2.2.1 bt453.2.2.2.2.2.2.2.2.2.2.2)))))
theorem laws_FnSpans.mono_l : ∀ k, (∀ y0 y1 y2 y3 y4 y5 y6 y7 y8 y9 y10 y11 y12, LeO (laws_FnSpans.j0 k y0 y1 y2 y3 y4 y5 y6 y7 y8 y9 y10 y11 y12) (laws_FnSpans.j0 (k + 1) y0 y1 y2 y3 y4 y5 y6 y7 y8 y9 y10 y11 y12)) ∧ (∀ y0 y1 y2 y3 y4 y5 y6 y7 y8 y9 y10 y11 y12, LeO (laws_FnSpans.j1 k y0 y1 y2 y3 y4 y5 y6 y7 y8 y9 y10 y11 y12) (laws_FnSpans.j1 (k + 1) y0 y1 y2 y3 y4 y5 y6 y7 y8 y9 y10 y11 y12))
 | 0 => ⟨fun _ _ _ _ _ _ _ _ _ _ _ _ _ r h => by simp [laws_FnSpans.j0] at h, fun _ _ _ _ _ _ _ _ _ _ _ _ _ r h => by simp [laws_FnSpans.j1] at h⟩
 | k + 1 => by
  obtain ⟨ih0, ih1⟩ := laws_FnSpans.mono_l k
  refine ⟨?_, ?_⟩
  ·intro y0 y1 y2 y3 y4 y5 y6 y7 y8 y9 y10 y11 y12
   unfold laws_FnSpans.j0
   repeat' with_reducible first | exact ih0 _ _ _ _ _ _ _ _ _ _ _ _ _ | exact ih1 _ _ _ _ _ _ _ _ _ _ _ _ _ | exact impl_InSpan.mono _ _ _ _ _ _ _ _ _ _ _ _ _ | exact laws_sameItem.mono _ _ _ _ _ _ _ _ _ | exact spec_DrawInSpan.mono _ _ | exact spec_KeyBytes.mono _ _ _ _ _ | exact spec_KeyOk.mono _ _ _ _ _ | exact LeO.refl _ | exact LeO.none _ | refine LeO.ite ?_ ?_ | refine LeO.bind ?_ (fun _ => ?_)
  ·intro y0 y1 y2 y3 y4 y5 y6 y7 y8 y9 y10 y11 y12
   unfold laws_FnSpans.j1
   repeat' with_reducible first | exact ih0 _ _ _ _ _ _ _ _ _ _ _ _ _ | exact ih1 _ _ _ _ _ _ _ _ _ _ _ _ _ | exact impl_InSpan.mono _ _ _ _ _ _ _ _ _ _ _ _ _ | exact laws_sameItem.mono _ _ _ _ _ _ _ _ _ | exact spec_DrawInSpan.mono _ _ | exact spec_KeyBytes.mono _ _ _ _ _ | exact spec_KeyOk.mono _ _ _ _ _ | exact LeO.refl _ | exact LeO.none _ | refine LeO.ite ?_ ?_ | refine LeO.bind ?_ (fun _ => ?_)
theorem laws_FnSpans.mono : ∀ a0 k, LeO (laws_FnSpans.f k a0) (laws_FnSpans.f (k + 1) a0) := by
 intro a0 k
 obtain ⟨ih0, ih1⟩ := laws_FnSpans.mono_l k
 unfold laws_FnSpans.f
 repeat' with_reducible first | exact ih0 _ _ _ _ _ _ _ _ _ _ _ _ _ | exact ih1 _ _ _ _ _ _ _ _ _ _ _ _ _ | exact impl_InSpan.mono _ _ _ _ _ _ _ _ _ _ _ _ _ | exact laws_sameItem.mono _ _ _ _ _ _ _ _ _ | exact spec_DrawInSpan.mono _ _ | exact spec_KeyBytes.mono _ _ _ _ _ | exact spec_KeyOk.mono _ _ _ _ _ | exact LeO.refl _ | exact LeO.none _ | refine LeO.ite ?_ ?_ | refine LeO.bind ?_ (fun _ => ?_)
def laws_FnSpans.T6 : Bool × List (List Nat × List Nat) := (true, [([], []), ([0], [0]), ([1], [1]), ([], []), ([3, 1], [3]), ([4], [4]), ([2, 5], [2, 5]), ([6, 4], [6]), ([7], [7]), ([8, 7, 7], [7, 8]), ([9, 7], [7, 9]), ([7], [7]), ([11, 9, 7], [7, 11]), ([12, 7], [7, 12]), ([10, 13, 7], [7, 10, 13]), ([7, 14], [7, 14]), ([15, 12, 0, 1, 2, 3, 4, 5, 6, 7, 8, 9, 10, 11, 12, 13, 14, 15], [15])])
def laws_FnSpans.B6 : List Nat := [0, 1, 3, 0, 11, 27, 63, 127, 255, 511, 1023, 255, 3071, 7167, 16383, 32767, 65535]
theorem laws_FnSpans.tab6 : rtab .any (opsOf Try.f7 6) = laws_FnSpans.T6 := by kernel_rfl
theorem laws_FnSpans.bits6 : waitsOk laws_FnSpans.T6.2 laws_FnSpans.B6 = true := by kernel_rfl
def laws_FnSpans.T7 : Bool × List (List Nat × List Nat) := (true, [([], []), ([], []), ([], []), ([0, 1, 2], [0, 1, 2]), ([], []), ([3, 4], [3, 4]), ([5, 3], [5]), ([6], [6]), ([6], [6]), ([6], [6]), ([7, 8, 9, 6, 6], [6, 7, 8, 9]), ([6, 10], [6, 10]), ([11, 10], [11]), ([12], [12]), ([12], [12]), ([12], [12]), ([13, 14, 15, 12, 12], [12, 13, 14, 15]), ([12], [12]), ([12], [12]), ([17, 18, 16, 12], [12, 17, 18]), ([16, 19, 12], [12, 16, 19]), ([12, 20], [12, 20]), ([21, 19, 0, 1, 2, 3, 4, 5, 6, 7, 8, 9, 10, 11, 12, 13, 14, 15, 16, 17, 18, 19, 20, 21], [21])])
def laws_FnSpans.B7 : List Nat := [0, 0, 0, 7, 0, 31, 63, 127, 127, 127, 1023, 2047, 4095, 8191, 8191, 8191, 65535, 8191, 8191, 524287, 1048575, 2097151, 4194303]
theorem laws_FnSpans.tab7 : rtab .any (opsOf Try.f7 7) = laws_FnSpans.T7 := by kernel_rfl
theorem laws_FnSpans.bits7 : waitsOk laws_FnSpans.T7.2 laws_FnSpans.B7 = true := by kernel_rfl
set_option maxHeartbeats 8000000 in
set_option maxRecDepth 100000 in
theorem laws_FnSpans.calls (k : Nat) (A0 : Option Addr) (c0 : Nat) (l0 : List Int) (r : Bool) (w : World) (hr0 : Kd.C (Kd.int .u8) w A0 l0.length l0) (hc0 : l0.length ≤ c0) (h : laws_FnSpans.f k l0 = some r) (hT : r = true := by rfl) :
  Calls Try.prog 7 #[.slice A0 l0.length c0] w fun e w' => e = .returned (.bool r) ∧ Below w.heap.size w w' := by
 have hu28 := Try.underlying28
 have HR0 := Aside0.mk hr0
 have HC0 := Aside0.mk hc0
 clear hr0 hc0
 have HB := Aside0.mk (Below.refl w.heap.size w)
 have H := h
 clear h
 unfold laws_FnSpans.f at H
 replace H := Option.bind_eq_some_iff.mp H
 obtain ⟨t452, A20, H⟩ := H
 (try dsimp only at H)
 have A2 := Aside0.mk A20
 clear A20
 by_cases c3 : t452 = true
 ·subst c3
  rw [if_pos rfl] at H
  (try dsimp only at H)
  obtain rfl := Option.some.inj H
  go_enter Try.func7, Try.ntmps7
  go_wp2_with (first | ((with_reducible refine gate_callee (f := 23) rfl ?_); refine goesL_ (some 8) rfl rfl Try.func23 (by kernel_rfl) rfl #[.slice A0 l0.length c0] rfl (by (try simp only [List.map_toArray, List.map_cons, List.map_nil]); first | done | rfl) ?_; (with_reducible refine (laws_big.calls _ _ l0 true _ ?side1 ?side2 A2.out).mono ?_); (case side1 => repeat (first | exact HR0.out | (with_reducible refine Kd.C_alloc ?_ _) | (with_reducible refine Kd.C_drewN ?_ _) | (with_reducible refine Kd.C_drew ?_))); (case side2 => exact HC0.out); rintro e w' ⟨rfl, ⟨nd, rfl⟩⟩; refine ⟨_, rfl, ?_⟩))
  go_ret
  exact ⟨by first | rfl | (simp [errW_none, errW_some] <;> rfl) | (simp [*, errW_none, errW_some] <;> rfl), by with_reducible repeat (first | exact HB.out | apply h1 | apply h2 | apply h3)⟩
 ·replace c3 := Bool.eq_false_iff.mpr c3
  subst c3
  rw [if_neg (show ¬ (false = true) by decide)] at H
  (try dsimp only at H)
  replace H := Option.bind_eq_some_iff.mp H
  obtain ⟨⟨t453, t454, t455, t456, t459, t460, t461, t462, t465, t466, t467, t468⟩, A40, H⟩ := H
  (try dsimp only at H)
  have A4 := Aside0.mk A40
  clear A40
  have HC5 := Aside0.mk H
  clear H
  go_enter Try.func7, Try.ntmps7
  go_upto_region 4 with (first | ((with_reducible refine gate_callee (f := 23) rfl ?_); refine goesL_ (some 8) rfl rfl Try.func23 (by kernel_rfl) rfl #[.slice A0 l0.length c0] rfl (by (try simp only [List.map_toArray, List.map_cons, List.map_nil]); first | done | rfl) ?_; (with_reducible refine (laws_big.calls _ _ l0 false _ ?side1 ?side2 A2.out).mono ?_); (case side1 => repeat (first | exact HR0.out | (with_reducible refine Kd.C_alloc ?_ _) | (with_reducible refine Kd.C_drewN ?_ _) | (with_reducible refine Kd.C_drew ?_))); (case side2 => exact HC0.out); rintro e w' ⟨rfl, ⟨nd, rfl⟩⟩; refine ⟨_, rfl, ?_⟩) | ((with_reducible refine gate_callee (f := 24) rfl ?_); refine goesL_ (some 11) rfl rfl Try.func24 (by kernel_rfl) rfl #[.slice A0 l0.length c0] rfl (by (try simp only [List.map_toArray, List.map_cons, List.map_nil]); first | done | rfl) ?_; (with_reducible refine (spec_DrawInSpan.callsC k _ _ l0 t453 t454 t455 t456 t459 t460 t461 t462 t465 t466 t467 t468 _ ?side1 ?side2 A4.out).mono ?_); (case side1 => repeat (first | exact HR0.out | (with_reducible refine Kd.C_alloc ?_ _) | (with_reducible refine Kd.C_drewN ?_ _) | (with_reducible refine Kd.C_drew ?_))); (case side2 => exact HC0.out); rintro e w6 ⟨b455, b461, b467, v457, v463, v469, rfl, ho0, ho1, ho2, hb, ⟨⟨hcnb455, hltb455⟩⟩, ⟨⟨hcnb461, hltb461⟩⟩, ⟨⟨hcnb467, hltb467⟩⟩⟩; refine ⟨_, rfl, ?_⟩; have LTb455 := Aside0.mk hltb455; clear hltb455; subst hcnb455; have LTb461 := Aside0.mk hltb461; clear hltb461; subst hcnb461; have LTb467 := Aside0.mk hltb467; clear hltb467; subst hcnb467; have n0_ := Aside0.mk (Kd.R_lower ho0 (below_size (hup HB.out))); have n1_ := Aside0.mk (Kd.R_lower ho1 (below_size (hup HB.out))); have n2_ := Aside0.mk (Kd.R_lower ho2 (below_size (hup HB.out))); have n3_ := Aside0.mk (below_step (hup HB.out) hb); clear HB; have HO458 := n0_; have HO464 := n1_; have HO470 := n2_; have HB := n3_; clear n0_ n1_ n2_ n3_; (try clear hb); (try clear hb2); (try clear hk); (try clear hi); (try clear ho0); (try clear ho1); (try clear ho2)) | ((with_reducible refine gate_dst (N := 3) rfl ?_); refine box_event ?hg (N := 3) ?hd (cs := #[.int .i64 0, .int .i64 0, .float .f64 0, .slice none 0 0]) (t := 28) ?hr ?_; (case hd => rfl); (case hg => rfl); (case hr => first | (go_simp; done) | (go_simp; rfl)); intro gb471 hg w7 hbox hb; have n0_ := Aside0.mk (Kd.R_below (Kd.rup HO458.out) hb); have n1_ := Aside0.mk (Kd.R_below (Kd.rup HO464.out) hb); have n2_ := Aside0.mk (Kd.R_below (Kd.rup HO470.out) hb); have n3_ := Aside0.mk (below_step (hup HB.out) hb); have n4_ := Aside0.mk (hbox); have n5_ := Geq.mk ((by rw [hg]; exact (below_size (hup HB.out)) : w.heap.size ≤ gb471)); have n6_ := Geq.mk ((by rw [hg]; exact (below_size (hup HB.out)) : w.heap.size ≤ gb471)); clear HO458; clear HO464; clear HO470; clear HB; have HO458 := n0_; have HO464 := n1_; have HO470 := n2_; have HB := n3_; have BK471 := n4_; have GW471 := n5_; have GE471 := n6_; clear n0_ n1_ n2_ n3_ n4_ n5_ n6_; clear hb hbox hg) | ((with_reducible refine gate_dst (N := 4) rfl ?_); refine box_event ?hg (N := 4) ?hd (cs := #[.int .i64 0, .int .i64 0, .float .f64 0, .slice none 0 0]) (t := 28) ?hr ?_; (case hd => rfl); (case hg => rfl); (case hr => first | (go_simp; done) | (go_simp; rfl)); intro gb472 hg w8 hbox hb; have n0_ := Aside0.mk (Kd.R_below (Kd.rup HO458.out) hb); have n1_ := Aside0.mk (Kd.R_below (Kd.rup HO464.out) hb); have n2_ := Aside0.mk (Kd.R_below (Kd.rup HO470.out) hb); have n3_ := Aside0.mk (blk_below (bup BK471.out) hb); have n4_ := Aside0.mk (below_step (hset HB.out) hb); have n5_ := Aside0.mk (hbox); have n6_ := Geq.mk ((by rw [hg]; exact (below_size (hset HB.out)) : w.heap.size ≤ gb472)); have n7_ := Geq.mk ((by rw [hg]; exact (below_size (hset HB.out)) : w.heap.size ≤ gb472)); have n8_ := Neq.mk ((by rw [hg]; exact Nat.ne_of_lt (blk_lt (g := gb471) (o := .cells #[.int .i64 0, .int .i64 0, .float .f64 0, .slice none 0 0] 28 (0, 0)) (bup BK471.out)) : gb471 ≠ gb472)); have n9_ := Neq.mk ((by rw [hg]; exact Nat.ne_of_gt (blk_lt (g := gb471) (o := .cells #[.int .i64 0, .int .i64 0, .float .f64 0, .slice none 0 0] 28 (0, 0)) (bup BK471.out)) : gb472 ≠ gb471)); clear HO458; clear HO464; clear HO470; clear BK471; clear HB; have HO458 := n0_; have HO464 := n1_; have HO470 := n2_; have BK471 := n3_; have HB := n4_; have BK472 := n5_; have GW472 := n6_; have GE472 := n7_; have NB471_472 := n8_; have NB472_471 := n9_; clear n0_ n1_ n2_ n3_ n4_ n5_ n6_ n7_ n8_ n9_; clear hb hbox hg) | ((with_reducible refine gate_dst (N := 5) rfl ?_); refine box_event ?hg (N := 5) ?hd (cs := #[.int .i64 0, .int .i64 0, .float .f64 0, .slice none 0 0]) (t := 28) ?hr ?_; (case hd => rfl); (case hg => rfl); (case hr => first | (go_simp; done) | (go_simp; rfl)); intro gb473 hg w9 hbox hb; have n0_ := Aside0.mk (Kd.R_below (Kd.rup HO458.out) hb); have n1_ := Aside0.mk (Kd.R_below (Kd.rup HO464.out) hb); have n2_ := Aside0.mk (Kd.R_below (Kd.rup HO470.out) hb); have n3_ := Aside0.mk (blk_below (bup BK471.out) hb); have n4_ := Aside0.mk (blk_below (bup BK472.out) hb); have n5_ := Aside0.mk (below_step (hset HB.out) hb); have n6_ := Aside0.mk (hbox); have n7_ := Geq.mk ((by rw [hg]; exact (below_size (hset HB.out)) : w.heap.size ≤ gb473)); have n8_ := Geq.mk ((by rw [hg]; exact (below_size (hset HB.out)) : w.heap.size ≤ gb473)); have n9_ := Neq.mk ((by rw [hg]; exact Nat.ne_of_lt (blk_lt (g := gb471) (o := .cells #[.int .i64 0, .int .i64 0, .float .f64 0, .slice none 0 0] 28 (0, 0)) (bup BK471.out)) : gb471 ≠ gb473)); have n10_ := Neq.mk ((by rw [hg]; exact Nat.ne_of_gt (blk_lt (g := gb471) (o := .cells #[.int .i64 0, .int .i64 0, .float .f64 0, .slice none 0 0] 28 (0, 0)) (bup BK471.out)) : gb473 ≠ gb471)); have n11_ := Neq.mk ((by rw [hg]; exact Nat.ne_of_lt (blk_lt (g := gb472) (o := .cells #[.int .i64 0, .int .i64 0, .float .f64 0, .slice none 0 0] 28 (0, 0)) (bup BK472.out)) : gb472 ≠ gb473)); have n12_ := Neq.mk ((by rw [hg]; exact Nat.ne_of_gt (blk_lt (g := gb472) (o := .cells #[.int .i64 0, .int .i64 0, .float .f64 0, .slice none 0 0] 28 (0, 0)) (bup BK472.out)) : gb473 ≠ gb472)); clear HO458; clear HO464; clear HO470; clear BK471; clear BK472; clear HB; have HO458 := n0_; have HO464 := n1_; have HO470 := n2_; have BK471 := n3_; have BK472 := n4_; have HB := n5_; have BK473 := n6_; have GW473 := n7_; have GE473 := n8_; have NB471_473 := n9_; have NB473_471 := n10_; have NB472_473 := n11_; have NB473_472 := n12_; clear n0_ n1_ n2_ n3_ n4_ n5_ n6_ n7_ n8_ n9_ n10_ n11_ n12_; clear hb hbox hg; have hnb10 := NB471_472.out; have hnc10 := NB472_471.out; have hnb11 := NB471_473.out; have hnc11 := NB473_471.out; obtain ⟨hcz12_0, hcz12_1, hcz12_2, hcz12_3⟩ := blk_cells4 BK471.out; obtain ⟨hfz12_0, hfz12_1, hfz12_2, hfz12_3⟩ := blk_frozens4 BK471.out; obtain ⟨Ao13, co13, eo13⟩ := Kd.R_slice HO458.out; subst eo13; have hnb14 := NB472_473.out; have hnc14 := NB473_472.out; obtain ⟨hcz15_0, hcz15_1, hcz15_2, hcz15_3⟩ := blk_cells4 BK472.out; obtain ⟨hfz15_0, hfz15_1, hfz15_2, hfz15_3⟩ := blk_frozens4 BK472.out; obtain ⟨Ao16, co16, eo16⟩ := Kd.R_slice HO464.out; subst eo16; obtain ⟨hcz17_0, hcz17_1, hcz17_2, hcz17_3⟩ := blk_cells4 BK473.out; obtain ⟨hfz17_0, hfz17_1, hfz17_2, hfz17_3⟩ := blk_frozens4 BK473.out; obtain ⟨Ao18, co18, eo18⟩ := Kd.R_slice HO470.out; subst eo18))
  (try simp only [Act.put, List.setIfInBounds_toArray, List.set_cons_zero, List.set_cons_succ])
  go_cut [27] (fun v27 wc => ∃ (kq : Nat) (x27_4 : Bool), v27 = .bool x27_4 ∧ Aside0 (laws_FnSpans.j0 kq x27_4 t453 t454 (cn b455) t456 t459 t460 (cn b461) t462 t465 t466 (cn b467) t468 = some r) ∧ Aside0 (kq ≤ k) ∧ Aside0 (Kd.R (Kd.int .u8) 5 wc w.heap.size (fun k_ => some k_ ≠ ((.slice Ao16 t462.length co16) : Value).ownBlock ∧ some k_ ≠ ((.slice Ao18 t468.length co18) : Value).ownBlock) (.slice Ao13 t456.length co13) t456) ∧ Aside0 (Kd.R (Kd.int .u8) 5 wc w.heap.size (fun k_ => some k_ ≠ ((.slice Ao13 t456.length co13) : Value).ownBlock ∧ some k_ ≠ ((.slice Ao18 t468.length co18) : Value).ownBlock) (.slice Ao16 t462.length co16) t462) ∧ Aside0 (Kd.R (Kd.int .u8) 5 wc w.heap.size (fun k_ => some k_ ≠ ((.slice Ao13 t456.length co13) : Value).ownBlock ∧ some k_ ≠ ((.slice Ao16 t462.length co16) : Value).ownBlock) (.slice Ao18 t468.length co18) t468) ∧ Aside0 (wc.heap[gb471]? = some (.cells #[.int .i64 t453, .int .i64 t454, .float .f64 b455, (.slice Ao13 t456.length co13)] 28 (0, 0))) ∧ Aside0 (wc.heap[gb472]? = some (.cells #[.int .i64 t459, .int .i64 t460, .float .f64 b461, (.slice Ao16 t462.length co16)] 28 (0, 0))) ∧ Aside0 (wc.heap[gb473]? = some (.cells #[.int .i64 t465, .int .i64 t466, .float .f64 b467, (.slice Ao18 t468.length co18)] 28 (0, 0))) ∧ Aside0 (Below w.heap.size w wc))
  case first =>
   have H := HC5.out
   clear HC5
   replace H := Option.bind_eq_some_iff.mp H
   obtain ⟨t474, A190, H⟩ := H
   (try dsimp only at H)
   have A19 := Aside0.mk A190
   clear A190
   by_cases c20 : t474 = true
   ·subst c20
    rw [if_pos rfl] at H
    (try dsimp only at H)
    replace H := Option.bind_eq_some_iff.mp H
    obtain ⟨t475, A210, H⟩ := H
    (try dsimp only at H)
    have A21 := Aside0.mk A210
    clear A210
    by_cases c22 : t475 = true
    ·subst c22
     rw [if_pos rfl] at H
     (try dsimp only at H)
     replace H := Option.bind_eq_some_iff.mp H
     obtain ⟨t476, A230, H⟩ := H
     (try dsimp only at H)
     have A23 := Aside0.mk A230
     clear A230
     have H' := Aside0.mk H
     clear H
     have hnb24 := NB471_472.out
     have hnc24 := NB472_471.out
     have hnb25 := NB471_473.out
     have hnc25 := NB473_471.out
     obtain ⟨hcz26_0, hcz26_1, hcz26_2, hcz26_3⟩ := blk_cells4 BK471.out
     obtain ⟨hfz26_0, hfz26_1, hfz26_2, hfz26_3⟩ := blk_frozens4 BK471.out
     go_wp2_with (first | ((with_reducible refine gate_callee (f := 25) rfl ?_); refine goesL_ (some 16) rfl rfl Try.func25 (by kernel_rfl) rfl #[.agg #[.int .i64 t453, .int .i64 t454, .float .f64 b455, .slice Ao13 t456.length co13]] rfl (by (try simp only [List.map_toArray, List.map_cons, List.map_nil]); first | done | rfl) ?_; (with_reducible refine (spec_KeyOk.calls k t453 t454 b455 _ _ t456 true _ ?side1 ?side2 ((spec_KeyOk.inv0 _ _ _ _ _).symm.trans A19.out)).mono ?_); (case side1 => refine (Kd.R_reads' (e := 5) (base := w.heap.size) (ok := fun k_ => (some k_ ≠ (.slice Ao16 t462.length co16 : Value).ownBlock ∧ some k_ ≠ (.slice Ao18 t468.length co18 : Value).ownBlock)) (n := t456.length) (c := co13) ?_).2.2; exact (by exact Kd.rup (Kd.R_mono (Kd.R_mono (Kd.R_mono (Kd.R_far (p := ⟨gb473, 3, none⟩) (Kd.R_far (p := ⟨gb473, 2, none⟩) (Kd.R_far (p := ⟨gb473, 1, none⟩) (Kd.R_far (p := ⟨gb473, 0, none⟩) (Kd.R_far (p := ⟨gb472, 3, none⟩) (Kd.R_far (p := ⟨gb472, 2, none⟩) (Kd.R_far (p := ⟨gb472, 1, none⟩) (Kd.R_far (p := ⟨gb472, 0, none⟩) (Kd.R_far (p := ⟨gb471, 3, none⟩) (Kd.R_far (p := ⟨gb471, 2, none⟩) (Kd.R_far (p := ⟨gb471, 1, none⟩) (Kd.R_far (p := ⟨gb471, 0, none⟩) (Kd.R_types (Kd.R_types (Kd.R_types HO458.out BK471.out (by decide)) BK472.out (by decide)) BK473.out (by decide)) (fun _ hk => hk.1.1.2) (.int .i64 t453)) (fun _ hk => hk.1.1.2) (.int .i64 t454)) (fun _ hk => hk.1.1.2) (.float .f64 b455)) (fun _ hk => hk.1.1.2) (.slice Ao13 t456.length co13)) (fun _ hk => hk.1.2) (.int .i64 t459)) (fun _ hk => hk.1.2) (.int .i64 t460)) (fun _ hk => hk.1.2) (.float .f64 b461)) (fun _ hk => hk.1.2) (.slice Ao16 t462.length co16)) (fun _ hk => hk.2) (.int .i64 t465)) (fun _ hk => hk.2) (.int .i64 t466)) (fun _ hk => hk.2) (.float .f64 b467)) (fun _ hk => hk.2) (.slice Ao18 t468.length co18)) (fun _ h_ => h_.1)) (fun _ h_ => h_.1)) (fun _ h_ => h_.1)))); (case side2 => exact (Kd.R_reads' HO458.out).2.1); rintro e w27 ⟨rfl, hb⟩; refine ⟨_, rfl, ?_⟩; have n0_ := Aside0.mk (Kd.R_below (by exact Kd.rup (Kd.R_mono (Kd.R_mono (Kd.R_mono (Kd.R_far (p := ⟨gb473, 3, none⟩) (Kd.R_far (p := ⟨gb473, 2, none⟩) (Kd.R_far (p := ⟨gb473, 1, none⟩) (Kd.R_far (p := ⟨gb473, 0, none⟩) (Kd.R_far (p := ⟨gb472, 3, none⟩) (Kd.R_far (p := ⟨gb472, 2, none⟩) (Kd.R_far (p := ⟨gb472, 1, none⟩) (Kd.R_far (p := ⟨gb472, 0, none⟩) (Kd.R_far (p := ⟨gb471, 3, none⟩) (Kd.R_far (p := ⟨gb471, 2, none⟩) (Kd.R_far (p := ⟨gb471, 1, none⟩) (Kd.R_far (p := ⟨gb471, 0, none⟩) (Kd.R_types (Kd.R_types (Kd.R_types HO458.out BK471.out (by decide)) BK472.out (by decide)) BK473.out (by decide)) (fun _ hk => hk.1.1.2) (.int .i64 t453)) (fun _ hk => hk.1.1.2) (.int .i64 t454)) (fun _ hk => hk.1.1.2) (.float .f64 b455)) (fun _ hk => hk.1.1.2) (.slice Ao13 t456.length co13)) (fun _ hk => hk.1.2) (.int .i64 t459)) (fun _ hk => hk.1.2) (.int .i64 t460)) (fun _ hk => hk.1.2) (.float .f64 b461)) (fun _ hk => hk.1.2) (.slice Ao16 t462.length co16)) (fun _ hk => hk.2) (.int .i64 t465)) (fun _ hk => hk.2) (.int .i64 t466)) (fun _ hk => hk.2) (.float .f64 b467)) (fun _ hk => hk.2) (.slice Ao18 t468.length co18)) (fun _ h_ => h_.1)) (fun _ h_ => h_.1)) (fun _ h_ => h_.1))) hb); have n1_ := Aside0.mk (Kd.R_below (by exact Kd.rup (Kd.R_mono (Kd.R_mono (Kd.R_mono (Kd.R_far (p := ⟨gb473, 3, none⟩) (Kd.R_far (p := ⟨gb473, 2, none⟩) (Kd.R_far (p := ⟨gb473, 1, none⟩) (Kd.R_far (p := ⟨gb473, 0, none⟩) (Kd.R_far (p := ⟨gb472, 3, none⟩) (Kd.R_far (p := ⟨gb472, 2, none⟩) (Kd.R_far (p := ⟨gb472, 1, none⟩) (Kd.R_far (p := ⟨gb472, 0, none⟩) (Kd.R_far (p := ⟨gb471, 3, none⟩) (Kd.R_far (p := ⟨gb471, 2, none⟩) (Kd.R_far (p := ⟨gb471, 1, none⟩) (Kd.R_far (p := ⟨gb471, 0, none⟩) (Kd.R_types (Kd.R_types (Kd.R_types HO464.out BK471.out (by decide)) BK472.out (by decide)) BK473.out (by decide)) (fun _ hk => hk.1.1.2) (.int .i64 t453)) (fun _ hk => hk.1.1.2) (.int .i64 t454)) (fun _ hk => hk.1.1.2) (.float .f64 b455)) (fun _ hk => hk.1.1.2) (.slice Ao13 t456.length co13)) (fun _ hk => hk.1.2) (.int .i64 t459)) (fun _ hk => hk.1.2) (.int .i64 t460)) (fun _ hk => hk.1.2) (.float .f64 b461)) (fun _ hk => hk.1.2) (.slice Ao16 t462.length co16)) (fun _ hk => hk.2) (.int .i64 t465)) (fun _ hk => hk.2) (.int .i64 t466)) (fun _ hk => hk.2) (.float .f64 b467)) (fun _ hk => hk.2) (.slice Ao18 t468.length co18)) (fun _ h_ => h_.1)) (fun _ h_ => h_.1)) (fun _ h_ => h_.1))) hb); have n2_ := Aside0.mk (Kd.R_below (by exact Kd.rup (Kd.R_mono (Kd.R_mono (Kd.R_mono (Kd.R_far (p := ⟨gb473, 3, none⟩) (Kd.R_far (p := ⟨gb473, 2, none⟩) (Kd.R_far (p := ⟨gb473, 1, none⟩) (Kd.R_far (p := ⟨gb473, 0, none⟩) (Kd.R_far (p := ⟨gb472, 3, none⟩) (Kd.R_far (p := ⟨gb472, 2, none⟩) (Kd.R_far (p := ⟨gb472, 1, none⟩) (Kd.R_far (p := ⟨gb472, 0, none⟩) (Kd.R_far (p := ⟨gb471, 3, none⟩) (Kd.R_far (p := ⟨gb471, 2, none⟩) (Kd.R_far (p := ⟨gb471, 1, none⟩) (Kd.R_far (p := ⟨gb471, 0, none⟩) (Kd.R_types (Kd.R_types (Kd.R_types HO470.out BK471.out (by decide)) BK472.out (by decide)) BK473.out (by decide)) (fun _ hk => hk.1.1.2) (.int .i64 t453)) (fun _ hk => hk.1.1.2) (.int .i64 t454)) (fun _ hk => hk.1.1.2) (.float .f64 b455)) (fun _ hk => hk.1.1.2) (.slice Ao13 t456.length co13)) (fun _ hk => hk.1.2) (.int .i64 t459)) (fun _ hk => hk.1.2) (.int .i64 t460)) (fun _ hk => hk.1.2) (.float .f64 b461)) (fun _ hk => hk.1.2) (.slice Ao16 t462.length co16)) (fun _ hk => hk.2) (.int .i64 t465)) (fun _ hk => hk.2) (.int .i64 t466)) (fun _ hk => hk.2) (.float .f64 b467)) (fun _ hk => hk.2) (.slice Ao18 t468.length co18)) (fun _ h_ => h_.1)) (fun _ h_ => h_.1)) (fun _ h_ => h_.1))) hb); have n3_ := Aside0.mk (blk_below (g := gb471) (o := .cells #[.int .i64 t453, .int .i64 t454, .float .f64 b455, .slice Ao13 t456.length co13] 28 (0, 0)) (bput BK471.out) hb); have n4_ := Aside0.mk (blk_below (g := gb472) (o := .cells #[.int .i64 t459, .int .i64 t460, .float .f64 b461, .slice Ao16 t462.length co16] 28 (0, 0)) (bput BK472.out) hb); have n5_ := Aside0.mk (blk_below (g := gb473) (o := .cells #[.int .i64 t465, .int .i64 t466, .float .f64 b467, .slice Ao18 t468.length co18] 28 (0, 0)) (bput BK473.out) hb); have n6_ := Aside0.mk (below_step (hset HB.out) hb); clear HO458; clear HO464; clear HO470; clear BK471; clear BK472; clear BK473; clear HB; have HO458 := n0_; have HO464 := n1_; have HO470 := n2_; have BK471 := n3_; have BK472 := n4_; have BK473 := n5_; have HB := n6_; clear n0_ n1_ n2_ n3_ n4_ n5_ n6_; (try clear hb); (try clear hb2); (try clear hk); (try clear hi); have hnb28 := NB472_473.out; have hnc28 := NB473_472.out; obtain ⟨hcz29_0, hcz29_1, hcz29_2, hcz29_3⟩ := blk_cells4 BK472.out; obtain ⟨hfz29_0, hfz29_1, hfz29_2, hfz29_3⟩ := blk_frozens4 BK472.out) | (go_at_call 25; (with_reducible refine (spec_KeyOk.calls k t459 t460 b461 _ _ t462 true _ ?side1 ?side2 ((spec_KeyOk.inv0 _ _ _ _ _).symm.trans A21.out)).mono ?_); (case side1 => repeat (first | exact (Kd.R_reads' HO464.out).2.2 | (with_reducible refine Kd.C_alloc ?_ _) | (with_reducible refine Kd.C_drewN ?_ _) | (with_reducible refine Kd.C_drew ?_))); (case side2 => exact (Kd.R_reads' HO464.out).2.1); rintro e w30 ⟨rfl, hb⟩; have n0_ := Aside0.mk (Kd.R_below (Kd.rup HO458.out) hb); have n1_ := Aside0.mk (Kd.R_below (Kd.rup HO464.out) hb); have n2_ := Aside0.mk (Kd.R_below (Kd.rup HO470.out) hb); have n3_ := Aside0.mk (blk_below (bup BK471.out) hb); have n4_ := Aside0.mk (blk_below (bup BK472.out) hb); have n5_ := Aside0.mk (blk_below (bup BK473.out) hb); have n6_ := Aside0.mk (below_step (hset HB.out) hb); clear HO458; clear HO464; clear HO470; clear BK471; clear BK472; clear BK473; clear HB; have HO458 := n0_; have HO464 := n1_; have HO470 := n2_; have BK471 := n3_; have BK472 := n4_; have BK473 := n5_; have HB := n6_; clear n0_ n1_ n2_ n3_ n4_ n5_ n6_; (try clear hb); (try clear hb2); (try clear hk); (try clear hi); obtain ⟨hcz31_0, hcz31_1, hcz31_2, hcz31_3⟩ := blk_cells4 BK473.out; obtain ⟨hfz31_0, hfz31_1, hfz31_2, hfz31_3⟩ := blk_frozens4 BK473.out) | (go_at_call 25; (with_reducible refine (spec_KeyOk.calls k t465 t466 b467 _ _ t468 t476 _ ?side1 ?side2 ((spec_KeyOk.inv0 _ _ _ _ _).symm.trans A23.out)).mono ?_); (case side1 => repeat (first | exact (Kd.R_reads' HO470.out).2.2 | (with_reducible refine Kd.C_alloc ?_ _) | (with_reducible refine Kd.C_drewN ?_ _) | (with_reducible refine Kd.C_drew ?_))); (case side2 => exact (Kd.R_reads' HO470.out).2.1); rintro e w32 ⟨rfl, hb⟩; have n0_ := Aside0.mk (Kd.R_below (Kd.rup HO458.out) hb); have n1_ := Aside0.mk (Kd.R_below (Kd.rup HO464.out) hb); have n2_ := Aside0.mk (Kd.R_below (Kd.rup HO470.out) hb); have n3_ := Aside0.mk (blk_below (bup BK471.out) hb); have n4_ := Aside0.mk (blk_below (bup BK472.out) hb); have n5_ := Aside0.mk (blk_below (bup BK473.out) hb); have n6_ := Aside0.mk (below_step (hset HB.out) hb); clear HO458; clear HO464; clear HO470; clear BK471; clear BK472; clear BK473; clear HB; have HO458 := n0_; have HO464 := n1_; have HO470 := n2_; have BK471 := n3_; have BK472 := n4_; have BK473 := n5_; have HB := n6_; clear n0_ n1_ n2_ n3_ n4_ n5_ n6_; (try clear hb); (try clear hb2); (try clear hk); (try clear hi)))
     go_meet
     case rel => exact ⟨_, (!t476), (by first | rfl | (simp; done) | (simp [*]; done) | (exfalso; simp_all; done)), H', ⟨by first | omega | exact Nat.le_refl _⟩, ⟨by exact Kd.rup HO458.out⟩, ⟨by exact Kd.rup HO464.out⟩, ⟨by exact Kd.rup HO470.out⟩, ⟨by exact bup BK471.out⟩, ⟨by exact bup BK472.out⟩, ⟨by exact bup BK473.out⟩, ⟨hset HB.out⟩⟩
    ·replace c22 := Bool.eq_false_iff.mpr c22
     subst c22
     rw [if_neg (show ¬ (false = true) by decide)] at H
     (try dsimp only at H)
     have H' := Aside0.mk H
     clear H
     have hnb33 := NB471_472.out
     have hnc33 := NB472_471.out
     have hnb34 := NB471_473.out
     have hnc34 := NB473_471.out
     obtain ⟨hcz35_0, hcz35_1, hcz35_2, hcz35_3⟩ := blk_cells4 BK471.out
     obtain ⟨hfz35_0, hfz35_1, hfz35_2, hfz35_3⟩ := blk_frozens4 BK471.out
     go_wp2_with (first | ((with_reducible refine gate_callee (f := 25) rfl ?_); refine goesL_ (some 16) rfl rfl Try.func25 (by kernel_rfl) rfl #[.agg #[.int .i64 t453, .int .i64 t454, .float .f64 b455, .slice Ao13 t456.length co13]] rfl (by (try simp only [List.map_toArray, List.map_cons, List.map_nil]); first | done | rfl) ?_; (with_reducible refine (spec_KeyOk.calls k t453 t454 b455 _ _ t456 true _ ?side1 ?side2 ((spec_KeyOk.inv0 _ _ _ _ _).symm.trans A19.out)).mono ?_); (case side1 => refine (Kd.R_reads' (e := 5) (base := w.heap.size) (ok := fun k_ => (some k_ ≠ (.slice Ao16 t462.length co16 : Value).ownBlock ∧ some k_ ≠ (.slice Ao18 t468.length co18 : Value).ownBlock)) (n := t456.length) (c := co13) ?_).2.2; exact (by exact Kd.rup (Kd.R_mono (Kd.R_mono (Kd.R_mono (Kd.R_far (p := ⟨gb473, 3, none⟩) (Kd.R_far (p := ⟨gb473, 2, none⟩) (Kd.R_far (p := ⟨gb473, 1, none⟩) (Kd.R_far (p := ⟨gb473, 0, none⟩) (Kd.R_far (p := ⟨gb472, 3, none⟩) (Kd.R_far (p := ⟨gb472, 2, none⟩) (Kd.R_far (p := ⟨gb472, 1, none⟩) (Kd.R_far (p := ⟨gb472, 0, none⟩) (Kd.R_far (p := ⟨gb471, 3, none⟩) (Kd.R_far (p := ⟨gb471, 2, none⟩) (Kd.R_far (p := ⟨gb471, 1, none⟩) (Kd.R_far (p := ⟨gb471, 0, none⟩) (Kd.R_types (Kd.R_types (Kd.R_types HO458.out BK471.out (by decide)) BK472.out (by decide)) BK473.out (by decide)) (fun _ hk => hk.1.1.2) (.int .i64 t453)) (fun _ hk => hk.1.1.2) (.int .i64 t454)) (fun _ hk => hk.1.1.2) (.float .f64 b455)) (fun _ hk => hk.1.1.2) (.slice Ao13 t456.length co13)) (fun _ hk => hk.1.2) (.int .i64 t459)) (fun _ hk => hk.1.2) (.int .i64 t460)) (fun _ hk => hk.1.2) (.float .f64 b461)) (fun _ hk => hk.1.2) (.slice Ao16 t462.length co16)) (fun _ hk => hk.2) (.int .i64 t465)) (fun _ hk => hk.2) (.int .i64 t466)) (fun _ hk => hk.2) (.float .f64 b467)) (fun _ hk => hk.2) (.slice Ao18 t468.length co18)) (fun _ h_ => h_.1)) (fun _ h_ => h_.1)) (fun _ h_ => h_.1)))); (case side2 => exact (Kd.R_reads' HO458.out).2.1); rintro e w36 ⟨rfl, hb⟩; refine ⟨_, rfl, ?_⟩; have n0_ := Aside0.mk (Kd.R_below (by exact Kd.rup (Kd.R_mono (Kd.R_mono (Kd.R_mono (Kd.R_far (p := ⟨gb473, 3, none⟩) (Kd.R_far (p := ⟨gb473, 2, none⟩) (Kd.R_far (p := ⟨gb473, 1, none⟩) (Kd.R_far (p := ⟨gb473, 0, none⟩) (Kd.R_far (p := ⟨gb472, 3, none⟩) (Kd.R_far (p := ⟨gb472, 2, none⟩) (Kd.R_far (p := ⟨gb472, 1, none⟩) (Kd.R_far (p := ⟨gb472, 0, none⟩) (Kd.R_far (p := ⟨gb471, 3, none⟩) (Kd.R_far (p := ⟨gb471, 2, none⟩) (Kd.R_far (p := ⟨gb471, 1, none⟩) (Kd.R_far (p := ⟨gb471, 0, none⟩) (Kd.R_types (Kd.R_types (Kd.R_types HO458.out BK471.out (by decide)) BK472.out (by decide)) BK473.out (by decide)) (fun _ hk => hk.1.1.2) (.int .i64 t453)) (fun _ hk => hk.1.1.2) (.int .i64 t454)) (fun _ hk => hk.1.1.2) (.float .f64 b455)) (fun _ hk => hk.1.1.2) (.slice Ao13 t456.length co13)) (fun _ hk => hk.1.2) (.int .i64 t459)) (fun _ hk => hk.1.2) (.int .i64 t460)) (fun _ hk => hk.1.2) (.float .f64 b461)) (fun _ hk => hk.1.2) (.slice Ao16 t462.length co16)) (fun _ hk => hk.2) (.int .i64 t465)) (fun _ hk => hk.2) (.int .i64 t466)) (fun _ hk => hk.2) (.float .f64 b467)) (fun _ hk => hk.2) (.slice Ao18 t468.length co18)) (fun _ h_ => h_.1)) (fun _ h_ => h_.1)) (fun _ h_ => h_.1))) hb); have n1_ := Aside0.mk (Kd.R_below (by exact Kd.rup (Kd.R_mono (Kd.R_mono (Kd.R_mono (Kd.R_far (p := ⟨gb473, 3, none⟩) (Kd.R_far (p := ⟨gb473, 2, none⟩) (Kd.R_far (p := ⟨gb473, 1, none⟩) (Kd.R_far (p := ⟨gb473, 0, none⟩) (Kd.R_far (p := ⟨gb472, 3, none⟩) (Kd.R_far (p := ⟨gb472, 2, none⟩) (Kd.R_far (p := ⟨gb472, 1, none⟩) (Kd.R_far (p := ⟨gb472, 0, none⟩) (Kd.R_far (p := ⟨gb471, 3, none⟩) (Kd.R_far (p := ⟨gb471, 2, none⟩) (Kd.R_far (p := ⟨gb471, 1, none⟩) (Kd.R_far (p := ⟨gb471, 0, none⟩) (Kd.R_types (Kd.R_types (Kd.R_types HO464.out BK471.out (by decide)) BK472.out (by decide)) BK473.out (by decide)) (fun _ hk => hk.1.1.2) (.int .i64 t453)) (fun _ hk => hk.1.1.2) (.int .i64 t454)) (fun _ hk => hk.1.1.2) (.float .f64 b455)) (fun _ hk => hk.1.1.2) (.slice Ao13 t456.length co13)) (fun _ hk => hk.1.2) (.int .i64 t459)) (fun _ hk => hk.1.2) (.int .i64 t460)) (fun _ hk => hk.1.2) (.float .f64 b461)) (fun _ hk => hk.1.2) (.slice Ao16 t462.length co16)) (fun _ hk => hk.2) (.int .i64 t465)) (fun _ hk => hk.2) (.int .i64 t466)) (fun _ hk => hk.2) (.float .f64 b467)) (fun _ hk => hk.2) (.slice Ao18 t468.length co18)) (fun _ h_ => h_.1)) (fun _ h_ => h_.1)) (fun _ h_ => h_.1))) hb); have n2_ := Aside0.mk (Kd.R_below (by exact Kd.rup (Kd.R_mono (Kd.R_mono (Kd.R_mono (Kd.R_far (p := ⟨gb473, 3, none⟩) (Kd.R_far (p := ⟨gb473, 2, none⟩) (Kd.R_far (p := ⟨gb473, 1, none⟩) (Kd.R_far (p := ⟨gb473, 0, none⟩) (Kd.R_far (p := ⟨gb472, 3, none⟩) (Kd.R_far (p := ⟨gb472, 2, none⟩) (Kd.R_far (p := ⟨gb472, 1, none⟩) (Kd.R_far (p := ⟨gb472, 0, none⟩) (Kd.R_far (p := ⟨gb471, 3, none⟩) (Kd.R_far (p := ⟨gb471, 2, none⟩) (Kd.R_far (p := ⟨gb471, 1, none⟩) (Kd.R_far (p := ⟨gb471, 0, none⟩) (Kd.R_types (Kd.R_types (Kd.R_types HO470.out BK471.out (by decide)) BK472.out (by decide)) BK473.out (by decide)) (fun _ hk => hk.1.1.2) (.int .i64 t453)) (fun _ hk => hk.1.1.2) (.int .i64 t454)) (fun _ hk => hk.1.1.2) (.float .f64 b455)) (fun _ hk => hk.1.1.2) (.slice Ao13 t456.length co13)) (fun _ hk => hk.1.2) (.int .i64 t459)) (fun _ hk => hk.1.2) (.int .i64 t460)) (fun _ hk => hk.1.2) (.float .f64 b461)) (fun _ hk => hk.1.2) (.slice Ao16 t462.length co16)) (fun _ hk => hk.2) (.int .i64 t465)) (fun _ hk => hk.2) (.int .i64 t466)) (fun _ hk => hk.2) (.float .f64 b467)) (fun _ hk => hk.2) (.slice Ao18 t468.length co18)) (fun _ h_ => h_.1)) (fun _ h_ => h_.1)) (fun _ h_ => h_.1))) hb); have n3_ := Aside0.mk (blk_below (g := gb471) (o := .cells #[.int .i64 t453, .int .i64 t454, .float .f64 b455, .slice Ao13 t456.length co13] 28 (0, 0)) (bput BK471.out) hb); have n4_ := Aside0.mk (blk_below (g := gb472) (o := .cells #[.int .i64 t459, .int .i64 t460, .float .f64 b461, .slice Ao16 t462.length co16] 28 (0, 0)) (bput BK472.out) hb); have n5_ := Aside0.mk (blk_below (g := gb473) (o := .cells #[.int .i64 t465, .int .i64 t466, .float .f64 b467, .slice Ao18 t468.length co18] 28 (0, 0)) (bput BK473.out) hb); have n6_ := Aside0.mk (below_step (hset HB.out) hb); clear HO458; clear HO464; clear HO470; clear BK471; clear BK472; clear BK473; clear HB; have HO458 := n0_; have HO464 := n1_; have HO470 := n2_; have BK471 := n3_; have BK472 := n4_; have BK473 := n5_; have HB := n6_; clear n0_ n1_ n2_ n3_ n4_ n5_ n6_; (try clear hb); (try clear hb2); (try clear hk); (try clear hi); have hnb37 := NB472_473.out; have hnc37 := NB473_472.out; obtain ⟨hcz38_0, hcz38_1, hcz38_2, hcz38_3⟩ := blk_cells4 BK472.out; obtain ⟨hfz38_0, hfz38_1, hfz38_2, hfz38_3⟩ := blk_frozens4 BK472.out) | (go_at_call 25; (with_reducible refine (spec_KeyOk.calls k t459 t460 b461 _ _ t462 false _ ?side1 ?side2 ((spec_KeyOk.inv0 _ _ _ _ _).symm.trans A21.out)).mono ?_); (case side1 => repeat (first | exact (Kd.R_reads' HO464.out).2.2 | (with_reducible refine Kd.C_alloc ?_ _) | (with_reducible refine Kd.C_drewN ?_ _) | (with_reducible refine Kd.C_drew ?_))); (case side2 => exact (Kd.R_reads' HO464.out).2.1); rintro e w39 ⟨rfl, hb⟩; have n0_ := Aside0.mk (Kd.R_below (Kd.rup HO458.out) hb); have n1_ := Aside0.mk (Kd.R_below (Kd.rup HO464.out) hb); have n2_ := Aside0.mk (Kd.R_below (Kd.rup HO470.out) hb); have n3_ := Aside0.mk (blk_below (bup BK471.out) hb); have n4_ := Aside0.mk (blk_below (bup BK472.out) hb); have n5_ := Aside0.mk (blk_below (bup BK473.out) hb); have n6_ := Aside0.mk (below_step (hset HB.out) hb); clear HO458; clear HO464; clear HO470; clear BK471; clear BK472; clear BK473; clear HB; have HO458 := n0_; have HO464 := n1_; have HO470 := n2_; have BK471 := n3_; have BK472 := n4_; have BK473 := n5_; have HB := n6_; clear n0_ n1_ n2_ n3_ n4_ n5_ n6_; (try clear hb); (try clear hb2); (try clear hk); (try clear hi)))
     go_meet
     case rel => exact ⟨_, (true), (by first | rfl | (simp; done) | (simp [*]; done) | (exfalso; simp_all; done)), H', ⟨by first | omega | exact Nat.le_refl _⟩, ⟨by exact Kd.rup HO458.out⟩, ⟨by exact Kd.rup HO464.out⟩, ⟨by exact Kd.rup HO470.out⟩, ⟨by exact bup BK471.out⟩, ⟨by exact bup BK472.out⟩, ⟨by exact bup BK473.out⟩, ⟨hset HB.out⟩⟩
   ·replace c20 := Bool.eq_false_iff.mpr c20
    subst c20
    rw [if_neg (show ¬ (false = true) by decide)] at H
    (try dsimp only at H)
    have H' := Aside0.mk H
    clear H
    have hnb40 := NB471_472.out
    have hnc40 := NB472_471.out
    have hnb41 := NB471_473.out
    have hnc41 := NB473_471.out
    obtain ⟨hcz42_0, hcz42_1, hcz42_2, hcz42_3⟩ := blk_cells4 BK471.out
    obtain ⟨hfz42_0, hfz42_1, hfz42_2, hfz42_3⟩ := blk_frozens4 BK471.out
    go_wp2_with (first | ((with_reducible refine gate_callee (f := 25) rfl ?_); refine goesL_ (some 16) rfl rfl Try.func25 (by kernel_rfl) rfl #[.agg #[.int .i64 t453, .int .i64 t454, .float .f64 b455, .slice Ao13 t456.length co13]] rfl (by (try simp only [List.map_toArray, List.map_cons, List.map_nil]); first | done | rfl) ?_; (with_reducible refine (spec_KeyOk.calls k t453 t454 b455 _ _ t456 false _ ?side1 ?side2 ((spec_KeyOk.inv0 _ _ _ _ _).symm.trans A19.out)).mono ?_); (case side1 => refine (Kd.R_reads' (e := 5) (base := w.heap.size) (ok := fun k_ => (some k_ ≠ (.slice Ao16 t462.length co16 : Value).ownBlock ∧ some k_ ≠ (.slice Ao18 t468.length co18 : Value).ownBlock)) (n := t456.length) (c := co13) ?_).2.2; exact (by exact Kd.rup (Kd.R_mono (Kd.R_mono (Kd.R_mono (Kd.R_far (p := ⟨gb473, 3, none⟩) (Kd.R_far (p := ⟨gb473, 2, none⟩) (Kd.R_far (p := ⟨gb473, 1, none⟩) (Kd.R_far (p := ⟨gb473, 0, none⟩) (Kd.R_far (p := ⟨gb472, 3, none⟩) (Kd.R_far (p := ⟨gb472, 2, none⟩) (Kd.R_far (p := ⟨gb472, 1, none⟩) (Kd.R_far (p := ⟨gb472, 0, none⟩) (Kd.R_far (p := ⟨gb471, 3, none⟩) (Kd.R_far (p := ⟨gb471, 2, none⟩) (Kd.R_far (p := ⟨gb471, 1, none⟩) (Kd.R_far (p := ⟨gb471, 0, none⟩) (Kd.R_types (Kd.R_types (Kd.R_types HO458.out BK471.out (by decide)) BK472.out (by decide)) BK473.out (by decide)) (fun _ hk => hk.1.1.2) (.int .i64 t453)) (fun _ hk => hk.1.1.2) (.int .i64 t454)) (fun _ hk => hk.1.1.2) (.float .f64 b455)) (fun _ hk => hk.1.1.2) (.slice Ao13 t456.length co13)) (fun _ hk => hk.1.2) (.int .i64 t459)) (fun _ hk => hk.1.2) (.int .i64 t460)) (fun _ hk => hk.1.2) (.float .f64 b461)) (fun _ hk => hk.1.2) (.slice Ao16 t462.length co16)) (fun _ hk => hk.2) (.int .i64 t465)) (fun _ hk => hk.2) (.int .i64 t466)) (fun _ hk => hk.2) (.float .f64 b467)) (fun _ hk => hk.2) (.slice Ao18 t468.length co18)) (fun _ h_ => h_.1)) (fun _ h_ => h_.1)) (fun _ h_ => h_.1)))); (case side2 => exact (Kd.R_reads' HO458.out).2.1); rintro e w43 ⟨rfl, hb⟩; refine ⟨_, rfl, ?_⟩; have n0_ := Aside0.mk (Kd.R_below (by exact Kd.rup (Kd.R_mono (Kd.R_mono (Kd.R_mono (Kd.R_far (p := ⟨gb473, 3, none⟩) (Kd.R_far (p := ⟨gb473, 2, none⟩) (Kd.R_far (p := ⟨gb473, 1, none⟩) (Kd.R_far (p := ⟨gb473, 0, none⟩) (Kd.R_far (p := ⟨gb472, 3, none⟩) (Kd.R_far (p := ⟨gb472, 2, none⟩) (Kd.R_far (p := ⟨gb472, 1, none⟩) (Kd.R_far (p := ⟨gb472, 0, none⟩) (Kd.R_far (p := ⟨gb471, 3, none⟩) (Kd.R_far (p := ⟨gb471, 2, none⟩) (Kd.R_far (p := ⟨gb471, 1, none⟩) (Kd.R_far (p := ⟨gb471, 0, none⟩) (Kd.R_types (Kd.R_types (Kd.R_types HO458.out BK471.out (by decide)) BK472.out (by decide)) BK473.out (by decide)) (fun _ hk => hk.1.1.2) (.int .i64 t453)) (fun _ hk => hk.1.1.2) (.int .i64 t454)) (fun _ hk => hk.1.1.2) (.float .f64 b455)) (fun _ hk => hk.1.1.2) (.slice Ao13 t456.length co13)) (fun _ hk => hk.1.2) (.int .i64 t459)) (fun _ hk => hk.1.2) (.int .i64 t460)) (fun _ hk => hk.1.2) (.float .f64 b461)) (fun _ hk => hk.1.2) (.slice Ao16 t462.length co16)) (fun _ hk => hk.2) (.int .i64 t465)) (fun _ hk => hk.2) (.int .i64 t466)) (fun _ hk => hk.2) (.float .f64 b467)) (fun _ hk => hk.2) (.slice Ao18 t468.length co18)) (fun _ h_ => h_.1)) (fun _ h_ => h_.1)) (fun _ h_ => h_.1))) hb); have n1_ := Aside0.mk (Kd.R_below (by exact Kd.rup (Kd.R_mono (Kd.R_mono (Kd.R_mono (Kd.R_far (p := ⟨gb473, 3, none⟩) (Kd.R_far (p := ⟨gb473, 2, none⟩) (Kd.R_far (p := ⟨gb473, 1, none⟩) (Kd.R_far (p := ⟨gb473, 0, none⟩) (Kd.R_far (p := ⟨gb472, 3, none⟩) (Kd.R_far (p := ⟨gb472, 2, none⟩) (Kd.R_far (p := ⟨gb472, 1, none⟩) (Kd.R_far (p := ⟨gb472, 0, none⟩) (Kd.R_far (p := ⟨gb471, 3, none⟩) (Kd.R_far (p := ⟨gb471, 2, none⟩) (Kd.R_far (p := ⟨gb471, 1, none⟩) (Kd.R_far (p := ⟨gb471, 0, none⟩) (Kd.R_types (Kd.R_types (Kd.R_types HO464.out BK471.out (by decide)) BK472.out (by decide)) BK473.out (by decide)) (fun _ hk => hk.1.1.2) (.int .i64 t453)) (fun _ hk => hk.1.1.2) (.int .i64 t454)) (fun _ hk => hk.1.1.2) (.float .f64 b455)) (fun _ hk => hk.1.1.2) (.slice Ao13 t456.length co13)) (fun _ hk => hk.1.2) (.int .i64 t459)) (fun _ hk => hk.1.2) (.int .i64 t460)) (fun _ hk => hk.1.2) (.float .f64 b461)) (fun _ hk => hk.1.2) (.slice Ao16 t462.length co16)) (fun _ hk => hk.2) (.int .i64 t465)) (fun _ hk => hk.2) (.int .i64 t466)) (fun _ hk => hk.2) (.float .f64 b467)) (fun _ hk => hk.2) (.slice Ao18 t468.length co18)) (fun _ h_ => h_.1)) (fun _ h_ => h_.1)) (fun _ h_ => h_.1))) hb); have n2_ := Aside0.mk (Kd.R_below (by exact Kd.rup (Kd.R_mono (Kd.R_mono (Kd.R_mono (Kd.R_far (p := ⟨gb473, 3, none⟩) (Kd.R_far (p := ⟨gb473, 2, none⟩) (Kd.R_far (p := ⟨gb473, 1, none⟩) (Kd.R_far (p := ⟨gb473, 0, none⟩) (Kd.R_far (p := ⟨gb472, 3, none⟩) (Kd.R_far (p := ⟨gb472, 2, none⟩) (Kd.R_far (p := ⟨gb472, 1, none⟩) (Kd.R_far (p := ⟨gb472, 0, none⟩) (Kd.R_far (p := ⟨gb471, 3, none⟩) (Kd.R_far (p := ⟨gb471, 2, none⟩) (Kd.R_far (p := ⟨gb471, 1, none⟩) (Kd.R_far (p := ⟨gb471, 0, none⟩) (Kd.R_types (Kd.R_types (Kd.R_types HO470.out BK471.out (by decide)) BK472.out (by decide)) BK473.out (by decide)) (fun _ hk => hk.1.1.2) (.int .i64 t453)) (fun _ hk => hk.1.1.2) (.int .i64 t454)) (fun _ hk => hk.1.1.2) (.float .f64 b455)) (fun _ hk => hk.1.1.2) (.slice Ao13 t456.length co13)) (fun _ hk => hk.1.2) (.int .i64 t459)) (fun _ hk => hk.1.2) (.int .i64 t460)) (fun _ hk => hk.1.2) (.float .f64 b461)) (fun _ hk => hk.1.2) (.slice Ao16 t462.length co16)) (fun _ hk => hk.2) (.int .i64 t465)) (fun _ hk => hk.2) (.int .i64 t466)) (fun _ hk => hk.2) (.float .f64 b467)) (fun _ hk => hk.2) (.slice Ao18 t468.length co18)) (fun _ h_ => h_.1)) (fun _ h_ => h_.1)) (fun _ h_ => h_.1))) hb); have n3_ := Aside0.mk (blk_below (g := gb471) (o := .cells #[.int .i64 t453, .int .i64 t454, .float .f64 b455, .slice Ao13 t456.length co13] 28 (0, 0)) (bput BK471.out) hb); have n4_ := Aside0.mk (blk_below (g := gb472) (o := .cells #[.int .i64 t459, .int .i64 t460, .float .f64 b461, .slice Ao16 t462.length co16] 28 (0, 0)) (bput BK472.out) hb); have n5_ := Aside0.mk (blk_below (g := gb473) (o := .cells #[.int .i64 t465, .int .i64 t466, .float .f64 b467, .slice Ao18 t468.length co18] 28 (0, 0)) (bput BK473.out) hb); have n6_ := Aside0.mk (below_step (hset HB.out) hb); clear HO458; clear HO464; clear HO470; clear BK471; clear BK472; clear BK473; clear HB; have HO458 := n0_; have HO464 := n1_; have HO470 := n2_; have BK471 := n3_; have BK472 := n4_; have BK473 := n5_; have HB := n6_; clear n0_ n1_ n2_ n3_ n4_ n5_ n6_; (try clear hb); (try clear hb2); (try clear hk); (try clear hi)))
    go_meet
    case rel => exact ⟨_, (true), (by first | rfl | (simp; done) | (simp [*]; done) | (exfalso; simp_all; done)), H', ⟨by first | omega | exact Nat.le_refl _⟩, ⟨by exact Kd.rup HO458.out⟩, ⟨by exact Kd.rup HO464.out⟩, ⟨by exact Kd.rup HO470.out⟩, ⟨by exact bup BK471.out⟩, ⟨by exact bup BK472.out⟩, ⟨by exact bup BK473.out⟩, ⟨hset HB.out⟩⟩
  case rest =>
   clear HC5
   try clear c1
   try clear c2
   try clear p2
   try clear c3
   try clear c4
   try clear c7
   try clear c10
   try clear c11
   try clear c14
   try clear c20
   try clear c22
   try clear c23
   try clear c24
   try clear c25
   try clear c28
   try clear c33
   try clear c34
   try clear c37
   try clear c40
   try clear c41
   try clear hcz12_0
   try clear hcz12_1
   try clear hcz12_2
   try clear hcz12_3
   try clear hcz15_0
   try clear hcz15_1
   try clear hcz15_2
   try clear hcz15_3
   try clear hcz17_0
   try clear hcz17_1
   try clear hcz17_2
   try clear hcz17_3
   try clear hcz26_0
   try clear hcz26_1
   try clear hcz26_2
   try clear hcz26_3
   try clear hcz29_0
   try clear hcz29_1
   try clear hcz29_2
   try clear hcz29_3
   try clear hcz31_0
   try clear hcz31_1
   try clear hcz31_2
   try clear hcz31_3
   try clear hcz35_0
   try clear hcz35_1
   try clear hcz35_2
   try clear hcz35_3
   try clear hcz38_0
   try clear hcz38_1
   try clear hcz38_2
   try clear hcz38_3
   try clear hcz42_0
   try clear hcz42_1
   try clear hcz42_2
   try clear hcz42_3
   try clear hfz12_0
   try clear hfz12_1
   try clear hfz12_2
   try clear hfz12_3
   try clear hfz15_0
   try clear hfz15_1
   try clear hfz15_2
   try clear hfz15_3
   try clear hfz17_0
   try clear hfz17_1
   try clear hfz17_2
   try clear hfz17_3
   try clear hfz26_0
   try clear hfz26_1
   try clear hfz26_2
   try clear hfz26_3
   try clear hfz29_0
   try clear hfz29_1
   try clear hfz29_2
   try clear hfz29_3
   try clear hfz31_0
   try clear hfz31_1
   try clear hfz31_2
   try clear hfz31_3
   try clear hfz35_0
   try clear hfz35_1
   try clear hfz35_2
   try clear hfz35_3
   try clear hfz38_0
   try clear hfz38_1
   try clear hfz38_2
   try clear hfz38_3
   try clear hfz42_0
   try clear hfz42_1
   try clear hfz42_2
   try clear hfz42_3
   obtain ⟨kq, x27_4, rfl, HA, HJ4, HO_472003, HO_473003, HO_474003, BK471, BK472, BK473, HB⟩ := hcut
   cases kq with
   | zero => exact absurd HA.out (by simp [laws_FnSpans.j0])
   | succ kj4 =>
    have H := HA.out
    clear HA
    simp only [laws_FnSpans.j0] at H
    by_cases c44 : x27_4 = true
    ·subst c44
     rw [if_pos rfl] at H
     (try dsimp only at H)
     replace H := Option.bind_eq_some_iff.mp H
     obtain ⟨t477, A450, H⟩ := H
     (try dsimp only at H)
     have A45 := Aside0.mk A450
     clear A450
     obtain rfl := Option.some.inj H
     have hnb46 := NB471_472.out
     have hnc46 := NB472_471.out
     have hnb47 := NB471_473.out
     have hnc47 := NB473_471.out
     obtain ⟨hcz48_0, hcz48_1, hcz48_2, hcz48_3⟩ := blk_cells4 BK471.out
     obtain ⟨hfz48_0, hfz48_1, hfz48_2, hfz48_3⟩ := blk_frozens4 BK471.out
     have hnb49 := NB472_473.out
     have hnc49 := NB473_472.out
     obtain ⟨hcz50_0, hcz50_1, hcz50_2, hcz50_3⟩ := blk_cells4 BK472.out
     obtain ⟨hfz50_0, hfz50_1, hfz50_2, hfz50_3⟩ := blk_frozens4 BK472.out
     obtain ⟨hcz51_0, hcz51_1, hcz51_2, hcz51_3⟩ := blk_cells4 BK473.out
     obtain ⟨hfz51_0, hfz51_1, hfz51_2, hfz51_3⟩ := blk_frozens4 BK473.out
     go_wp2_with (first | ((with_reducible refine gate_callee (f := 14) rfl ?_); refine goesL_ (some 31) rfl rfl Try.func14 (by kernel_rfl) rfl #[.agg #[.int .i64 t453, .int .i64 t454, .float .f64 b455, .slice Ao13 t456.length co13], .agg #[.int .i64 t459, .int .i64 t460, .float .f64 b461, .slice Ao16 t462.length co16], .agg #[.int .i64 t465, .int .i64 t466, .float .f64 b467, .slice Ao18 t468.length co18]] rfl (by (try simp only [List.map_toArray, List.map_cons, List.map_nil]); first | done | rfl) ?_; (with_reducible refine (impl_InSpan.calls kj4 t453 t454 b455 _ _ t456 t459 t460 b461 _ _ t462 t465 t466 b467 _ _ t468 t477 _ ?side1 ?side2 ?side3 ?side4 ?side5 ?side6 ((impl_InSpan.inv2 _ _ _ _ _ _ _ _ _ _ _ _ _).symm.trans ((impl_InSpan.inv1 _ _ _ _ _ _ _ _ _ _ _ _ _).symm.trans ((impl_InSpan.inv0 _ _ _ _ _ _ _ _ _ _ _ _ _).symm.trans A45.out)))).mono ?_); (case side1 => repeat (first | exact (Kd.R_reads' HO_472003.out).2.2 | (with_reducible refine Kd.C_alloc ?_ _) | (with_reducible refine Kd.C_drewN ?_ _) | (with_reducible refine Kd.C_drew ?_))); (case side2 => exact (Kd.R_reads' HO_472003.out).2.1); (case side3 => repeat (first | exact (Kd.R_reads' HO_473003.out).2.2 | (with_reducible refine Kd.C_alloc ?_ _) | (with_reducible refine Kd.C_drewN ?_ _) | (with_reducible refine Kd.C_drew ?_))); (case side4 => exact (Kd.R_reads' HO_473003.out).2.1); (case side5 => repeat (first | exact (Kd.R_reads' HO_474003.out).2.2 | (with_reducible refine Kd.C_alloc ?_ _) | (with_reducible refine Kd.C_drewN ?_ _) | (with_reducible refine Kd.C_drew ?_))); (case side6 => exact (Kd.R_reads' HO_474003.out).2.1); rintro e w52 ⟨rfl, hb⟩; refine ⟨_, rfl, ?_⟩; have n0_ := Aside0.mk (Kd.R_below (Kd.rup HO_472003.out) hb); have n1_ := Aside0.mk (Kd.R_below (Kd.rup HO_473003.out) hb); have n2_ := Aside0.mk (Kd.R_below (Kd.rup HO_474003.out) hb); have n3_ := Aside0.mk (blk_below (bup BK471.out) hb); have n4_ := Aside0.mk (blk_below (bup BK472.out) hb); have n5_ := Aside0.mk (blk_below (bup BK473.out) hb); have n6_ := Aside0.mk (below_step (hset HB.out) hb); clear HO_472003; clear HO_473003; clear HO_474003; clear BK471; clear BK472; clear BK473; clear HB; have HO_472003 := n0_; have HO_473003 := n1_; have HO_474003 := n2_; have BK471 := n3_; have BK472 := n4_; have BK473 := n5_; have HB := n6_; clear n0_ n1_ n2_ n3_ n4_ n5_ n6_; (try clear hb); (try clear hb2); (try clear hk); (try clear hi)))
     go_ret
     exact ⟨by first | rfl | (simp [errW_none, errW_some] <;> rfl) | (simp [*, errW_none, errW_some] <;> rfl), hset HB.out⟩
    ·replace c44 := Bool.eq_false_iff.mpr c44
     subst c44
     rw [if_neg (show ¬ (false = true) by decide)] at H
     (try dsimp only at H)
     have HC53 := Aside0.mk H
     clear H
     go_upto_region 6 with (fail)
     go_cut [6] (fun v6 wc => ∃ (kq : Nat) (x6_52 : Bool), v6 = .bool x6_52 ∧ Aside0 (laws_FnSpans.j1 kq x6_52 t453 t454 (cn b455) t456 t459 t460 (cn b461) t462 t465 t466 (cn b467) t468 = some r) ∧ Aside0 (kq ≤ kj4) ∧ Aside0 (Kd.R (Kd.int .u8) 5 wc w.heap.size (fun k_ => some k_ ≠ ((.slice Ao16 t462.length co16) : Value).ownBlock ∧ some k_ ≠ ((.slice Ao18 t468.length co18) : Value).ownBlock) (.slice Ao13 t456.length co13) t456) ∧ Aside0 (Kd.R (Kd.int .u8) 5 wc w.heap.size (fun k_ => some k_ ≠ ((.slice Ao13 t456.length co13) : Value).ownBlock ∧ some k_ ≠ ((.slice Ao18 t468.length co18) : Value).ownBlock) (.slice Ao16 t462.length co16) t462) ∧ Aside0 (Kd.R (Kd.int .u8) 5 wc w.heap.size (fun k_ => some k_ ≠ ((.slice Ao13 t456.length co13) : Value).ownBlock ∧ some k_ ≠ ((.slice Ao16 t462.length co16) : Value).ownBlock) (.slice Ao18 t468.length co18) t468) ∧ Aside0 (wc.heap[gb471]? = some (.cells #[.int .i64 t453, .int .i64 t454, .float .f64 b455, (.slice Ao13 t456.length co13)] 28 (0, 0))) ∧ Aside0 (wc.heap[gb472]? = some (.cells #[.int .i64 t459, .int .i64 t460, .float .f64 b461, (.slice Ao16 t462.length co16)] 28 (0, 0))) ∧ Aside0 (wc.heap[gb473]? = some (.cells #[.int .i64 t465, .int .i64 t466, .float .f64 b467, (.slice Ao18 t468.length co18)] 28 (0, 0))) ∧ Aside0 (Below w.heap.size w wc))
     case first =>
      have H := HC53.out
      clear HC53
      replace H := Option.bind_eq_some_iff.mp H
      obtain ⟨t478, A540, H⟩ := H
      (try dsimp only at H)
      have A54 := Aside0.mk A540
      clear A540
      replace H := Option.bind_eq_some_iff.mp H
      obtain ⟨t481, A550, H⟩ := H
      (try dsimp only at H)
      have A55 := Aside0.mk A550
      clear A550
      by_cases c56 : ((Op.bytesLess ((strOfNums t481).toList) ((strOfNums t478).toList)) = true)
      ·rw [if_pos c56] at H
       have c56b0 : (Op.bytesLess ((strOfNums t481).toList) ((strOfNums t478).toList)) = true := c56
       clear c56
       (first | rw [c56b0] | (simp only [i64_w, i32_w]; rw [c56b0]) | skip)
       have H' := Aside0.mk H
       clear H
       try go_wp2
       have n0_ := Aside0.mk (Kd.R_drew HO_472003.out)
       have n1_ := Aside0.mk (Kd.R_drew HO_473003.out)
       have n2_ := Aside0.mk (Kd.R_drew HO_474003.out)
       have n3_ := Aside0.mk (blk_drew BK471.out)
       have n4_ := Aside0.mk (blk_drew BK472.out)
       have n5_ := Aside0.mk (blk_drew BK473.out)
       have n6_ := Aside0.mk (below_drew1 HB.out)
       clear HO_472003
       clear HO_473003
       clear HO_474003
       clear BK471
       clear BK472
       clear BK473
       clear HB
       have HO_472003 := n0_
       have HO_473003 := n1_
       have HO_474003 := n2_
       have BK471 := n3_
       have BK472 := n4_
       have BK473 := n5_
       have HB := n6_
       clear n0_ n1_ n2_ n3_ n4_ n5_ n6_
       refine start_ (n := 17) (S := fun w' => w'.cell? ⟨gb471, 0, none⟩ = some (.int .i64 t453) ∧ w'.cell? ⟨gb471, 1, none⟩ = some (.int .i64 t454) ∧ w'.cell? ⟨gb471, 2, none⟩ = some (.float .f64 b455) ∧ w'.cell? ⟨gb471, 3, none⟩ = some (.slice Ao13 t456.length co13) ∧ w'.cell? ⟨gb473, 0, none⟩ = some (.int .i64 t465) ∧ w'.cell? ⟨gb473, 1, none⟩ = some (.int .i64 t466) ∧ w'.cell? ⟨gb473, 2, none⟩ = some (.float .f64 b467) ∧ w'.cell? ⟨gb473, 3, none⟩ = some (.slice Ao18 t468.length co18)) (ds := []) #[false, false, false, false, false, false, false, false, false, false, false, false, false, false, false, false, false] (by kernel_rfl) rfl rfl ⟨(blk_cell BK471.out 0).trans rfl, (blk_cell BK471.out 1).trans rfl, (blk_cell BK471.out 2).trans rfl, (blk_cell BK471.out 3).trans rfl, (blk_cell BK473.out 0).trans rfl, (blk_cell BK473.out 1).trans rfl, (blk_cell BK473.out 2).trans rfl, (blk_cell BK473.out 3).trans rfl⟩ (fun hHeld => ?_); refine with_tabW laws_FnSpans.tab6 laws_FnSpans.bits6 (fun HT_ HW_ => ?_)
       generalize wc.drew = w57 at HO_472003 HO_473003 HO_474003 BK471 BK472 BK473 HB hHeld ⊢
       refine take_ (i := 0) (N := some 33) (v := ?_) (a' := ?_) #[true, false, false, false, false, false, false, false, false, false, false, false, false, false, false, false, false] rfl rfl (take_ofW HT_.out HW_.out (by kernel_rfl)) (fun _ _ _ h => h) (Or.inl ⟨by rfl, ?_⟩) hHeld ?_ ?_
       rotate_left
       ·rintro w' ⟨s0, s1, s2, s3, s4, s5, s6, s7⟩
        go_simp
        with_reducible rfl
       rotate_left
       ·simp only [Act.put, List.setIfInBounds_toArray, List.set_cons_zero, List.set_cons_succ, i64_w, i32_w]
        rfl
       refine take_ (i := 3) (N := some 36) (v := ?_) (a' := ?_) #[true, false, false, true, false, false, false, false, false, false, false, false, false, false, false, false, false] rfl rfl (take_ofW HT_.out HW_.out (by kernel_rfl)) (fun _ _ _ h => h) (Or.inl ⟨by rfl, ?_⟩) hHeld ?_ ?_
       rotate_left
       ·rintro w' ⟨s0, s1, s2, s3, s4, s5, s6, s7⟩
        go_simp
        with_reducible rfl
       rotate_left
       ·simp only [Act.put, List.setIfInBounds_toArray, List.set_cons_zero, List.set_cons_succ, i64_w, i32_w]
        rfl
       refine one_ (i := 1) (N := some 34) #[true, true, false, true, false, false, false, false, false, false, false, false, false, false, false, false, false] rfl rfl (one_of HT_.out (by kernel_rfl)) (by decide) (fun K hK => ?_)
       refine goes_ Try.func21 (by kernel_rfl) rfl #[.agg #[.int .i64 t453, .int .i64 t454, .float .f64 b455, .slice Ao13 t456.length co13]] (by rfl) rfl rfl (by (try simp only [List.map_toArray, List.map_cons, List.map_nil]); first | done | rfl) ?_
       with_reducible refine (spec_KeyBytes.calls kj4 t453 t454 b455 _ _ t456 t478 _ ?side1 ?side2 ((spec_KeyBytes.inv0 _ _ _ _ _).symm.trans A54.out)).mono ?_
       (case side1 => repeat (first | exact (Kd.R_reads' HO_472003.out).2.2 | (with_reducible refine Kd.C_alloc ?_ _) | (with_reducible refine Kd.C_drewN ?_ _) | (with_reducible refine Kd.C_drew ?_)))
       (case side2 => exact (Kd.R_reads' HO_472003.out).2.1)
       rintro e w58 ⟨v479, rfl, ho0, hb⟩
       refine ⟨_, rfl, ?_⟩
       have n0_ := Aside0.mk (Kd.R_elder' (Kd.rup HO_472003.out) (Kd.R_base ho0) hb)
       have n1_ := Aside0.mk (Kd.R_elder' (Kd.rup HO_473003.out) (Kd.R_base ho0) hb)
       have n2_ := Aside0.mk (Kd.R_elder' (Kd.rup HO_474003.out) (Kd.R_base ho0) hb)
       have n3_ := Aside0.mk (Kd.R_lower (Kd.R_new' (Kd.R_new' (Kd.R_new' ho0 (Kd.R_lt (Kd.rup HO_472003.out))) (Kd.R_lt (Kd.rup HO_473003.out))) (Kd.R_lt (Kd.rup HO_474003.out))) (below_size (hset HB.out)))
       have n4_ := Aside0.mk (blk_below (bup BK471.out) hb)
       have n5_ := Aside0.mk (blk_below (bup BK472.out) hb)
       have n6_ := Aside0.mk (blk_below (bup BK473.out) hb)
       have n7_ := Aside0.mk (below_step (hset HB.out) hb)
       clear HO_472003
       clear HO_473003
       clear HO_474003
       clear BK471
       clear BK472
       clear BK473
       clear HB
       have HO_472003 := n0_
       have HO_473003 := n1_
       have HO_474003 := n2_
       have HO480 := n3_
       have BK471 := n4_
       have BK472 := n5_
       have BK473 := n6_
       have HB := n7_
       clear n0_ n1_ n2_ n3_ n4_ n5_ n6_ n7_
       (try clear hb)
       (try clear hb2)
       (try clear hk)
       (try clear hi)
       (try clear ho0)
       refine hK.out _ _ ⟨(blk_cell BK471.out 0).trans rfl, (blk_cell BK471.out 1).trans rfl, (blk_cell BK471.out 2).trans rfl, (blk_cell BK471.out 3).trans rfl, (blk_cell BK473.out 0).trans rfl, (blk_cell BK473.out 1).trans rfl, (blk_cell BK473.out 2).trans rfl, (blk_cell BK473.out 3).trans rfl⟩ (fun hHeld => ?_)
       clear hK K
       refine norm_ (a' := ?_) ?_ ?_
       rotate_left
       ·show Act.put _ (some 34) _ = _
        simp only [Act.put, List.setIfInBounds_toArray, List.set_cons_zero, List.set_cons_succ, i64_w, i32_w]
        rfl
       refine join_ (σ := Value) 11 #[true, true, true, true, true, true, false, false, false, false, false, false, false, false, false, false, false] (fun s_ => [(35, .string (strOfNums t478)), (37, s_), (38, .string (strOfNums t481))]) (fun s_ w' => (w'.cell? ⟨gb471, 0, none⟩ = some (.int .i64 t453) ∧ w'.cell? ⟨gb471, 1, none⟩ = some (.int .i64 t454) ∧ w'.cell? ⟨gb471, 2, none⟩ = some (.float .f64 b455) ∧ w'.cell? ⟨gb471, 3, none⟩ = some (.slice Ao13 t456.length co13) ∧ w'.cell? ⟨gb473, 0, none⟩ = some (.int .i64 t465) ∧ w'.cell? ⟨gb473, 1, none⟩ = some (.int .i64 t466) ∧ w'.cell? ⟨gb473, 2, none⟩ = some (.float .f64 b467) ∧ w'.cell? ⟨gb473, 3, none⟩ = some (.slice Ao18 t468.length co18)) ∧ (Kd.R (Kd.int .u8) 5 w' w.heap.size (fun k_ => some k_ ≠ (s_ : Value).ownBlock ∧ some k_ ≠ (.slice Ao13 t456.length co13 : Value).ownBlock ∧ some k_ ≠ (.slice Ao16 t462.length co16 : Value).ownBlock ∧ some k_ ≠ (.slice Ao18 t468.length co18 : Value).ownBlock) v479 t478) ∧ (Kd.R (Kd.int .u8) 5 w' w.heap.size (fun k_ => some k_ ≠ (v479 : Value).ownBlock ∧ some k_ ≠ (.slice Ao13 t456.length co13 : Value).ownBlock ∧ some k_ ≠ (.slice Ao16 t462.length co16 : Value).ownBlock ∧ some k_ ≠ (.slice Ao18 t468.length co18 : Value).ownBlock) s_ t481) ∧ (Kd.R (Kd.int .u8) 5 w' w.heap.size (fun k_ => some k_ ≠ (v479 : Value).ownBlock ∧ some k_ ≠ (s_ : Value).ownBlock ∧ some k_ ≠ (.slice Ao16 t462.length co16 : Value).ownBlock ∧ some k_ ≠ (.slice Ao18 t468.length co18 : Value).ownBlock) (.slice Ao13 t456.length co13) t456) ∧ (Kd.R (Kd.int .u8) 5 w' w.heap.size (fun k_ => some k_ ≠ (v479 : Value).ownBlock ∧ some k_ ≠ (s_ : Value).ownBlock ∧ some k_ ≠ (.slice Ao13 t456.length co13 : Value).ownBlock ∧ some k_ ≠ (.slice Ao18 t468.length co18 : Value).ownBlock) (.slice Ao16 t462.length co16) t462) ∧ (Kd.R (Kd.int .u8) 5 w' w.heap.size (fun k_ => some k_ ≠ (v479 : Value).ownBlock ∧ some k_ ≠ (s_ : Value).ownBlock ∧ some k_ ≠ (.slice Ao13 t456.length co13 : Value).ownBlock ∧ some k_ ≠ (.slice Ao16 t462.length co16 : Value).ownBlock) (.slice Ao18 t468.length co18) t468) ∧ (w'.heap[gb471]? = some (.cells #[.int .i64 t453, .int .i64 t454, .float .f64 b455, .slice Ao13 t456.length co13] 28 (0, 0))) ∧ (w'.heap[gb472]? = some (.cells #[.int .i64 t459, .int .i64 t460, .float .f64 b461, .slice Ao16 t462.length co16] 28 (0, 0))) ∧ (w'.heap[gb473]? = some (.cells #[.int .i64 t465, .int .i64 t466, .float .f64 b467, .slice Ao18 t468.length co18] 28 (0, 0))) ∧ (Below w.heap.size w w')) ?_ ?_
       rotate_left
       ·intro hCont
        refine two_ (i := 2) (j := 4) (Ni := some 35) (Nj := some 37) #[true, true, true, true, false, false, false, false, false, false, false, false, false, false, false, false, false] #[true, true, false, true, true, false, false, false, false, false, false, false, false, false, false, false, false] rfl rfl rfl rfl (two_of HT_.out (by kernel_rfl)) (by decide) (by decide) (fun K hK => ?_) (fun K hK => ?_)
        ·skip
         have hcv59 := own_string (P := Try.prog) Try.underlying23 Try.underlying5 Try.underlying9 (Kd.own_of_R HO480.out)
         refine value_ (w1 := ?_) (v := ?_) (by rfl) rfl ?_ ?_
         rotate_left 2
         ·go_simp
          constructor
          ·rfl
          ·rfl
         clear hcv59
         refine hK.out _ _ ⟨(blk_cell BK471.out 0).trans rfl, (blk_cell BK471.out 1).trans rfl, (blk_cell BK471.out 2).trans rfl, (blk_cell BK471.out 3).trans rfl, (blk_cell BK473.out 0).trans rfl, (blk_cell BK473.out 1).trans rfl, (blk_cell BK473.out 2).trans rfl, (blk_cell BK473.out 3).trans rfl⟩ (fun hHeld => ?_)
         clear hK K
         refine norm_ (a' := ?_) ?_ ?_
         rotate_left
         ·show Act.put _ (some 35) _ = _
          simp only [Act.put, List.setIfInBounds_toArray, List.set_cons_zero, List.set_cons_succ, i64_w, i32_w]
          rfl
         refine one_ (i := 4) (N := some 37) #[true, true, true, true, true, false, false, false, false, false, false, false, false, false, false, false, false] rfl rfl (one_of HT_.out (by kernel_rfl)) (by decide) (fun K hK => ?_)
         refine goes_ Try.func21 (by kernel_rfl) rfl #[.agg #[.int .i64 t465, .int .i64 t466, .float .f64 b467, .slice Ao18 t468.length co18]] (by rfl) rfl rfl (by (try simp only [List.map_toArray, List.map_cons, List.map_nil]); first | done | rfl) ?_
         with_reducible refine (spec_KeyBytes.calls kj4 t465 t466 b467 _ _ t468 t481 _ ?side1 ?side2 ((spec_KeyBytes.inv0 _ _ _ _ _).symm.trans A55.out)).mono ?_
         (case side1 => repeat (first | exact (Kd.R_reads' HO_474003.out).2.2 | (with_reducible refine Kd.C_alloc ?_ _) | (with_reducible refine Kd.C_drewN ?_ _) | (with_reducible refine Kd.C_drew ?_)))
         (case side2 => exact (Kd.R_reads' HO_474003.out).2.1)
         rintro e w60 ⟨v482, rfl, ho0, hb⟩
         refine ⟨_, rfl, ?_⟩
         have n0_ := Aside0.mk (Kd.R_elder' (Kd.rup HO_472003.out) (Kd.R_base ho0) hb)
         have n1_ := Aside0.mk (Kd.R_elder' (Kd.rup HO_473003.out) (Kd.R_base ho0) hb)
         have n2_ := Aside0.mk (Kd.R_elder' (Kd.rup HO_474003.out) (Kd.R_base ho0) hb)
         have n3_ := Aside0.mk (Kd.R_elder' (Kd.rup HO480.out) (Kd.R_base ho0) hb)
         have n4_ := Aside0.mk (Kd.R_lower (Kd.R_new' (Kd.R_new' (Kd.R_new' (Kd.R_new' ho0 (Kd.R_lt (Kd.rup HO_472003.out))) (Kd.R_lt (Kd.rup HO_473003.out))) (Kd.R_lt (Kd.rup HO_474003.out))) (Kd.R_lt (Kd.rup HO480.out))) (below_size (hset HB.out)))
         have n5_ := Aside0.mk (blk_below (bup BK471.out) hb)
         have n6_ := Aside0.mk (blk_below (bup BK472.out) hb)
         have n7_ := Aside0.mk (blk_below (bup BK473.out) hb)
         have n8_ := Aside0.mk (below_step (hset HB.out) hb)
         clear HO_472003
         clear HO_473003
         clear HO_474003
         clear HO480
         clear BK471
         clear BK472
         clear BK473
         clear HB
         have HO_472003 := n0_
         have HO_473003 := n1_
         have HO_474003 := n2_
         have HO480 := n3_
         have HO483 := n4_
         have BK471 := n5_
         have BK472 := n6_
         have BK473 := n7_
         have HB := n8_
         clear n0_ n1_ n2_ n3_ n4_ n5_ n6_ n7_ n8_
         (try clear hb)
         (try clear hb2)
         (try clear hk)
         (try clear hi)
         (try clear ho0)
         refine hK.out _ _ ⟨(blk_cell BK471.out 0).trans rfl, (blk_cell BK471.out 1).trans rfl, (blk_cell BK471.out 2).trans rfl, (blk_cell BK471.out 3).trans rfl, (blk_cell BK473.out 0).trans rfl, (blk_cell BK473.out 1).trans rfl, (blk_cell BK473.out 2).trans rfl, (blk_cell BK473.out 3).trans rfl⟩ (fun hHeld => ?_)
         clear hK K
         refine norm_ (a' := ?_) ?_ ?_
         rotate_left
         ·show Act.put _ (some 37) _ = _
          simp only [Act.put, List.setIfInBounds_toArray, List.set_cons_zero, List.set_cons_succ, i64_w, i32_w]
          rfl
         refine one_ (i := 5) (N := some 38) #[true, true, true, true, true, true, false, false, false, false, false, false, false, false, false, false, false] rfl rfl (one_of HT_.out (by kernel_rfl)) (by decide) (fun K hK => ?_)
         have hcv61 := own_string (P := Try.prog) Try.underlying23 Try.underlying5 Try.underlying9 (Kd.own_of_R HO483.out)
         refine value_ (w1 := ?_) (v := ?_) (by rfl) rfl ?_ ?_
         rotate_left 2
         ·go_simp
          constructor
          ·rfl
          ·rfl
         clear hcv61
         refine hK.out _ _ ⟨(blk_cell BK471.out 0).trans rfl, (blk_cell BK471.out 1).trans rfl, (blk_cell BK471.out 2).trans rfl, (blk_cell BK471.out 3).trans rfl, (blk_cell BK473.out 0).trans rfl, (blk_cell BK473.out 1).trans rfl, (blk_cell BK473.out 2).trans rfl, (blk_cell BK473.out 3).trans rfl⟩ (fun hHeld => ?_)
         clear hK K
         refine norm_ (a' := ?_) ?_ ?_
         rotate_left
         ·show Act.put _ (some 38) _ = _
          simp only [Act.put, List.setIfInBounds_toArray, List.set_cons_zero, List.set_cons_succ, i64_w, i32_w]
          rfl
         exact norm_ (by simp only [putAll, Act.put, List.setIfInBounds_toArray, List.set_cons_zero, List.set_cons_succ]) (hCont (v482) _ ⟨hHeld, (by exact Kd.rup (Kd.R_mono HO480.out (fun _ hk => ⟨hk.2, ⟨hk.1.1.1.2, ⟨hk.1.1.2, hk.1.2⟩⟩⟩))), (by exact Kd.rup (Kd.R_mono HO483.out (fun _ hk => ⟨hk.2, ⟨hk.1.1.1.2, ⟨hk.1.1.2, hk.1.2⟩⟩⟩))), (by exact Kd.rup (Kd.R_mono HO_472003.out (fun _ hk => ⟨hk.1.2, ⟨hk.2, ⟨hk.1.1.1, hk.1.1.2⟩⟩⟩))), (by exact Kd.rup (Kd.R_mono HO_473003.out (fun _ hk => ⟨hk.1.2, ⟨hk.2, ⟨hk.1.1.1, hk.1.1.2⟩⟩⟩))), (by exact Kd.rup (Kd.R_mono HO_474003.out (fun _ hk => ⟨hk.1.2, ⟨hk.2, ⟨hk.1.1.1, hk.1.1.2⟩⟩⟩))), (bup BK471.out), (bup BK472.out), (bup BK473.out), (hset HB.out)⟩)
        ·skip
         refine goes_ Try.func21 (by kernel_rfl) rfl #[.agg #[.int .i64 t465, .int .i64 t466, .float .f64 b467, .slice Ao18 t468.length co18]] (by rfl) rfl rfl (by (try simp only [List.map_toArray, List.map_cons, List.map_nil]); first | done | rfl) ?_
         with_reducible refine (spec_KeyBytes.calls kj4 t465 t466 b467 _ _ t468 t481 _ ?side1 ?side2 ((spec_KeyBytes.inv0 _ _ _ _ _).symm.trans A55.out)).mono ?_
         (case side1 => repeat (first | exact (Kd.R_reads' HO_474003.out).2.2 | (with_reducible refine Kd.C_alloc ?_ _) | (with_reducible refine Kd.C_drewN ?_ _) | (with_reducible refine Kd.C_drew ?_)))
         (case side2 => exact (Kd.R_reads' HO_474003.out).2.1)
         rintro e w59 ⟨v482, rfl, ho0, hb⟩
         refine ⟨_, rfl, ?_⟩
         have n0_ := Aside0.mk (Kd.R_elder' (Kd.rup HO_472003.out) (Kd.R_base ho0) hb)
         have n1_ := Aside0.mk (Kd.R_elder' (Kd.rup HO_473003.out) (Kd.R_base ho0) hb)
         have n2_ := Aside0.mk (Kd.R_elder' (Kd.rup HO_474003.out) (Kd.R_base ho0) hb)
         have n3_ := Aside0.mk (Kd.R_elder' (Kd.rup HO480.out) (Kd.R_base ho0) hb)
         have n4_ := Aside0.mk (Kd.R_lower (Kd.R_new' (Kd.R_new' (Kd.R_new' (Kd.R_new' ho0 (Kd.R_lt (Kd.rup HO_472003.out))) (Kd.R_lt (Kd.rup HO_473003.out))) (Kd.R_lt (Kd.rup HO_474003.out))) (Kd.R_lt (Kd.rup HO480.out))) (below_size (hset HB.out)))
         have n5_ := Aside0.mk (blk_below (bup BK471.out) hb)
         have n6_ := Aside0.mk (blk_below (bup BK472.out) hb)
         have n7_ := Aside0.mk (blk_below (bup BK473.out) hb)
         have n8_ := Aside0.mk (below_step (hset HB.out) hb)
         clear HO_472003
         clear HO_473003
         clear HO_474003
         clear HO480
         clear BK471
         clear BK472
         clear BK473
         clear HB
         have HO_472003 := n0_
         have HO_473003 := n1_
         have HO_474003 := n2_
         have HO480 := n3_
         have HO483 := n4_
         have BK471 := n5_
         have BK472 := n6_
         have BK473 := n7_
         have HB := n8_
         clear n0_ n1_ n2_ n3_ n4_ n5_ n6_ n7_ n8_
         (try clear hb)
         (try clear hb2)
         (try clear hk)
         (try clear hi)
         (try clear ho0)
         refine hK.out _ _ ⟨(blk_cell BK471.out 0).trans rfl, (blk_cell BK471.out 1).trans rfl, (blk_cell BK471.out 2).trans rfl, (blk_cell BK471.out 3).trans rfl, (blk_cell BK473.out 0).trans rfl, (blk_cell BK473.out 1).trans rfl, (blk_cell BK473.out 2).trans rfl, (blk_cell BK473.out 3).trans rfl⟩ (fun hHeld => ?_)
         clear hK K
         refine norm_ (a' := ?_) ?_ ?_
         rotate_left
         ·show Act.put _ (some 37) _ = _
          simp only [Act.put, List.setIfInBounds_toArray, List.set_cons_zero, List.set_cons_succ, i64_w, i32_w]
          rfl
         refine two_ (i := 2) (j := 5) (Ni := some 35) (Nj := some 38) #[true, true, true, true, true, false, false, false, false, false, false, false, false, false, false, false, false] #[true, true, false, true, true, true, false, false, false, false, false, false, false, false, false, false, false] rfl rfl rfl rfl (two_of HT_.out (by kernel_rfl)) (by decide) (by decide) (fun K hK => ?_) (fun K hK => ?_)
         ·skip
          have hcv60 := own_string (P := Try.prog) Try.underlying23 Try.underlying5 Try.underlying9 (Kd.own_of_R HO480.out)
          refine value_ (w1 := ?_) (v := ?_) (by rfl) rfl ?_ ?_
          rotate_left 2
          ·go_simp
           constructor
           ·rfl
           ·rfl
          clear hcv60
          refine hK.out _ _ ⟨(blk_cell BK471.out 0).trans rfl, (blk_cell BK471.out 1).trans rfl, (blk_cell BK471.out 2).trans rfl, (blk_cell BK471.out 3).trans rfl, (blk_cell BK473.out 0).trans rfl, (blk_cell BK473.out 1).trans rfl, (blk_cell BK473.out 2).trans rfl, (blk_cell BK473.out 3).trans rfl⟩ (fun hHeld => ?_)
          clear hK K
          refine norm_ (a' := ?_) ?_ ?_
          rotate_left
          ·show Act.put _ (some 35) _ = _
           simp only [Act.put, List.setIfInBounds_toArray, List.set_cons_zero, List.set_cons_succ, i64_w, i32_w]
           rfl
          refine one_ (i := 5) (N := some 38) #[true, true, true, true, true, true, false, false, false, false, false, false, false, false, false, false, false] rfl rfl (one_of HT_.out (by kernel_rfl)) (by decide) (fun K hK => ?_)
          have hcv61 := own_string (P := Try.prog) Try.underlying23 Try.underlying5 Try.underlying9 (Kd.own_of_R HO483.out)
          refine value_ (w1 := ?_) (v := ?_) (by rfl) rfl ?_ ?_
          rotate_left 2
          ·go_simp
           constructor
           ·rfl
           ·rfl
          clear hcv61
          refine hK.out _ _ ⟨(blk_cell BK471.out 0).trans rfl, (blk_cell BK471.out 1).trans rfl, (blk_cell BK471.out 2).trans rfl, (blk_cell BK471.out 3).trans rfl, (blk_cell BK473.out 0).trans rfl, (blk_cell BK473.out 1).trans rfl, (blk_cell BK473.out 2).trans rfl, (blk_cell BK473.out 3).trans rfl⟩ (fun hHeld => ?_)
          clear hK K
          refine norm_ (a' := ?_) ?_ ?_
          rotate_left
          ·show Act.put _ (some 38) _ = _
           simp only [Act.put, List.setIfInBounds_toArray, List.set_cons_zero, List.set_cons_succ, i64_w, i32_w]
           rfl
          exact norm_ (by simp only [putAll, Act.put, List.setIfInBounds_toArray, List.set_cons_zero, List.set_cons_succ]) (hCont (v482) _ ⟨hHeld, (by exact Kd.rup (Kd.R_mono HO480.out (fun _ hk => ⟨hk.2, ⟨hk.1.1.1.2, ⟨hk.1.1.2, hk.1.2⟩⟩⟩))), (by exact Kd.rup (Kd.R_mono HO483.out (fun _ hk => ⟨hk.2, ⟨hk.1.1.1.2, ⟨hk.1.1.2, hk.1.2⟩⟩⟩))), (by exact Kd.rup (Kd.R_mono HO_472003.out (fun _ hk => ⟨hk.1.2, ⟨hk.2, ⟨hk.1.1.1, hk.1.1.2⟩⟩⟩))), (by exact Kd.rup (Kd.R_mono HO_473003.out (fun _ hk => ⟨hk.1.2, ⟨hk.2, ⟨hk.1.1.1, hk.1.1.2⟩⟩⟩))), (by exact Kd.rup (Kd.R_mono HO_474003.out (fun _ hk => ⟨hk.1.2, ⟨hk.2, ⟨hk.1.1.1, hk.1.1.2⟩⟩⟩))), (bup BK471.out), (bup BK472.out), (bup BK473.out), (hset HB.out)⟩)
         ·skip
          have hcv60 := own_string (P := Try.prog) Try.underlying23 Try.underlying5 Try.underlying9 (Kd.own_of_R HO483.out)
          refine value_ (w1 := ?_) (v := ?_) (by rfl) rfl ?_ ?_
          rotate_left 2
          ·go_simp
           constructor
           ·rfl
           ·rfl
          clear hcv60
          refine hK.out _ _ ⟨(blk_cell BK471.out 0).trans rfl, (blk_cell BK471.out 1).trans rfl, (blk_cell BK471.out 2).trans rfl, (blk_cell BK471.out 3).trans rfl, (blk_cell BK473.out 0).trans rfl, (blk_cell BK473.out 1).trans rfl, (blk_cell BK473.out 2).trans rfl, (blk_cell BK473.out 3).trans rfl⟩ (fun hHeld => ?_)
          clear hK K
          refine norm_ (a' := ?_) ?_ ?_
          rotate_left
          ·show Act.put _ (some 38) _ = _
           simp only [Act.put, List.setIfInBounds_toArray, List.set_cons_zero, List.set_cons_succ, i64_w, i32_w]
           rfl
          refine one_ (i := 2) (N := some 35) #[true, true, true, true, true, true, false, false, false, false, false, false, false, false, false, false, false] rfl rfl (one_of HT_.out (by kernel_rfl)) (by decide) (fun K hK => ?_)
          have hcv61 := own_string (P := Try.prog) Try.underlying23 Try.underlying5 Try.underlying9 (Kd.own_of_R HO480.out)
          refine value_ (w1 := ?_) (v := ?_) (by rfl) rfl ?_ ?_
          rotate_left 2
          ·go_simp
           constructor
           ·rfl
           ·rfl
          clear hcv61
          refine hK.out _ _ ⟨(blk_cell BK471.out 0).trans rfl, (blk_cell BK471.out 1).trans rfl, (blk_cell BK471.out 2).trans rfl, (blk_cell BK471.out 3).trans rfl, (blk_cell BK473.out 0).trans rfl, (blk_cell BK473.out 1).trans rfl, (blk_cell BK473.out 2).trans rfl, (blk_cell BK473.out 3).trans rfl⟩ (fun hHeld => ?_)
          clear hK K
          refine norm_ (a' := ?_) ?_ ?_
          rotate_left
          ·show Act.put _ (some 35) _ = _
           simp only [Act.put, List.setIfInBounds_toArray, List.set_cons_zero, List.set_cons_succ, i64_w, i32_w]
           rfl
          exact norm_ (by simp only [putAll, Act.put, List.setIfInBounds_toArray, List.set_cons_zero, List.set_cons_succ]) (hCont (v482) _ ⟨hHeld, (by exact Kd.rup (Kd.R_mono HO480.out (fun _ hk => ⟨hk.2, ⟨hk.1.1.1.2, ⟨hk.1.1.2, hk.1.2⟩⟩⟩))), (by exact Kd.rup (Kd.R_mono HO483.out (fun _ hk => ⟨hk.2, ⟨hk.1.1.1.2, ⟨hk.1.1.2, hk.1.2⟩⟩⟩))), (by exact Kd.rup (Kd.R_mono HO_472003.out (fun _ hk => ⟨hk.1.2, ⟨hk.2, ⟨hk.1.1.1, hk.1.1.2⟩⟩⟩))), (by exact Kd.rup (Kd.R_mono HO_473003.out (fun _ hk => ⟨hk.1.2, ⟨hk.2, ⟨hk.1.1.1, hk.1.1.2⟩⟩⟩))), (by exact Kd.rup (Kd.R_mono HO_474003.out (fun _ hk => ⟨hk.1.2, ⟨hk.2, ⟨hk.1.1.1, hk.1.1.2⟩⟩⟩))), (bup BK471.out), (bup BK472.out), (bup BK473.out), (hset HB.out)⟩)
       rintro v482 w62 ⟨hS_, h0_, h1_, h2_, h3_, h4_, h5_, h6_, h7_, h8_⟩
       have n0_ : Aside0 (Kd.R (Kd.int .u8) 5 w62 w.heap.size (fun k_ => some k_ ≠ (v482 : Value).ownBlock ∧ some k_ ≠ (.slice Ao13 t456.length co13 : Value).ownBlock ∧ some k_ ≠ (.slice Ao16 t462.length co16 : Value).ownBlock ∧ some k_ ≠ (.slice Ao18 t468.length co18 : Value).ownBlock) v479 t478) := ⟨h0_⟩
       have n1_ : Aside0 (Kd.R (Kd.int .u8) 5 w62 w.heap.size (fun k_ => some k_ ≠ (v479 : Value).ownBlock ∧ some k_ ≠ (.slice Ao13 t456.length co13 : Value).ownBlock ∧ some k_ ≠ (.slice Ao16 t462.length co16 : Value).ownBlock ∧ some k_ ≠ (.slice Ao18 t468.length co18 : Value).ownBlock) v482 t481) := ⟨h1_⟩
       have n2_ : Aside0 (Kd.R (Kd.int .u8) 5 w62 w.heap.size (fun k_ => some k_ ≠ (v479 : Value).ownBlock ∧ some k_ ≠ (v482 : Value).ownBlock ∧ some k_ ≠ (.slice Ao16 t462.length co16 : Value).ownBlock ∧ some k_ ≠ (.slice Ao18 t468.length co18 : Value).ownBlock) (.slice Ao13 t456.length co13) t456) := ⟨h2_⟩
       have n3_ : Aside0 (Kd.R (Kd.int .u8) 5 w62 w.heap.size (fun k_ => some k_ ≠ (v479 : Value).ownBlock ∧ some k_ ≠ (v482 : Value).ownBlock ∧ some k_ ≠ (.slice Ao13 t456.length co13 : Value).ownBlock ∧ some k_ ≠ (.slice Ao18 t468.length co18 : Value).ownBlock) (.slice Ao16 t462.length co16) t462) := ⟨h3_⟩
       have n4_ : Aside0 (Kd.R (Kd.int .u8) 5 w62 w.heap.size (fun k_ => some k_ ≠ (v479 : Value).ownBlock ∧ some k_ ≠ (v482 : Value).ownBlock ∧ some k_ ≠ (.slice Ao13 t456.length co13 : Value).ownBlock ∧ some k_ ≠ (.slice Ao16 t462.length co16 : Value).ownBlock) (.slice Ao18 t468.length co18) t468) := ⟨h4_⟩
       have n5_ : Aside0 (w62.heap[gb471]? = some (.cells #[.int .i64 t453, .int .i64 t454, .float .f64 b455, .slice Ao13 t456.length co13] 28 (0, 0))) := ⟨h5_⟩
       have n6_ : Aside0 (w62.heap[gb472]? = some (.cells #[.int .i64 t459, .int .i64 t460, .float .f64 b461, .slice Ao16 t462.length co16] 28 (0, 0))) := ⟨h6_⟩
       have n7_ : Aside0 (w62.heap[gb473]? = some (.cells #[.int .i64 t465, .int .i64 t466, .float .f64 b467, .slice Ao18 t468.length co18] 28 (0, 0))) := ⟨h7_⟩
       have n8_ : Aside0 (Below w.heap.size w w62) := ⟨h8_⟩
       clear HO_472003
       clear HO_473003
       clear HO_474003
       clear BK471
       clear BK472
       clear BK473
       clear HB
       clear h0_ h1_ h2_ h3_ h4_ h5_ h6_ h7_ h8_
       have HO480 := n0_
       have HO483 := n1_
       have HO_472003 := n2_
       have HO_473003 := n3_
       have HO_474003 := n4_
       have BK471 := n5_
       have BK472 := n6_
       have BK473 := n7_
       have HB := n8_
       clear n0_ n1_ n2_ n3_ n4_ n5_ n6_ n7_ n8_
       have hHeld : w62.cell? ⟨gb471, 0, none⟩ = some (.int .i64 t453) ∧ w62.cell? ⟨gb471, 1, none⟩ = some (.int .i64 t454) ∧ w62.cell? ⟨gb471, 2, none⟩ = some (.float .f64 b455) ∧ w62.cell? ⟨gb471, 3, none⟩ = some (.slice Ao13 t456.length co13) ∧ w62.cell? ⟨gb473, 0, none⟩ = some (.int .i64 t465) ∧ w62.cell? ⟨gb473, 1, none⟩ = some (.int .i64 t466) ∧ w62.cell? ⟨gb473, 2, none⟩ = some (.float .f64 b467) ∧ w62.cell? ⟨gb473, 3, none⟩ = some (.slice Ao18 t468.length co18) := hS_
       refine norm_ (a' := ?_) ?_ ?_
       rotate_left
       ·simp only [putAll, Act.put, List.setIfInBounds_toArray, List.set_cons_zero, List.set_cons_succ]
        rfl
       refine pure_ (i := 6) (N := some 39) (v := ?_) (a' := ?_) #[true, true, true, true, true, true, true, false, false, false, false, false, false, false, false, false, false] rfl rfl (any_of HT_.out (by kernel_rfl)) (fun _ _ _ h => h) (Or.inl ⟨by rfl, ?_⟩) ?_ ?_
       rotate_left
       ·intro w'
        go_simp
        with_reducible rfl
       rotate_left
       ·simp only [Act.put, List.setIfInBounds_toArray, List.set_cons_zero, List.set_cons_succ, i64_w, i32_w]
        rfl
       refine pure_ (i := 7) (N := some 40) (v := ?_) (a' := ?_) #[true, true, true, true, true, true, true, true, false, false, false, false, false, false, false, false, false] rfl rfl (any_of HT_.out (by kernel_rfl)) (fun _ _ _ h => h) (Or.inl ⟨by rfl, ?_⟩) ?_ ?_
       rotate_left
       ·intro w'
        go_simp
        with_reducible rfl
       rotate_left
       ·simp only [Act.put, List.setIfInBounds_toArray, List.set_cons_zero, List.set_cons_succ, i64_w, i32_w]
        rfl
       refine pure_ (i := 8) (N := some 41) (v := undef) (a' := ?_) #[true, true, true, true, true, true, true, true, true, false, false, false, false, false, false, false, false] rfl rfl (any_of HT_.out (by kernel_rfl)) (fun _ _ _ h => h) (Or.inr ⟨by rfl, rfl⟩) ?_ ?_
       rotate_left
       ·simp only [Act.put, List.setIfInBounds_toArray, List.set_cons_zero, List.set_cons_succ, i64_w, i32_w]
        rfl
       refine pure_ (i := 9) (N := some 42) (v := undef) (a' := ?_) #[true, true, true, true, true, true, true, true, true, true, false, false, false, false, false, false, false] rfl rfl (any_of HT_.out (by kernel_rfl)) (fun _ _ _ h => h) (Or.inr ⟨by rfl, rfl⟩) ?_ ?_
       rotate_left
       ·simp only [Act.put, List.setIfInBounds_toArray, List.set_cons_zero, List.set_cons_succ, i64_w, i32_w]
        rfl
       refine pure_ (i := 10) (N := some 43) (v := undef) (a' := ?_) #[true, true, true, true, true, true, true, true, true, true, true, false, false, false, false, false, false] rfl rfl (any_of HT_.out (by kernel_rfl)) (fun _ _ _ h => h) (Or.inr ⟨by rfl, rfl⟩) ?_ ?_
       rotate_left
       ·simp only [Act.put, List.setIfInBounds_toArray, List.set_cons_zero, List.set_cons_succ, i64_w, i32_w]
        rfl
       refine pure_ (i := 11) (N := some 44) (v := undef) (a' := ?_) #[true, true, true, true, true, true, true, true, true, true, true, true, false, false, false, false, false] rfl rfl (any_of HT_.out (by kernel_rfl)) (fun _ _ _ h => h) (Or.inr ⟨by rfl, rfl⟩) ?_ ?_
       rotate_left
       ·simp only [Act.put, List.setIfInBounds_toArray, List.set_cons_zero, List.set_cons_succ, i64_w, i32_w]
        rfl
       refine pure_ (i := 12) (N := some 45) (v := undef) (a' := ?_) #[true, true, true, true, true, true, true, true, true, true, true, true, true, false, false, false, false] rfl rfl (any_of HT_.out (by kernel_rfl)) (fun _ _ _ h => h) (Or.inr ⟨by rfl, rfl⟩) ?_ ?_
       rotate_left
       ·simp only [Act.put, List.setIfInBounds_toArray, List.set_cons_zero, List.set_cons_succ, i64_w, i32_w]
        rfl
       refine pure_ (i := 13) (N := some 46) (v := undef) (a' := ?_) #[true, true, true, true, true, true, true, true, true, true, true, true, true, true, false, false, false] rfl rfl (any_of HT_.out (by kernel_rfl)) (fun _ _ _ h => h) (Or.inr ⟨by rfl, rfl⟩) ?_ ?_
       rotate_left
       ·simp only [Act.put, List.setIfInBounds_toArray, List.set_cons_zero, List.set_cons_succ, i64_w, i32_w]
        rfl
       refine pure_ (i := 14) (N := some 47) (v := undef) (a' := ?_) #[true, true, true, true, true, true, true, true, true, true, true, true, true, true, true, false, false] rfl rfl (any_of HT_.out (by kernel_rfl)) (fun _ _ _ h => h) (Or.inr ⟨by rfl, rfl⟩) ?_ ?_
       rotate_left
       ·simp only [Act.put, List.setIfInBounds_toArray, List.set_cons_zero, List.set_cons_succ, i64_w, i32_w]
        rfl
       refine pure_ (i := 15) (N := some 48) (v := ?_) (a' := ?_) #[true, true, true, true, true, true, true, true, true, true, true, true, true, true, true, true, false] rfl rfl (any_of HT_.out (by kernel_rfl)) (fun _ _ _ h => h) (Or.inl ⟨by rfl, ?_⟩) ?_ ?_
       rotate_left
       ·intro w'
        go_simp
        with_reducible rfl
       rotate_left
       ·simp only [Act.put, List.setIfInBounds_toArray, List.set_cons_zero, List.set_cons_succ, i64_w, i32_w]
        rfl
       refine pure_ (i := 16) (N := some 6) (v := ?_) (a' := ?_) #[true, true, true, true, true, true, true, true, true, true, true, true, true, true, true, true, true] rfl rfl (any_of HT_.out (by kernel_rfl)) (fun _ _ _ h => h) (Or.inl ⟨by rfl, ?_⟩) ?_ ?_
       rotate_left
       ·intro w'
        go_simp
        with_reducible rfl
       rotate_left
       ·simp only [Act.put, List.setIfInBounds_toArray, List.set_cons_zero, List.set_cons_succ, i64_w, i32_w]
        rfl
       refine done_ (done_of HT_.out (by kernel_rfl)) ?_
       try go_wp2
       go_meet
       case rel => exact ⟨_, (false), (by first | rfl | (simp; done) | (simp [*]; done) | (exfalso; simp_all; done)), H', ⟨by have := HJ4.out; first | omega | exact Nat.le_refl _⟩, ⟨by exact Kd.rup (Kd.R_mono HO_472003.out (fun _ hk => ⟨hk.2.2.1, hk.2.2.2⟩))⟩, ⟨by exact Kd.rup (Kd.R_mono HO_473003.out (fun _ hk => ⟨hk.2.2.1, hk.2.2.2⟩))⟩, ⟨by exact Kd.rup (Kd.R_mono HO_474003.out (fun _ hk => ⟨hk.2.2.1, hk.2.2.2⟩))⟩, ⟨by exact bup BK471.out⟩, ⟨by exact bup BK472.out⟩, ⟨by exact bup BK473.out⟩, ⟨hset HB.out⟩⟩
      ·rw [if_neg c56] at H
       have c56b0 : (Op.bytesLess ((strOfNums t481).toList) ((strOfNums t478).toList)) = false := by simpa using c56
       clear c56
       (first | rw [c56b0] | (simp only [i64_w, i32_w]; rw [c56b0]) | skip)
       replace H := Option.bind_eq_some_iff.mp H
       obtain ⟨t484, A630, H⟩ := H
       (try dsimp only at H)
       have A63 := Aside0.mk A630
       clear A630
       replace H := Option.bind_eq_some_iff.mp H
       obtain ⟨t487, A640, H⟩ := H
       (try dsimp only at H)
       have A64 := Aside0.mk A640
       clear A640
       have H' := Aside0.mk H
       clear H
       try go_wp2
       have n0_ := Aside0.mk (Kd.R_drew HO_472003.out)
       have n1_ := Aside0.mk (Kd.R_drew HO_473003.out)
       have n2_ := Aside0.mk (Kd.R_drew HO_474003.out)
       have n3_ := Aside0.mk (blk_drew BK471.out)
       have n4_ := Aside0.mk (blk_drew BK472.out)
       have n5_ := Aside0.mk (blk_drew BK473.out)
       have n6_ := Aside0.mk (below_drew1 HB.out)
       clear HO_472003
       clear HO_473003
       clear HO_474003
       clear BK471
       clear BK472
       clear BK473
       clear HB
       have HO_472003 := n0_
       have HO_473003 := n1_
       have HO_474003 := n2_
       have BK471 := n3_
       have BK472 := n4_
       have BK473 := n5_
       have HB := n6_
       clear n0_ n1_ n2_ n3_ n4_ n5_ n6_
       refine start_ (n := 17) (S := fun w' => w'.cell? ⟨gb471, 0, none⟩ = some (.int .i64 t453) ∧ w'.cell? ⟨gb471, 1, none⟩ = some (.int .i64 t454) ∧ w'.cell? ⟨gb471, 2, none⟩ = some (.float .f64 b455) ∧ w'.cell? ⟨gb471, 3, none⟩ = some (.slice Ao13 t456.length co13) ∧ w'.cell? ⟨gb473, 0, none⟩ = some (.int .i64 t465) ∧ w'.cell? ⟨gb473, 1, none⟩ = some (.int .i64 t466) ∧ w'.cell? ⟨gb473, 2, none⟩ = some (.float .f64 b467) ∧ w'.cell? ⟨gb473, 3, none⟩ = some (.slice Ao18 t468.length co18) ∧ w'.cell? ⟨gb472, 0, none⟩ = some (.int .i64 t459) ∧ w'.cell? ⟨gb472, 1, none⟩ = some (.int .i64 t460) ∧ w'.cell? ⟨gb472, 2, none⟩ = some (.float .f64 b461) ∧ w'.cell? ⟨gb472, 3, none⟩ = some (.slice Ao16 t462.length co16)) (ds := []) #[false, false, false, false, false, false, false, false, false, false, false, false, false, false, false, false, false] (by kernel_rfl) rfl rfl ⟨(blk_cell BK471.out 0).trans rfl, (blk_cell BK471.out 1).trans rfl, (blk_cell BK471.out 2).trans rfl, (blk_cell BK471.out 3).trans rfl, (blk_cell BK473.out 0).trans rfl, (blk_cell BK473.out 1).trans rfl, (blk_cell BK473.out 2).trans rfl, (blk_cell BK473.out 3).trans rfl, (blk_cell BK472.out 0).trans rfl, (blk_cell BK472.out 1).trans rfl, (blk_cell BK472.out 2).trans rfl, (blk_cell BK472.out 3).trans rfl⟩ (fun hHeld => ?_); refine with_tabW laws_FnSpans.tab6 laws_FnSpans.bits6 (fun HT_ HW_ => ?_)
       generalize wc.drew = w65 at HO_472003 HO_473003 HO_474003 BK471 BK472 BK473 HB hHeld ⊢
       refine take_ (i := 0) (N := some 33) (v := ?_) (a' := ?_) #[true, false, false, false, false, false, false, false, false, false, false, false, false, false, false, false, false] rfl rfl (take_ofW HT_.out HW_.out (by kernel_rfl)) (fun _ _ _ h => h) (Or.inl ⟨by rfl, ?_⟩) hHeld ?_ ?_
       rotate_left
       ·rintro w' ⟨s0, s1, s2, s3, s4, s5, s6, s7, s8, s9, s10, s11⟩
        go_simp
        with_reducible rfl
       rotate_left
       ·simp only [Act.put, List.setIfInBounds_toArray, List.set_cons_zero, List.set_cons_succ, i64_w, i32_w]
        rfl
       refine take_ (i := 3) (N := some 36) (v := ?_) (a' := ?_) #[true, false, false, true, false, false, false, false, false, false, false, false, false, false, false, false, false] rfl rfl (take_ofW HT_.out HW_.out (by kernel_rfl)) (fun _ _ _ h => h) (Or.inl ⟨by rfl, ?_⟩) hHeld ?_ ?_
       rotate_left
       ·rintro w' ⟨s0, s1, s2, s3, s4, s5, s6, s7, s8, s9, s10, s11⟩
        go_simp
        with_reducible rfl
       rotate_left
       ·simp only [Act.put, List.setIfInBounds_toArray, List.set_cons_zero, List.set_cons_succ, i64_w, i32_w]
        rfl
       refine one_ (i := 1) (N := some 34) #[true, true, false, true, false, false, false, false, false, false, false, false, false, false, false, false, false] rfl rfl (one_of HT_.out (by kernel_rfl)) (by decide) (fun K hK => ?_)
       refine goes_ Try.func21 (by kernel_rfl) rfl #[.agg #[.int .i64 t453, .int .i64 t454, .float .f64 b455, .slice Ao13 t456.length co13]] (by rfl) rfl rfl (by (try simp only [List.map_toArray, List.map_cons, List.map_nil]); first | done | rfl) ?_
       with_reducible refine (spec_KeyBytes.calls kj4 t453 t454 b455 _ _ t456 t478 _ ?side1 ?side2 ((spec_KeyBytes.inv0 _ _ _ _ _).symm.trans A54.out)).mono ?_
       (case side1 => repeat (first | exact (Kd.R_reads' HO_472003.out).2.2 | (with_reducible refine Kd.C_alloc ?_ _) | (with_reducible refine Kd.C_drewN ?_ _) | (with_reducible refine Kd.C_drew ?_)))
       (case side2 => exact (Kd.R_reads' HO_472003.out).2.1)
       rintro e w66 ⟨v479, rfl, ho0, hb⟩
       refine ⟨_, rfl, ?_⟩
       have n0_ := Aside0.mk (Kd.R_elder' (Kd.rup HO_472003.out) (Kd.R_base ho0) hb)
       have n1_ := Aside0.mk (Kd.R_elder' (Kd.rup HO_473003.out) (Kd.R_base ho0) hb)
       have n2_ := Aside0.mk (Kd.R_elder' (Kd.rup HO_474003.out) (Kd.R_base ho0) hb)
       have n3_ := Aside0.mk (Kd.R_lower (Kd.R_new' (Kd.R_new' (Kd.R_new' ho0 (Kd.R_lt (Kd.rup HO_472003.out))) (Kd.R_lt (Kd.rup HO_473003.out))) (Kd.R_lt (Kd.rup HO_474003.out))) (below_size (hset HB.out)))
       have n4_ := Aside0.mk (blk_below (bup BK471.out) hb)
       have n5_ := Aside0.mk (blk_below (bup BK472.out) hb)
       have n6_ := Aside0.mk (blk_below (bup BK473.out) hb)
       have n7_ := Aside0.mk (below_step (hset HB.out) hb)
       clear HO_472003
       clear HO_473003
       clear HO_474003
       clear BK471
       clear BK472
       clear BK473
       clear HB
       have HO_472003 := n0_
       have HO_473003 := n1_
       have HO_474003 := n2_
       have HO480 := n3_
       have BK471 := n4_
       have BK472 := n5_
       have BK473 := n6_
       have HB := n7_
       clear n0_ n1_ n2_ n3_ n4_ n5_ n6_ n7_
       (try clear hb)
       (try clear hb2)
       (try clear hk)
       (try clear hi)
       (try clear ho0)
       refine hK.out _ _ ⟨(blk_cell BK471.out 0).trans rfl, (blk_cell BK471.out 1).trans rfl, (blk_cell BK471.out 2).trans rfl, (blk_cell BK471.out 3).trans rfl, (blk_cell BK473.out 0).trans rfl, (blk_cell BK473.out 1).trans rfl, (blk_cell BK473.out 2).trans rfl, (blk_cell BK473.out 3).trans rfl, (blk_cell BK472.out 0).trans rfl, (blk_cell BK472.out 1).trans rfl, (blk_cell BK472.out 2).trans rfl, (blk_cell BK472.out 3).trans rfl⟩ (fun hHeld => ?_)
       clear hK K
       refine norm_ (a' := ?_) ?_ ?_
       rotate_left
       ·show Act.put _ (some 34) _ = _
        simp only [Act.put, List.setIfInBounds_toArray, List.set_cons_zero, List.set_cons_succ, i64_w, i32_w]
        rfl
       refine join_ (σ := Value × Value × Value) 3 #[true, true, true, true, true, true, true, true, true, true, true, true, true, true, false, false, false] (fun s_ => [(35, .string (strOfNums t478)), (37, s_.1), (38, .string (strOfNums t481)), (42, s_.2.1), (43, .string (strOfNums t484)), (45, s_.2.2), (46, .string (strOfNums t487)), (39, .bool true), (40, .bool true), (41, .agg #[.int .i64 t465, .int .i64 t466, .float .f64 b467, .slice Ao18 t468.length co18]), (44, .agg #[.int .i64 t459, .int .i64 t460, .float .f64 b461, .slice Ao16 t462.length co16])]) (fun s_ w' => (w'.cell? ⟨gb471, 0, none⟩ = some (.int .i64 t453) ∧ w'.cell? ⟨gb471, 1, none⟩ = some (.int .i64 t454) ∧ w'.cell? ⟨gb471, 2, none⟩ = some (.float .f64 b455) ∧ w'.cell? ⟨gb471, 3, none⟩ = some (.slice Ao13 t456.length co13) ∧ w'.cell? ⟨gb473, 0, none⟩ = some (.int .i64 t465) ∧ w'.cell? ⟨gb473, 1, none⟩ = some (.int .i64 t466) ∧ w'.cell? ⟨gb473, 2, none⟩ = some (.float .f64 b467) ∧ w'.cell? ⟨gb473, 3, none⟩ = some (.slice Ao18 t468.length co18) ∧ w'.cell? ⟨gb472, 0, none⟩ = some (.int .i64 t459) ∧ w'.cell? ⟨gb472, 1, none⟩ = some (.int .i64 t460) ∧ w'.cell? ⟨gb472, 2, none⟩ = some (.float .f64 b461) ∧ w'.cell? ⟨gb472, 3, none⟩ = some (.slice Ao16 t462.length co16)) ∧ (Kd.R (Kd.int .u8) 5 w' w.heap.size (fun k_ => some k_ ≠ (s_.1 : Value).ownBlock ∧ some k_ ≠ (s_.2.1 : Value).ownBlock ∧ some k_ ≠ (s_.2.2 : Value).ownBlock ∧ some k_ ≠ (.slice Ao13 t456.length co13 : Value).ownBlock ∧ some k_ ≠ (.slice Ao16 t462.length co16 : Value).ownBlock ∧ some k_ ≠ (.slice Ao18 t468.length co18 : Value).ownBlock) v479 t478) ∧ (Kd.R (Kd.int .u8) 5 w' w.heap.size (fun k_ => some k_ ≠ (v479 : Value).ownBlock ∧ some k_ ≠ (s_.2.1 : Value).ownBlock ∧ some k_ ≠ (s_.2.2 : Value).ownBlock ∧ some k_ ≠ (.slice Ao13 t456.length co13 : Value).ownBlock ∧ some k_ ≠ (.slice Ao16 t462.length co16 : Value).ownBlock ∧ some k_ ≠ (.slice Ao18 t468.length co18 : Value).ownBlock) s_.1 t481) ∧ (Kd.R (Kd.int .u8) 5 w' w.heap.size (fun k_ => some k_ ≠ (v479 : Value).ownBlock ∧ some k_ ≠ (s_.1 : Value).ownBlock ∧ some k_ ≠ (s_.2.2 : Value).ownBlock ∧ some k_ ≠ (.slice Ao13 t456.length co13 : Value).ownBlock ∧ some k_ ≠ (.slice Ao16 t462.length co16 : Value).ownBlock ∧ some k_ ≠ (.slice Ao18 t468.length co18 : Value).ownBlock) s_.2.1 t484) ∧ (Kd.R (Kd.int .u8) 5 w' w.heap.size (fun k_ => some k_ ≠ (v479 : Value).ownBlock ∧ some k_ ≠ (s_.1 : Value).ownBlock ∧ some k_ ≠ (s_.2.1 : Value).ownBlock ∧ some k_ ≠ (.slice Ao13 t456.length co13 : Value).ownBlock ∧ some k_ ≠ (.slice Ao16 t462.length co16 : Value).ownBlock ∧ some k_ ≠ (.slice Ao18 t468.length co18 : Value).ownBlock) s_.2.2 t487) ∧ (Kd.R (Kd.int .u8) 5 w' w.heap.size (fun k_ => some k_ ≠ (v479 : Value).ownBlock ∧ some k_ ≠ (s_.1 : Value).ownBlock ∧ some k_ ≠ (s_.2.1 : Value).ownBlock ∧ some k_ ≠ (s_.2.2 : Value).ownBlock ∧ some k_ ≠ (.slice Ao16 t462.length co16 : Value).ownBlock ∧ some k_ ≠ (.slice Ao18 t468.length co18 : Value).ownBlock) (.slice Ao13 t456.length co13) t456) ∧ (Kd.R (Kd.int .u8) 5 w' w.heap.size (fun k_ => some k_ ≠ (v479 : Value).ownBlock ∧ some k_ ≠ (s_.1 : Value).ownBlock ∧ some k_ ≠ (s_.2.1 : Value).ownBlock ∧ some k_ ≠ (s_.2.2 : Value).ownBlock ∧ some k_ ≠ (.slice Ao13 t456.length co13 : Value).ownBlock ∧ some k_ ≠ (.slice Ao18 t468.length co18 : Value).ownBlock) (.slice Ao16 t462.length co16) t462) ∧ (Kd.R (Kd.int .u8) 5 w' w.heap.size (fun k_ => some k_ ≠ (v479 : Value).ownBlock ∧ some k_ ≠ (s_.1 : Value).ownBlock ∧ some k_ ≠ (s_.2.1 : Value).ownBlock ∧ some k_ ≠ (s_.2.2 : Value).ownBlock ∧ some k_ ≠ (.slice Ao13 t456.length co13 : Value).ownBlock ∧ some k_ ≠ (.slice Ao16 t462.length co16 : Value).ownBlock) (.slice Ao18 t468.length co18) t468) ∧ (w'.heap[gb471]? = some (.cells #[.int .i64 t453, .int .i64 t454, .float .f64 b455, .slice Ao13 t456.length co13] 28 (0, 0))) ∧ (w'.heap[gb472]? = some (.cells #[.int .i64 t459, .int .i64 t460, .float .f64 b461, .slice Ao16 t462.length co16] 28 (0, 0))) ∧ (w'.heap[gb473]? = some (.cells #[.int .i64 t465, .int .i64 t466, .float .f64 b467, .slice Ao18 t468.length co18] 28 (0, 0))) ∧ (Below w.heap.size w w')) ?_ ?_
       rotate_left
       ·intro hJ2_4_5_9_10_12_13
        refine join_ (σ := Value × Value × Value) 4 #[true, true, true, true, true, true, true, true, true, true, true, true, true, false, false, false, false] (fun s_ => [(35, .string (strOfNums t478)), (37, s_.1), (38, .string (strOfNums t481)), (42, s_.2.1), (43, .string (strOfNums t484)), (45, s_.2.2), (39, .bool true), (40, .bool true), (41, .agg #[.int .i64 t465, .int .i64 t466, .float .f64 b467, .slice Ao18 t468.length co18]), (44, .agg #[.int .i64 t459, .int .i64 t460, .float .f64 b461, .slice Ao16 t462.length co16])]) (fun s_ w' => (w'.cell? ⟨gb471, 0, none⟩ = some (.int .i64 t453) ∧ w'.cell? ⟨gb471, 1, none⟩ = some (.int .i64 t454) ∧ w'.cell? ⟨gb471, 2, none⟩ = some (.float .f64 b455) ∧ w'.cell? ⟨gb471, 3, none⟩ = some (.slice Ao13 t456.length co13) ∧ w'.cell? ⟨gb473, 0, none⟩ = some (.int .i64 t465) ∧ w'.cell? ⟨gb473, 1, none⟩ = some (.int .i64 t466) ∧ w'.cell? ⟨gb473, 2, none⟩ = some (.float .f64 b467) ∧ w'.cell? ⟨gb473, 3, none⟩ = some (.slice Ao18 t468.length co18) ∧ w'.cell? ⟨gb472, 0, none⟩ = some (.int .i64 t459) ∧ w'.cell? ⟨gb472, 1, none⟩ = some (.int .i64 t460) ∧ w'.cell? ⟨gb472, 2, none⟩ = some (.float .f64 b461) ∧ w'.cell? ⟨gb472, 3, none⟩ = some (.slice Ao16 t462.length co16)) ∧ (Kd.R (Kd.int .u8) 5 w' w.heap.size (fun k_ => some k_ ≠ (s_.1 : Value).ownBlock ∧ some k_ ≠ (s_.2.1 : Value).ownBlock ∧ some k_ ≠ (s_.2.2 : Value).ownBlock ∧ some k_ ≠ (.slice Ao13 t456.length co13 : Value).ownBlock ∧ some k_ ≠ (.slice Ao16 t462.length co16 : Value).ownBlock ∧ some k_ ≠ (.slice Ao18 t468.length co18 : Value).ownBlock) v479 t478) ∧ (Kd.R (Kd.int .u8) 5 w' w.heap.size (fun k_ => some k_ ≠ (v479 : Value).ownBlock ∧ some k_ ≠ (s_.2.1 : Value).ownBlock ∧ some k_ ≠ (s_.2.2 : Value).ownBlock ∧ some k_ ≠ (.slice Ao13 t456.length co13 : Value).ownBlock ∧ some k_ ≠ (.slice Ao16 t462.length co16 : Value).ownBlock ∧ some k_ ≠ (.slice Ao18 t468.length co18 : Value).ownBlock) s_.1 t481) ∧ (Kd.R (Kd.int .u8) 5 w' w.heap.size (fun k_ => some k_ ≠ (v479 : Value).ownBlock ∧ some k_ ≠ (s_.1 : Value).ownBlock ∧ some k_ ≠ (s_.2.2 : Value).ownBlock ∧ some k_ ≠ (.slice Ao13 t456.length co13 : Value).ownBlock ∧ some k_ ≠ (.slice Ao16 t462.length co16 : Value).ownBlock ∧ some k_ ≠ (.slice Ao18 t468.length co18 : Value).ownBlock) s_.2.1 t484) ∧ (Kd.R (Kd.int .u8) 5 w' w.heap.size (fun k_ => some k_ ≠ (v479 : Value).ownBlock ∧ some k_ ≠ (s_.1 : Value).ownBlock ∧ some k_ ≠ (s_.2.1 : Value).ownBlock ∧ some k_ ≠ (.slice Ao13 t456.length co13 : Value).ownBlock ∧ some k_ ≠ (.slice Ao16 t462.length co16 : Value).ownBlock ∧ some k_ ≠ (.slice Ao18 t468.length co18 : Value).ownBlock) s_.2.2 t487) ∧ (Kd.R (Kd.int .u8) 5 w' w.heap.size (fun k_ => some k_ ≠ (v479 : Value).ownBlock ∧ some k_ ≠ (s_.1 : Value).ownBlock ∧ some k_ ≠ (s_.2.1 : Value).ownBlock ∧ some k_ ≠ (s_.2.2 : Value).ownBlock ∧ some k_ ≠ (.slice Ao16 t462.length co16 : Value).ownBlock ∧ some k_ ≠ (.slice Ao18 t468.length co18 : Value).ownBlock) (.slice Ao13 t456.length co13) t456) ∧ (Kd.R (Kd.int .u8) 5 w' w.heap.size (fun k_ => some k_ ≠ (v479 : Value).ownBlock ∧ some k_ ≠ (s_.1 : Value).ownBlock ∧ some k_ ≠ (s_.2.1 : Value).ownBlock ∧ some k_ ≠ (s_.2.2 : Value).ownBlock ∧ some k_ ≠ (.slice Ao13 t456.length co13 : Value).ownBlock ∧ some k_ ≠ (.slice Ao18 t468.length co18 : Value).ownBlock) (.slice Ao16 t462.length co16) t462) ∧ (Kd.R (Kd.int .u8) 5 w' w.heap.size (fun k_ => some k_ ≠ (v479 : Value).ownBlock ∧ some k_ ≠ (s_.1 : Value).ownBlock ∧ some k_ ≠ (s_.2.1 : Value).ownBlock ∧ some k_ ≠ (s_.2.2 : Value).ownBlock ∧ some k_ ≠ (.slice Ao13 t456.length co13 : Value).ownBlock ∧ some k_ ≠ (.slice Ao16 t462.length co16 : Value).ownBlock) (.slice Ao18 t468.length co18) t468) ∧ (w'.heap[gb471]? = some (.cells #[.int .i64 t453, .int .i64 t454, .float .f64 b455, .slice Ao13 t456.length co13] 28 (0, 0))) ∧ (w'.heap[gb472]? = some (.cells #[.int .i64 t459, .int .i64 t460, .float .f64 b461, .slice Ao16 t462.length co16] 28 (0, 0))) ∧ (w'.heap[gb473]? = some (.cells #[.int .i64 t465, .int .i64 t466, .float .f64 b467, .slice Ao18 t468.length co18] 28 (0, 0))) ∧ (Below w.heap.size w w')) ?_ ?_
        rotate_left
        ·intro hJ2_4_5_9_10_12
         refine join_ (σ := Value × Value × Value) 4 #[true, true, true, true, true, true, true, true, true, true, false, true, true, true, false, false, false] (fun s_ => [(35, .string (strOfNums t478)), (37, s_.1), (38, .string (strOfNums t481)), (42, s_.2.1), (45, s_.2.2), (46, .string (strOfNums t487)), (39, .bool true), (40, .bool true), (41, .agg #[.int .i64 t465, .int .i64 t466, .float .f64 b467, .slice Ao18 t468.length co18]), (44, .agg #[.int .i64 t459, .int .i64 t460, .float .f64 b461, .slice Ao16 t462.length co16])]) (fun s_ w' => (w'.cell? ⟨gb471, 0, none⟩ = some (.int .i64 t453) ∧ w'.cell? ⟨gb471, 1, none⟩ = some (.int .i64 t454) ∧ w'.cell? ⟨gb471, 2, none⟩ = some (.float .f64 b455) ∧ w'.cell? ⟨gb471, 3, none⟩ = some (.slice Ao13 t456.length co13) ∧ w'.cell? ⟨gb473, 0, none⟩ = some (.int .i64 t465) ∧ w'.cell? ⟨gb473, 1, none⟩ = some (.int .i64 t466) ∧ w'.cell? ⟨gb473, 2, none⟩ = some (.float .f64 b467) ∧ w'.cell? ⟨gb473, 3, none⟩ = some (.slice Ao18 t468.length co18) ∧ w'.cell? ⟨gb472, 0, none⟩ = some (.int .i64 t459) ∧ w'.cell? ⟨gb472, 1, none⟩ = some (.int .i64 t460) ∧ w'.cell? ⟨gb472, 2, none⟩ = some (.float .f64 b461) ∧ w'.cell? ⟨gb472, 3, none⟩ = some (.slice Ao16 t462.length co16)) ∧ (Kd.R (Kd.int .u8) 5 w' w.heap.size (fun k_ => some k_ ≠ (s_.1 : Value).ownBlock ∧ some k_ ≠ (s_.2.1 : Value).ownBlock ∧ some k_ ≠ (s_.2.2 : Value).ownBlock ∧ some k_ ≠ (.slice Ao13 t456.length co13 : Value).ownBlock ∧ some k_ ≠ (.slice Ao16 t462.length co16 : Value).ownBlock ∧ some k_ ≠ (.slice Ao18 t468.length co18 : Value).ownBlock) v479 t478) ∧ (Kd.R (Kd.int .u8) 5 w' w.heap.size (fun k_ => some k_ ≠ (v479 : Value).ownBlock ∧ some k_ ≠ (s_.2.1 : Value).ownBlock ∧ some k_ ≠ (s_.2.2 : Value).ownBlock ∧ some k_ ≠ (.slice Ao13 t456.length co13 : Value).ownBlock ∧ some k_ ≠ (.slice Ao16 t462.length co16 : Value).ownBlock ∧ some k_ ≠ (.slice Ao18 t468.length co18 : Value).ownBlock) s_.1 t481) ∧ (Kd.R (Kd.int .u8) 5 w' w.heap.size (fun k_ => some k_ ≠ (v479 : Value).ownBlock ∧ some k_ ≠ (s_.1 : Value).ownBlock ∧ some k_ ≠ (s_.2.2 : Value).ownBlock ∧ some k_ ≠ (.slice Ao13 t456.length co13 : Value).ownBlock ∧ some k_ ≠ (.slice Ao16 t462.length co16 : Value).ownBlock ∧ some k_ ≠ (.slice Ao18 t468.length co18 : Value).ownBlock) s_.2.1 t484) ∧ (Kd.R (Kd.int .u8) 5 w' w.heap.size (fun k_ => some k_ ≠ (v479 : Value).ownBlock ∧ some k_ ≠ (s_.1 : Value).ownBlock ∧ some k_ ≠ (s_.2.1 : Value).ownBlock ∧ some k_ ≠ (.slice Ao13 t456.length co13 : Value).ownBlock ∧ some k_ ≠ (.slice Ao16 t462.length co16 : Value).ownBlock ∧ some k_ ≠ (.slice Ao18 t468.length co18 : Value).ownBlock) s_.2.2 t487) ∧ (Kd.R (Kd.int .u8) 5 w' w.heap.size (fun k_ => some k_ ≠ (v479 : Value).ownBlock ∧ some k_ ≠ (s_.1 : Value).ownBlock ∧ some k_ ≠ (s_.2.1 : Value).ownBlock ∧ some k_ ≠ (s_.2.2 : Value).ownBlock ∧ some k_ ≠ (.slice Ao16 t462.length co16 : Value).ownBlock ∧ some k_ ≠ (.slice Ao18 t468.length co18 : Value).ownBlock) (.slice Ao13 t456.length co13) t456) ∧ (Kd.R (Kd.int .u8) 5 w' w.heap.size (fun k_ => some k_ ≠ (v479 : Value).ownBlock ∧ some k_ ≠ (s_.1 : Value).ownBlock ∧ some k_ ≠ (s_.2.1 : Value).ownBlock ∧ some k_ ≠ (s_.2.2 : Value).ownBlock ∧ some k_ ≠ (.slice Ao13 t456.length co13 : Value).ownBlock ∧ some k_ ≠ (.slice Ao18 t468.length co18 : Value).ownBlock) (.slice Ao16 t462.length co16) t462) ∧ (Kd.R (Kd.int .u8) 5 w' w.heap.size (fun k_ => some k_ ≠ (v479 : Value).ownBlock ∧ some k_ ≠ (s_.1 : Value).ownBlock ∧ some k_ ≠ (s_.2.1 : Value).ownBlock ∧ some k_ ≠ (s_.2.2 : Value).ownBlock ∧ some k_ ≠ (.slice Ao13 t456.length co13 : Value).ownBlock ∧ some k_ ≠ (.slice Ao16 t462.length co16 : Value).ownBlock) (.slice Ao18 t468.length co18) t468) ∧ (w'.heap[gb471]? = some (.cells #[.int .i64 t453, .int .i64 t454, .float .f64 b455, .slice Ao13 t456.length co13] 28 (0, 0))) ∧ (w'.heap[gb472]? = some (.cells #[.int .i64 t459, .int .i64 t460, .float .f64 b461, .slice Ao16 t462.length co16] 28 (0, 0))) ∧ (w'.heap[gb473]? = some (.cells #[.int .i64 t465, .int .i64 t466, .float .f64 b467, .slice Ao18 t468.length co18] 28 (0, 0))) ∧ (Below w.heap.size w w')) ?_ ?_
         rotate_left
         ·intro hJ2_4_5_9_12_13
          refine join_ (σ := Value × Value) 5 #[true, true, true, true, true, true, true, true, true, true, true, true, false, false, false, false, false] (fun s_ => [(35, .string (strOfNums t478)), (37, s_.1), (38, .string (strOfNums t481)), (42, s_.2), (43, .string (strOfNums t484)), (39, .bool true), (40, .bool true), (41, .agg #[.int .i64 t465, .int .i64 t466, .float .f64 b467, .slice Ao18 t468.length co18]), (44, .agg #[.int .i64 t459, .int .i64 t460, .float .f64 b461, .slice Ao16 t462.length co16])]) (fun s_ w' => (w'.cell? ⟨gb471, 0, none⟩ = some (.int .i64 t453) ∧ w'.cell? ⟨gb471, 1, none⟩ = some (.int .i64 t454) ∧ w'.cell? ⟨gb471, 2, none⟩ = some (.float .f64 b455) ∧ w'.cell? ⟨gb471, 3, none⟩ = some (.slice Ao13 t456.length co13) ∧ w'.cell? ⟨gb473, 0, none⟩ = some (.int .i64 t465) ∧ w'.cell? ⟨gb473, 1, none⟩ = some (.int .i64 t466) ∧ w'.cell? ⟨gb473, 2, none⟩ = some (.float .f64 b467) ∧ w'.cell? ⟨gb473, 3, none⟩ = some (.slice Ao18 t468.length co18) ∧ w'.cell? ⟨gb472, 0, none⟩ = some (.int .i64 t459) ∧ w'.cell? ⟨gb472, 1, none⟩ = some (.int .i64 t460) ∧ w'.cell? ⟨gb472, 2, none⟩ = some (.float .f64 b461) ∧ w'.cell? ⟨gb472, 3, none⟩ = some (.slice Ao16 t462.length co16)) ∧ (Kd.R (Kd.int .u8) 5 w' w.heap.size (fun k_ => some k_ ≠ (s_.1 : Value).ownBlock ∧ some k_ ≠ (s_.2 : Value).ownBlock ∧ some k_ ≠ (.slice Ao13 t456.length co13 : Value).ownBlock ∧ some k_ ≠ (.slice Ao16 t462.length co16 : Value).ownBlock ∧ some k_ ≠ (.slice Ao18 t468.length co18 : Value).ownBlock) v479 t478) ∧ (Kd.R (Kd.int .u8) 5 w' w.heap.size (fun k_ => some k_ ≠ (v479 : Value).ownBlock ∧ some k_ ≠ (s_.2 : Value).ownBlock ∧ some k_ ≠ (.slice Ao13 t456.length co13 : Value).ownBlock ∧ some k_ ≠ (.slice Ao16 t462.length co16 : Value).ownBlock ∧ some k_ ≠ (.slice Ao18 t468.length co18 : Value).ownBlock) s_.1 t481) ∧ (Kd.R (Kd.int .u8) 5 w' w.heap.size (fun k_ => some k_ ≠ (v479 : Value).ownBlock ∧ some k_ ≠ (s_.1 : Value).ownBlock ∧ some k_ ≠ (.slice Ao13 t456.length co13 : Value).ownBlock ∧ some k_ ≠ (.slice Ao16 t462.length co16 : Value).ownBlock ∧ some k_ ≠ (.slice Ao18 t468.length co18 : Value).ownBlock) s_.2 t484) ∧ (Kd.R (Kd.int .u8) 5 w' w.heap.size (fun k_ => some k_ ≠ (v479 : Value).ownBlock ∧ some k_ ≠ (s_.1 : Value).ownBlock ∧ some k_ ≠ (s_.2 : Value).ownBlock ∧ some k_ ≠ (.slice Ao16 t462.length co16 : Value).ownBlock ∧ some k_ ≠ (.slice Ao18 t468.length co18 : Value).ownBlock) (.slice Ao13 t456.length co13) t456) ∧ (Kd.R (Kd.int .u8) 5 w' w.heap.size (fun k_ => some k_ ≠ (v479 : Value).ownBlock ∧ some k_ ≠ (s_.1 : Value).ownBlock ∧ some k_ ≠ (s_.2 : Value).ownBlock ∧ some k_ ≠ (.slice Ao13 t456.length co13 : Value).ownBlock ∧ some k_ ≠ (.slice Ao18 t468.length co18 : Value).ownBlock) (.slice Ao16 t462.length co16) t462) ∧ (Kd.R (Kd.int .u8) 5 w' w.heap.size (fun k_ => some k_ ≠ (v479 : Value).ownBlock ∧ some k_ ≠ (s_.1 : Value).ownBlock ∧ some k_ ≠ (s_.2 : Value).ownBlock ∧ some k_ ≠ (.slice Ao13 t456.length co13 : Value).ownBlock ∧ some k_ ≠ (.slice Ao16 t462.length co16 : Value).ownBlock) (.slice Ao18 t468.length co18) t468) ∧ (w'.heap[gb471]? = some (.cells #[.int .i64 t453, .int .i64 t454, .float .f64 b455, .slice Ao13 t456.length co13] 28 (0, 0))) ∧ (w'.heap[gb472]? = some (.cells #[.int .i64 t459, .int .i64 t460, .float .f64 b461, .slice Ao16 t462.length co16] 28 (0, 0))) ∧ (w'.heap[gb473]? = some (.cells #[.int .i64 t465, .int .i64 t466, .float .f64 b467, .slice Ao18 t468.length co18] 28 (0, 0))) ∧ (Below w.heap.size w w')) ?_ ?_
          rotate_left
          ·intro hJ2_4_5_9_10
           refine join_ (σ := Value × Value × Value) 5 #[true, true, true, true, true, true, true, true, true, true, false, true, true, false, false, false, false] (fun s_ => [(35, .string (strOfNums t478)), (37, s_.1), (38, .string (strOfNums t481)), (42, s_.2.1), (45, s_.2.2), (39, .bool true), (40, .bool true), (41, .agg #[.int .i64 t465, .int .i64 t466, .float .f64 b467, .slice Ao18 t468.length co18]), (44, .agg #[.int .i64 t459, .int .i64 t460, .float .f64 b461, .slice Ao16 t462.length co16])]) (fun s_ w' => (w'.cell? ⟨gb471, 0, none⟩ = some (.int .i64 t453) ∧ w'.cell? ⟨gb471, 1, none⟩ = some (.int .i64 t454) ∧ w'.cell? ⟨gb471, 2, none⟩ = some (.float .f64 b455) ∧ w'.cell? ⟨gb471, 3, none⟩ = some (.slice Ao13 t456.length co13) ∧ w'.cell? ⟨gb473, 0, none⟩ = some (.int .i64 t465) ∧ w'.cell? ⟨gb473, 1, none⟩ = some (.int .i64 t466) ∧ w'.cell? ⟨gb473, 2, none⟩ = some (.float .f64 b467) ∧ w'.cell? ⟨gb473, 3, none⟩ = some (.slice Ao18 t468.length co18) ∧ w'.cell? ⟨gb472, 0, none⟩ = some (.int .i64 t459) ∧ w'.cell? ⟨gb472, 1, none⟩ = some (.int .i64 t460) ∧ w'.cell? ⟨gb472, 2, none⟩ = some (.float .f64 b461) ∧ w'.cell? ⟨gb472, 3, none⟩ = some (.slice Ao16 t462.length co16)) ∧ (Kd.R (Kd.int .u8) 5 w' w.heap.size (fun k_ => some k_ ≠ (s_.1 : Value).ownBlock ∧ some k_ ≠ (s_.2.1 : Value).ownBlock ∧ some k_ ≠ (s_.2.2 : Value).ownBlock ∧ some k_ ≠ (.slice Ao13 t456.length co13 : Value).ownBlock ∧ some k_ ≠ (.slice Ao16 t462.length co16 : Value).ownBlock ∧ some k_ ≠ (.slice Ao18 t468.length co18 : Value).ownBlock) v479 t478) ∧ (Kd.R (Kd.int .u8) 5 w' w.heap.size (fun k_ => some k_ ≠ (v479 : Value).ownBlock ∧ some k_ ≠ (s_.2.1 : Value).ownBlock ∧ some k_ ≠ (s_.2.2 : Value).ownBlock ∧ some k_ ≠ (.slice Ao13 t456.length co13 : Value).ownBlock ∧ some k_ ≠ (.slice Ao16 t462.length co16 : Value).ownBlock ∧ some k_ ≠ (.slice Ao18 t468.length co18 : Value).ownBlock) s_.1 t481) ∧ (Kd.R (Kd.int .u8) 5 w' w.heap.size (fun k_ => some k_ ≠ (v479 : Value).ownBlock ∧ some k_ ≠ (s_.1 : Value).ownBlock ∧ some k_ ≠ (s_.2.2 : Value).ownBlock ∧ some k_ ≠ (.slice Ao13 t456.length co13 : Value).ownBlock ∧ some k_ ≠ (.slice Ao16 t462.length co16 : Value).ownBlock ∧ some k_ ≠ (.slice Ao18 t468.length co18 : Value).ownBlock) s_.2.1 t484) ∧ (Kd.R (Kd.int .u8) 5 w' w.heap.size (fun k_ => some k_ ≠ (v479 : Value).ownBlock ∧ some k_ ≠ (s_.1 : Value).ownBlock ∧ some k_ ≠ (s_.2.1 : Value).ownBlock ∧ some k_ ≠ (.slice Ao13 t456.length co13 : Value).ownBlock ∧ some k_ ≠ (.slice Ao16 t462.length co16 : Value).ownBlock ∧ some k_ ≠ (.slice Ao18 t468.length co18 : Value).ownBlock) s_.2.2 t487) ∧ (Kd.R (Kd.int .u8) 5 w' w.heap.size (fun k_ => some k_ ≠ (v479 : Value).ownBlock ∧ some k_ ≠ (s_.1 : Value).ownBlock ∧ some k_ ≠ (s_.2.1 : Value).ownBlock ∧ some k_ ≠ (s_.2.2 : Value).ownBlock ∧ some k_ ≠ (.slice Ao16 t462.length co16 : Value).ownBlock ∧ some k_ ≠ (.slice Ao18 t468.length co18 : Value).ownBlock) (.slice Ao13 t456.length co13) t456) ∧ (Kd.R (Kd.int .u8) 5 w' w.heap.size (fun k_ => some k_ ≠ (v479 : Value).ownBlock ∧ some k_ ≠ (s_.1 : Value).ownBlock ∧ some k_ ≠ (s_.2.1 : Value).ownBlock ∧ some k_ ≠ (s_.2.2 : Value).ownBlock ∧ some k_ ≠ (.slice Ao13 t456.length co13 : Value).ownBlock ∧ some k_ ≠ (.slice Ao18 t468.length co18 : Value).ownBlock) (.slice Ao16 t462.length co16) t462) ∧ (Kd.R (Kd.int .u8) 5 w' w.heap.size (fun k_ => some k_ ≠ (v479 : Value).ownBlock ∧ some k_ ≠ (s_.1 : Value).ownBlock ∧ some k_ ≠ (s_.2.1 : Value).ownBlock ∧ some k_ ≠ (s_.2.2 : Value).ownBlock ∧ some k_ ≠ (.slice Ao13 t456.length co13 : Value).ownBlock ∧ some k_ ≠ (.slice Ao16 t462.length co16 : Value).ownBlock) (.slice Ao18 t468.length co18) t468) ∧ (w'.heap[gb471]? = some (.cells #[.int .i64 t453, .int .i64 t454, .float .f64 b455, .slice Ao13 t456.length co13] 28 (0, 0))) ∧ (w'.heap[gb472]? = some (.cells #[.int .i64 t459, .int .i64 t460, .float .f64 b461, .slice Ao16 t462.length co16] 28 (0, 0))) ∧ (w'.heap[gb473]? = some (.cells #[.int .i64 t465, .int .i64 t466, .float .f64 b467, .slice Ao18 t468.length co18] 28 (0, 0))) ∧ (Below w.heap.size w w')) ?_ ?_
           rotate_left
           ·intro hJ2_4_5_9_12
            refine join_ (σ := Value × Value) 6 #[true, true, true, true, true, true, true, true, true, true, false, true, false, false, false, false, false] (fun s_ => [(35, .string (strOfNums t478)), (37, s_.1), (38, .string (strOfNums t481)), (42, s_.2), (39, .bool true), (40, .bool true), (41, .agg #[.int .i64 t465, .int .i64 t466, .float .f64 b467, .slice Ao18 t468.length co18]), (44, .agg #[.int .i64 t459, .int .i64 t460, .float .f64 b461, .slice Ao16 t462.length co16])]) (fun s_ w' => (w'.cell? ⟨gb471, 0, none⟩ = some (.int .i64 t453) ∧ w'.cell? ⟨gb471, 1, none⟩ = some (.int .i64 t454) ∧ w'.cell? ⟨gb471, 2, none⟩ = some (.float .f64 b455) ∧ w'.cell? ⟨gb471, 3, none⟩ = some (.slice Ao13 t456.length co13) ∧ w'.cell? ⟨gb473, 0, none⟩ = some (.int .i64 t465) ∧ w'.cell? ⟨gb473, 1, none⟩ = some (.int .i64 t466) ∧ w'.cell? ⟨gb473, 2, none⟩ = some (.float .f64 b467) ∧ w'.cell? ⟨gb473, 3, none⟩ = some (.slice Ao18 t468.length co18) ∧ w'.cell? ⟨gb472, 0, none⟩ = some (.int .i64 t459) ∧ w'.cell? ⟨gb472, 1, none⟩ = some (.int .i64 t460) ∧ w'.cell? ⟨gb472, 2, none⟩ = some (.float .f64 b461) ∧ w'.cell? ⟨gb472, 3, none⟩ = some (.slice Ao16 t462.length co16)) ∧ (Kd.R (Kd.int .u8) 5 w' w.heap.size (fun k_ => some k_ ≠ (s_.1 : Value).ownBlock ∧ some k_ ≠ (s_.2 : Value).ownBlock ∧ some k_ ≠ (.slice Ao13 t456.length co13 : Value).ownBlock ∧ some k_ ≠ (.slice Ao16 t462.length co16 : Value).ownBlock ∧ some k_ ≠ (.slice Ao18 t468.length co18 : Value).ownBlock) v479 t478) ∧ (Kd.R (Kd.int .u8) 5 w' w.heap.size (fun k_ => some k_ ≠ (v479 : Value).ownBlock ∧ some k_ ≠ (s_.2 : Value).ownBlock ∧ some k_ ≠ (.slice Ao13 t456.length co13 : Value).ownBlock ∧ some k_ ≠ (.slice Ao16 t462.length co16 : Value).ownBlock ∧ some k_ ≠ (.slice Ao18 t468.length co18 : Value).ownBlock) s_.1 t481) ∧ (Kd.R (Kd.int .u8) 5 w' w.heap.size (fun k_ => some k_ ≠ (v479 : Value).ownBlock ∧ some k_ ≠ (s_.1 : Value).ownBlock ∧ some k_ ≠ (.slice Ao13 t456.length co13 : Value).ownBlock ∧ some k_ ≠ (.slice Ao16 t462.length co16 : Value).ownBlock ∧ some k_ ≠ (.slice Ao18 t468.length co18 : Value).ownBlock) s_.2 t484) ∧ (Kd.R (Kd.int .u8) 5 w' w.heap.size (fun k_ => some k_ ≠ (v479 : Value).ownBlock ∧ some k_ ≠ (s_.1 : Value).ownBlock ∧ some k_ ≠ (s_.2 : Value).ownBlock ∧ some k_ ≠ (.slice Ao16 t462.length co16 : Value).ownBlock ∧ some k_ ≠ (.slice Ao18 t468.length co18 : Value).ownBlock) (.slice Ao13 t456.length co13) t456) ∧ (Kd.R (Kd.int .u8) 5 w' w.heap.size (fun k_ => some k_ ≠ (v479 : Value).ownBlock ∧ some k_ ≠ (s_.1 : Value).ownBlock ∧ some k_ ≠ (s_.2 : Value).ownBlock ∧ some k_ ≠ (.slice Ao13 t456.length co13 : Value).ownBlock ∧ some k_ ≠ (.slice Ao18 t468.length co18 : Value).ownBlock) (.slice Ao16 t462.length co16) t462) ∧ (Kd.R (Kd.int .u8) 5 w' w.heap.size (fun k_ => some k_ ≠ (v479 : Value).ownBlock ∧ some k_ ≠ (s_.1 : Value).ownBlock ∧ some k_ ≠ (s_.2 : Value).ownBlock ∧ some k_ ≠ (.slice Ao13 t456.length co13 : Value).ownBlock ∧ some k_ ≠ (.slice Ao16 t462.length co16 : Value).ownBlock) (.slice Ao18 t468.length co18) t468) ∧ (w'.heap[gb471]? = some (.cells #[.int .i64 t453, .int .i64 t454, .float .f64 b455, .slice Ao13 t456.length co13] 28 (0, 0))) ∧ (w'.heap[gb472]? = some (.cells #[.int .i64 t459, .int .i64 t460, .float .f64 b461, .slice Ao16 t462.length co16] 28 (0, 0))) ∧ (w'.heap[gb473]? = some (.cells #[.int .i64 t465, .int .i64 t466, .float .f64 b467, .slice Ao18 t468.length co18] 28 (0, 0))) ∧ (Below w.heap.size w w')) ?_ ?_
            rotate_left
            ·intro hJ2_4_5_9
             refine join_ (σ := Value) 7 #[true, true, true, true, true, true, true, true, true, false, false, true, false, false, false, false, false] (fun s_ => [(35, .string (strOfNums t478)), (37, s_), (38, .string (strOfNums t481)), (39, .bool true), (40, .bool true), (41, .agg #[.int .i64 t465, .int .i64 t466, .float .f64 b467, .slice Ao18 t468.length co18]), (44, .agg #[.int .i64 t459, .int .i64 t460, .float .f64 b461, .slice Ao16 t462.length co16])]) (fun s_ w' => (w'.cell? ⟨gb471, 0, none⟩ = some (.int .i64 t453) ∧ w'.cell? ⟨gb471, 1, none⟩ = some (.int .i64 t454) ∧ w'.cell? ⟨gb471, 2, none⟩ = some (.float .f64 b455) ∧ w'.cell? ⟨gb471, 3, none⟩ = some (.slice Ao13 t456.length co13) ∧ w'.cell? ⟨gb473, 0, none⟩ = some (.int .i64 t465) ∧ w'.cell? ⟨gb473, 1, none⟩ = some (.int .i64 t466) ∧ w'.cell? ⟨gb473, 2, none⟩ = some (.float .f64 b467) ∧ w'.cell? ⟨gb473, 3, none⟩ = some (.slice Ao18 t468.length co18) ∧ w'.cell? ⟨gb472, 0, none⟩ = some (.int .i64 t459) ∧ w'.cell? ⟨gb472, 1, none⟩ = some (.int .i64 t460) ∧ w'.cell? ⟨gb472, 2, none⟩ = some (.float .f64 b461) ∧ w'.cell? ⟨gb472, 3, none⟩ = some (.slice Ao16 t462.length co16)) ∧ (Kd.R (Kd.int .u8) 5 w' w.heap.size (fun k_ => some k_ ≠ (s_ : Value).ownBlock ∧ some k_ ≠ (.slice Ao13 t456.length co13 : Value).ownBlock ∧ some k_ ≠ (.slice Ao16 t462.length co16 : Value).ownBlock ∧ some k_ ≠ (.slice Ao18 t468.length co18 : Value).ownBlock) v479 t478) ∧ (Kd.R (Kd.int .u8) 5 w' w.heap.size (fun k_ => some k_ ≠ (v479 : Value).ownBlock ∧ some k_ ≠ (.slice Ao13 t456.length co13 : Value).ownBlock ∧ some k_ ≠ (.slice Ao16 t462.length co16 : Value).ownBlock ∧ some k_ ≠ (.slice Ao18 t468.length co18 : Value).ownBlock) s_ t481) ∧ (Kd.R (Kd.int .u8) 5 w' w.heap.size (fun k_ => some k_ ≠ (v479 : Value).ownBlock ∧ some k_ ≠ (s_ : Value).ownBlock ∧ some k_ ≠ (.slice Ao16 t462.length co16 : Value).ownBlock ∧ some k_ ≠ (.slice Ao18 t468.length co18 : Value).ownBlock) (.slice Ao13 t456.length co13) t456) ∧ (Kd.R (Kd.int .u8) 5 w' w.heap.size (fun k_ => some k_ ≠ (v479 : Value).ownBlock ∧ some k_ ≠ (s_ : Value).ownBlock ∧ some k_ ≠ (.slice Ao13 t456.length co13 : Value).ownBlock ∧ some k_ ≠ (.slice Ao18 t468.length co18 : Value).ownBlock) (.slice Ao16 t462.length co16) t462) ∧ (Kd.R (Kd.int .u8) 5 w' w.heap.size (fun k_ => some k_ ≠ (v479 : Value).ownBlock ∧ some k_ ≠ (s_ : Value).ownBlock ∧ some k_ ≠ (.slice Ao13 t456.length co13 : Value).ownBlock ∧ some k_ ≠ (.slice Ao16 t462.length co16 : Value).ownBlock) (.slice Ao18 t468.length co18) t468) ∧ (w'.heap[gb471]? = some (.cells #[.int .i64 t453, .int .i64 t454, .float .f64 b455, .slice Ao13 t456.length co13] 28 (0, 0))) ∧ (w'.heap[gb472]? = some (.cells #[.int .i64 t459, .int .i64 t460, .float .f64 b461, .slice Ao16 t462.length co16] 28 (0, 0))) ∧ (w'.heap[gb473]? = some (.cells #[.int .i64 t465, .int .i64 t466, .float .f64 b467, .slice Ao18 t468.length co18] 28 (0, 0))) ∧ (Below w.heap.size w w')) ?_ ?_
             rotate_left
             ·intro hJ2_4_5
              refine join_ (σ := Value) 12 #[true, true, true, true, true, false, false, false, false, false, false, false, false, false, false, false, false] (fun s_ => [(35, .string (strOfNums t478)), (37, s_)]) (fun s_ w' => (w'.cell? ⟨gb471, 0, none⟩ = some (.int .i64 t453) ∧ w'.cell? ⟨gb471, 1, none⟩ = some (.int .i64 t454) ∧ w'.cell? ⟨gb471, 2, none⟩ = some (.float .f64 b455) ∧ w'.cell? ⟨gb471, 3, none⟩ = some (.slice Ao13 t456.length co13) ∧ w'.cell? ⟨gb473, 0, none⟩ = some (.int .i64 t465) ∧ w'.cell? ⟨gb473, 1, none⟩ = some (.int .i64 t466) ∧ w'.cell? ⟨gb473, 2, none⟩ = some (.float .f64 b467) ∧ w'.cell? ⟨gb473, 3, none⟩ = some (.slice Ao18 t468.length co18) ∧ w'.cell? ⟨gb472, 0, none⟩ = some (.int .i64 t459) ∧ w'.cell? ⟨gb472, 1, none⟩ = some (.int .i64 t460) ∧ w'.cell? ⟨gb472, 2, none⟩ = some (.float .f64 b461) ∧ w'.cell? ⟨gb472, 3, none⟩ = some (.slice Ao16 t462.length co16)) ∧ (Kd.R (Kd.int .u8) 5 w' w.heap.size (fun k_ => some k_ ≠ (s_ : Value).ownBlock ∧ some k_ ≠ (.slice Ao13 t456.length co13 : Value).ownBlock ∧ some k_ ≠ (.slice Ao16 t462.length co16 : Value).ownBlock ∧ some k_ ≠ (.slice Ao18 t468.length co18 : Value).ownBlock) v479 t478) ∧ (Kd.R (Kd.int .u8) 5 w' w.heap.size (fun k_ => some k_ ≠ (v479 : Value).ownBlock ∧ some k_ ≠ (.slice Ao13 t456.length co13 : Value).ownBlock ∧ some k_ ≠ (.slice Ao16 t462.length co16 : Value).ownBlock ∧ some k_ ≠ (.slice Ao18 t468.length co18 : Value).ownBlock) s_ t481) ∧ (Kd.R (Kd.int .u8) 5 w' w.heap.size (fun k_ => some k_ ≠ (v479 : Value).ownBlock ∧ some k_ ≠ (s_ : Value).ownBlock ∧ some k_ ≠ (.slice Ao16 t462.length co16 : Value).ownBlock ∧ some k_ ≠ (.slice Ao18 t468.length co18 : Value).ownBlock) (.slice Ao13 t456.length co13) t456) ∧ (Kd.R (Kd.int .u8) 5 w' w.heap.size (fun k_ => some k_ ≠ (v479 : Value).ownBlock ∧ some k_ ≠ (s_ : Value).ownBlock ∧ some k_ ≠ (.slice Ao13 t456.length co13 : Value).ownBlock ∧ some k_ ≠ (.slice Ao18 t468.length co18 : Value).ownBlock) (.slice Ao16 t462.length co16) t462) ∧ (Kd.R (Kd.int .u8) 5 w' w.heap.size (fun k_ => some k_ ≠ (v479 : Value).ownBlock ∧ some k_ ≠ (s_ : Value).ownBlock ∧ some k_ ≠ (.slice Ao13 t456.length co13 : Value).ownBlock ∧ some k_ ≠ (.slice Ao16 t462.length co16 : Value).ownBlock) (.slice Ao18 t468.length co18) t468) ∧ (w'.heap[gb471]? = some (.cells #[.int .i64 t453, .int .i64 t454, .float .f64 b455, .slice Ao13 t456.length co13] 28 (0, 0))) ∧ (w'.heap[gb472]? = some (.cells #[.int .i64 t459, .int .i64 t460, .float .f64 b461, .slice Ao16 t462.length co16] 28 (0, 0))) ∧ (w'.heap[gb473]? = some (.cells #[.int .i64 t465, .int .i64 t466, .float .f64 b467, .slice Ao18 t468.length co18] 28 (0, 0))) ∧ (Below w.heap.size w w')) ?_ ?_
              rotate_left
              ·intro hJ2_4
               refine join_ (σ := Value) 12 #[true, true, false, true, true, true, false, false, false, false, false, false, false, false, false, false, false] (fun s_ => [(37, s_), (38, .string (strOfNums t481))]) (fun s_ w' => (w'.cell? ⟨gb471, 0, none⟩ = some (.int .i64 t453) ∧ w'.cell? ⟨gb471, 1, none⟩ = some (.int .i64 t454) ∧ w'.cell? ⟨gb471, 2, none⟩ = some (.float .f64 b455) ∧ w'.cell? ⟨gb471, 3, none⟩ = some (.slice Ao13 t456.length co13) ∧ w'.cell? ⟨gb473, 0, none⟩ = some (.int .i64 t465) ∧ w'.cell? ⟨gb473, 1, none⟩ = some (.int .i64 t466) ∧ w'.cell? ⟨gb473, 2, none⟩ = some (.float .f64 b467) ∧ w'.cell? ⟨gb473, 3, none⟩ = some (.slice Ao18 t468.length co18) ∧ w'.cell? ⟨gb472, 0, none⟩ = some (.int .i64 t459) ∧ w'.cell? ⟨gb472, 1, none⟩ = some (.int .i64 t460) ∧ w'.cell? ⟨gb472, 2, none⟩ = some (.float .f64 b461) ∧ w'.cell? ⟨gb472, 3, none⟩ = some (.slice Ao16 t462.length co16)) ∧ (Kd.R (Kd.int .u8) 5 w' w.heap.size (fun k_ => some k_ ≠ (s_ : Value).ownBlock ∧ some k_ ≠ (.slice Ao13 t456.length co13 : Value).ownBlock ∧ some k_ ≠ (.slice Ao16 t462.length co16 : Value).ownBlock ∧ some k_ ≠ (.slice Ao18 t468.length co18 : Value).ownBlock) v479 t478) ∧ (Kd.R (Kd.int .u8) 5 w' w.heap.size (fun k_ => some k_ ≠ (v479 : Value).ownBlock ∧ some k_ ≠ (.slice Ao13 t456.length co13 : Value).ownBlock ∧ some k_ ≠ (.slice Ao16 t462.length co16 : Value).ownBlock ∧ some k_ ≠ (.slice Ao18 t468.length co18 : Value).ownBlock) s_ t481) ∧ (Kd.R (Kd.int .u8) 5 w' w.heap.size (fun k_ => some k_ ≠ (v479 : Value).ownBlock ∧ some k_ ≠ (s_ : Value).ownBlock ∧ some k_ ≠ (.slice Ao16 t462.length co16 : Value).ownBlock ∧ some k_ ≠ (.slice Ao18 t468.length co18 : Value).ownBlock) (.slice Ao13 t456.length co13) t456) ∧ (Kd.R (Kd.int .u8) 5 w' w.heap.size (fun k_ => some k_ ≠ (v479 : Value).ownBlock ∧ some k_ ≠ (s_ : Value).ownBlock ∧ some k_ ≠ (.slice Ao13 t456.length co13 : Value).ownBlock ∧ some k_ ≠ (.slice Ao18 t468.length co18 : Value).ownBlock) (.slice Ao16 t462.length co16) t462) ∧ (Kd.R (Kd.int .u8) 5 w' w.heap.size (fun k_ => some k_ ≠ (v479 : Value).ownBlock ∧ some k_ ≠ (s_ : Value).ownBlock ∧ some k_ ≠ (.slice Ao13 t456.length co13 : Value).ownBlock ∧ some k_ ≠ (.slice Ao16 t462.length co16 : Value).ownBlock) (.slice Ao18 t468.length co18) t468) ∧ (w'.heap[gb471]? = some (.cells #[.int .i64 t453, .int .i64 t454, .float .f64 b455, .slice Ao13 t456.length co13] 28 (0, 0))) ∧ (w'.heap[gb472]? = some (.cells #[.int .i64 t459, .int .i64 t460, .float .f64 b461, .slice Ao16 t462.length co16] 28 (0, 0))) ∧ (w'.heap[gb473]? = some (.cells #[.int .i64 t465, .int .i64 t466, .float .f64 b467, .slice Ao18 t468.length co18] 28 (0, 0))) ∧ (Below w.heap.size w w')) ?_ ?_
               rotate_left
               ·intro hJ4_5
                refine join_ (σ := Unit) 13 #[true, true, true, true, false, false, false, false, false, false, false, false, false, false, false, false, false] (fun s_ => [(35, .string (strOfNums t478))]) (fun s_ w' => (w'.cell? ⟨gb471, 0, none⟩ = some (.int .i64 t453) ∧ w'.cell? ⟨gb471, 1, none⟩ = some (.int .i64 t454) ∧ w'.cell? ⟨gb471, 2, none⟩ = some (.float .f64 b455) ∧ w'.cell? ⟨gb471, 3, none⟩ = some (.slice Ao13 t456.length co13) ∧ w'.cell? ⟨gb473, 0, none⟩ = some (.int .i64 t465) ∧ w'.cell? ⟨gb473, 1, none⟩ = some (.int .i64 t466) ∧ w'.cell? ⟨gb473, 2, none⟩ = some (.float .f64 b467) ∧ w'.cell? ⟨gb473, 3, none⟩ = some (.slice Ao18 t468.length co18) ∧ w'.cell? ⟨gb472, 0, none⟩ = some (.int .i64 t459) ∧ w'.cell? ⟨gb472, 1, none⟩ = some (.int .i64 t460) ∧ w'.cell? ⟨gb472, 2, none⟩ = some (.float .f64 b461) ∧ w'.cell? ⟨gb472, 3, none⟩ = some (.slice Ao16 t462.length co16)) ∧ (Kd.R (Kd.int .u8) 5 w' w.heap.size (fun k_ => some k_ ≠ (.slice Ao13 t456.length co13 : Value).ownBlock ∧ some k_ ≠ (.slice Ao16 t462.length co16 : Value).ownBlock ∧ some k_ ≠ (.slice Ao18 t468.length co18 : Value).ownBlock) v479 t478) ∧ (Kd.R (Kd.int .u8) 5 w' w.heap.size (fun k_ => some k_ ≠ (v479 : Value).ownBlock ∧ some k_ ≠ (.slice Ao16 t462.length co16 : Value).ownBlock ∧ some k_ ≠ (.slice Ao18 t468.length co18 : Value).ownBlock) (.slice Ao13 t456.length co13) t456) ∧ (Kd.R (Kd.int .u8) 5 w' w.heap.size (fun k_ => some k_ ≠ (v479 : Value).ownBlock ∧ some k_ ≠ (.slice Ao13 t456.length co13 : Value).ownBlock ∧ some k_ ≠ (.slice Ao18 t468.length co18 : Value).ownBlock) (.slice Ao16 t462.length co16) t462) ∧ (Kd.R (Kd.int .u8) 5 w' w.heap.size (fun k_ => some k_ ≠ (v479 : Value).ownBlock ∧ some k_ ≠ (.slice Ao13 t456.length co13 : Value).ownBlock ∧ some k_ ≠ (.slice Ao16 t462.length co16 : Value).ownBlock) (.slice Ao18 t468.length co18) t468) ∧ (w'.heap[gb471]? = some (.cells #[.int .i64 t453, .int .i64 t454, .float .f64 b455, .slice Ao13 t456.length co13] 28 (0, 0))) ∧ (w'.heap[gb472]? = some (.cells #[.int .i64 t459, .int .i64 t460, .float .f64 b461, .slice Ao16 t462.length co16] 28 (0, 0))) ∧ (w'.heap[gb473]? = some (.cells #[.int .i64 t465, .int .i64 t466, .float .f64 b467, .slice Ao18 t468.length co18] 28 (0, 0))) ∧ (Below w.heap.size w w')) ?_ ?_
                rotate_left
                ·intro hJ2
                 refine join_ (σ := Value) 13 #[true, true, false, true, true, false, false, false, false, false, false, false, false, false, false, false, false] (fun s_ => [(37, s_)]) (fun s_ w' => (w'.cell? ⟨gb471, 0, none⟩ = some (.int .i64 t453) ∧ w'.cell? ⟨gb471, 1, none⟩ = some (.int .i64 t454) ∧ w'.cell? ⟨gb471, 2, none⟩ = some (.float .f64 b455) ∧ w'.cell? ⟨gb471, 3, none⟩ = some (.slice Ao13 t456.length co13) ∧ w'.cell? ⟨gb473, 0, none⟩ = some (.int .i64 t465) ∧ w'.cell? ⟨gb473, 1, none⟩ = some (.int .i64 t466) ∧ w'.cell? ⟨gb473, 2, none⟩ = some (.float .f64 b467) ∧ w'.cell? ⟨gb473, 3, none⟩ = some (.slice Ao18 t468.length co18) ∧ w'.cell? ⟨gb472, 0, none⟩ = some (.int .i64 t459) ∧ w'.cell? ⟨gb472, 1, none⟩ = some (.int .i64 t460) ∧ w'.cell? ⟨gb472, 2, none⟩ = some (.float .f64 b461) ∧ w'.cell? ⟨gb472, 3, none⟩ = some (.slice Ao16 t462.length co16)) ∧ (Kd.R (Kd.int .u8) 5 w' w.heap.size (fun k_ => some k_ ≠ (s_ : Value).ownBlock ∧ some k_ ≠ (.slice Ao13 t456.length co13 : Value).ownBlock ∧ some k_ ≠ (.slice Ao16 t462.length co16 : Value).ownBlock ∧ some k_ ≠ (.slice Ao18 t468.length co18 : Value).ownBlock) v479 t478) ∧ (Kd.R (Kd.int .u8) 5 w' w.heap.size (fun k_ => some k_ ≠ (v479 : Value).ownBlock ∧ some k_ ≠ (.slice Ao13 t456.length co13 : Value).ownBlock ∧ some k_ ≠ (.slice Ao16 t462.length co16 : Value).ownBlock ∧ some k_ ≠ (.slice Ao18 t468.length co18 : Value).ownBlock) s_ t481) ∧ (Kd.R (Kd.int .u8) 5 w' w.heap.size (fun k_ => some k_ ≠ (v479 : Value).ownBlock ∧ some k_ ≠ (s_ : Value).ownBlock ∧ some k_ ≠ (.slice Ao16 t462.length co16 : Value).ownBlock ∧ some k_ ≠ (.slice Ao18 t468.length co18 : Value).ownBlock) (.slice Ao13 t456.length co13) t456) ∧ (Kd.R (Kd.int .u8) 5 w' w.heap.size (fun k_ => some k_ ≠ (v479 : Value).ownBlock ∧ some k_ ≠ (s_ : Value).ownBlock ∧ some k_ ≠ (.slice Ao13 t456.length co13 : Value).ownBlock ∧ some k_ ≠ (.slice Ao18 t468.length co18 : Value).ownBlock) (.slice Ao16 t462.length co16) t462) ∧ (Kd.R (Kd.int .u8) 5 w' w.heap.size (fun k_ => some k_ ≠ (v479 : Value).ownBlock ∧ some k_ ≠ (s_ : Value).ownBlock ∧ some k_ ≠ (.slice Ao13 t456.length co13 : Value).ownBlock ∧ some k_ ≠ (.slice Ao16 t462.length co16 : Value).ownBlock) (.slice Ao18 t468.length co18) t468) ∧ (w'.heap[gb471]? = some (.cells #[.int .i64 t453, .int .i64 t454, .float .f64 b455, .slice Ao13 t456.length co13] 28 (0, 0))) ∧ (w'.heap[gb472]? = some (.cells #[.int .i64 t459, .int .i64 t460, .float .f64 b461, .slice Ao16 t462.length co16] 28 (0, 0))) ∧ (w'.heap[gb473]? = some (.cells #[.int .i64 t465, .int .i64 t466, .float .f64 b467, .slice Ao18 t468.length co18] 28 (0, 0))) ∧ (Below w.heap.size w w')) ?_ ?_
                 rotate_left
                 ·intro hJ4
                  refine two_ (i := 2) (j := 4) (Ni := some 35) (Nj := some 37) #[true, true, true, true, false, false, false, false, false, false, false, false, false, false, false, false, false] #[true, true, false, true, true, false, false, false, false, false, false, false, false, false, false, false, false] rfl rfl rfl rfl (two_of HT_.out (by kernel_rfl)) (by decide) (by decide) (fun K hK => ?_) (fun K hK => ?_)
                  ·skip
                   have hcv67 := own_string (P := Try.prog) Try.underlying23 Try.underlying5 Try.underlying9 (Kd.own_of_R HO480.out)
                   refine value_ (w1 := ?_) (v := ?_) (by rfl) rfl ?_ ?_
                   rotate_left 2
                   ·go_simp
                    constructor
                    ·rfl
                    ·rfl
                   clear hcv67
                   refine hK.out _ _ ⟨(blk_cell BK471.out 0).trans rfl, (blk_cell BK471.out 1).trans rfl, (blk_cell BK471.out 2).trans rfl, (blk_cell BK471.out 3).trans rfl, (blk_cell BK473.out 0).trans rfl, (blk_cell BK473.out 1).trans rfl, (blk_cell BK473.out 2).trans rfl, (blk_cell BK473.out 3).trans rfl, (blk_cell BK472.out 0).trans rfl, (blk_cell BK472.out 1).trans rfl, (blk_cell BK472.out 2).trans rfl, (blk_cell BK472.out 3).trans rfl⟩ (fun hHeld => ?_)
                   clear hK K
                   refine norm_ (a' := ?_) ?_ ?_
                   rotate_left
                   ·show Act.put _ (some 35) _ = _
                    simp only [Act.put, List.setIfInBounds_toArray, List.set_cons_zero, List.set_cons_succ, i64_w, i32_w]
                    rfl
                   exact norm_ (by first | (simp only [putAll, Act.put, List.setIfInBounds_toArray, List.set_cons_zero, List.set_cons_succ]; done) | (simp only [putAll, Act.put, List.setIfInBounds_toArray, List.set_cons_zero, List.set_cons_succ]; rfl)) (hJ2 () _ ⟨hHeld, (by exact Kd.rup (Kd.R_mono HO480.out (fun _ hk => ⟨hk.1.1.2, ⟨hk.1.2, hk.2⟩⟩))), (by exact Kd.rup (Kd.R_mono HO_472003.out (fun _ hk => ⟨hk.2, ⟨hk.1.1, hk.1.2⟩⟩))), (by exact Kd.rup (Kd.R_mono HO_473003.out (fun _ hk => ⟨hk.2, ⟨hk.1.1, hk.1.2⟩⟩))), (by exact Kd.rup (Kd.R_mono HO_474003.out (fun _ hk => ⟨hk.2, ⟨hk.1.1, hk.1.2⟩⟩))), (bup BK471.out), (bup BK472.out), (bup BK473.out), (hset HB.out)⟩)
                  ·skip
                   refine goes_ Try.func21 (by kernel_rfl) rfl #[.agg #[.int .i64 t465, .int .i64 t466, .float .f64 b467, .slice Ao18 t468.length co18]] (by rfl) rfl rfl (by (try simp only [List.map_toArray, List.map_cons, List.map_nil]); first | done | rfl) ?_
                   with_reducible refine (spec_KeyBytes.calls kj4 t465 t466 b467 _ _ t468 t481 _ ?side1 ?side2 ((spec_KeyBytes.inv0 _ _ _ _ _).symm.trans A55.out)).mono ?_
                   (case side1 => repeat (first | exact (Kd.R_reads' HO_474003.out).2.2 | (with_reducible refine Kd.C_alloc ?_ _) | (with_reducible refine Kd.C_drewN ?_ _) | (with_reducible refine Kd.C_drew ?_)))
                   (case side2 => exact (Kd.R_reads' HO_474003.out).2.1)
                   rintro e w67 ⟨v482, rfl, ho0, hb⟩
                   refine ⟨_, rfl, ?_⟩
                   have n0_ := Aside0.mk (Kd.R_elder' (Kd.rup HO_472003.out) (Kd.R_base ho0) hb)
                   have n1_ := Aside0.mk (Kd.R_elder' (Kd.rup HO_473003.out) (Kd.R_base ho0) hb)
                   have n2_ := Aside0.mk (Kd.R_elder' (Kd.rup HO_474003.out) (Kd.R_base ho0) hb)
                   have n3_ := Aside0.mk (Kd.R_elder' (Kd.rup HO480.out) (Kd.R_base ho0) hb)
                   have n4_ := Aside0.mk (Kd.R_lower (Kd.R_new' (Kd.R_new' (Kd.R_new' (Kd.R_new' ho0 (Kd.R_lt (Kd.rup HO_472003.out))) (Kd.R_lt (Kd.rup HO_473003.out))) (Kd.R_lt (Kd.rup HO_474003.out))) (Kd.R_lt (Kd.rup HO480.out))) (below_size (hset HB.out)))
                   have n5_ := Aside0.mk (blk_below (bup BK471.out) hb)
                   have n6_ := Aside0.mk (blk_below (bup BK472.out) hb)
                   have n7_ := Aside0.mk (blk_below (bup BK473.out) hb)
                   have n8_ := Aside0.mk (below_step (hset HB.out) hb)
                   clear HO_472003
                   clear HO_473003
                   clear HO_474003
                   clear HO480
                   clear BK471
                   clear BK472
                   clear BK473
                   clear HB
                   have HO_472003 := n0_
                   have HO_473003 := n1_
                   have HO_474003 := n2_
                   have HO480 := n3_
                   have HO483 := n4_
                   have BK471 := n5_
                   have BK472 := n6_
                   have BK473 := n7_
                   have HB := n8_
                   clear n0_ n1_ n2_ n3_ n4_ n5_ n6_ n7_ n8_
                   (try clear hb)
                   (try clear hb2)
                   (try clear hk)
                   (try clear hi)
                   (try clear ho0)
                   refine hK.out _ _ ⟨(blk_cell BK471.out 0).trans rfl, (blk_cell BK471.out 1).trans rfl, (blk_cell BK471.out 2).trans rfl, (blk_cell BK471.out 3).trans rfl, (blk_cell BK473.out 0).trans rfl, (blk_cell BK473.out 1).trans rfl, (blk_cell BK473.out 2).trans rfl, (blk_cell BK473.out 3).trans rfl, (blk_cell BK472.out 0).trans rfl, (blk_cell BK472.out 1).trans rfl, (blk_cell BK472.out 2).trans rfl, (blk_cell BK472.out 3).trans rfl⟩ (fun hHeld => ?_)
                   clear hK K
                   refine norm_ (a' := ?_) ?_ ?_
                   rotate_left
                   ·show Act.put _ (some 37) _ = _
                    simp only [Act.put, List.setIfInBounds_toArray, List.set_cons_zero, List.set_cons_succ, i64_w, i32_w]
                    rfl
                   exact norm_ (by first | (simp only [putAll, Act.put, List.setIfInBounds_toArray, List.set_cons_zero, List.set_cons_succ]; done) | (simp only [putAll, Act.put, List.setIfInBounds_toArray, List.set_cons_zero, List.set_cons_succ]; rfl)) (hJ4 (v482) _ ⟨hHeld, (by exact Kd.rup (Kd.R_mono HO480.out (fun _ hk => ⟨hk.2, ⟨hk.1.1.1.2, ⟨hk.1.1.2, hk.1.2⟩⟩⟩))), (by exact Kd.rup (Kd.R_mono HO483.out (fun _ hk => ⟨hk.2, ⟨hk.1.1.1.2, ⟨hk.1.1.2, hk.1.2⟩⟩⟩))), (by exact Kd.rup (Kd.R_mono HO_472003.out (fun _ hk => ⟨hk.1.2, ⟨hk.2, ⟨hk.1.1.1, hk.1.1.2⟩⟩⟩))), (by exact Kd.rup (Kd.R_mono HO_473003.out (fun _ hk => ⟨hk.1.2, ⟨hk.2, ⟨hk.1.1.1, hk.1.1.2⟩⟩⟩))), (by exact Kd.rup (Kd.R_mono HO_474003.out (fun _ hk => ⟨hk.1.2, ⟨hk.2, ⟨hk.1.1.1, hk.1.1.2⟩⟩⟩))), (bup BK471.out), (bup BK472.out), (bup BK473.out), (hset HB.out)⟩)
                 ·skip
                  rintro v482 w68 ⟨hS_, h0_, h1_, h2_, h3_, h4_, h5_, h6_, h7_, h8_⟩
                  have n0_ : Aside0 (Kd.R (Kd.int .u8) 5 w68 w.heap.size (fun k_ => some k_ ≠ (v482 : Value).ownBlock ∧ some k_ ≠ (.slice Ao13 t456.length co13 : Value).ownBlock ∧ some k_ ≠ (.slice Ao16 t462.length co16 : Value).ownBlock ∧ some k_ ≠ (.slice Ao18 t468.length co18 : Value).ownBlock) v479 t478) := ⟨h0_⟩
                  have n1_ : Aside0 (Kd.R (Kd.int .u8) 5 w68 w.heap.size (fun k_ => some k_ ≠ (v479 : Value).ownBlock ∧ some k_ ≠ (.slice Ao13 t456.length co13 : Value).ownBlock ∧ some k_ ≠ (.slice Ao16 t462.length co16 : Value).ownBlock ∧ some k_ ≠ (.slice Ao18 t468.length co18 : Value).ownBlock) v482 t481) := ⟨h1_⟩
                  have n2_ : Aside0 (Kd.R (Kd.int .u8) 5 w68 w.heap.size (fun k_ => some k_ ≠ (v479 : Value).ownBlock ∧ some k_ ≠ (v482 : Value).ownBlock ∧ some k_ ≠ (.slice Ao16 t462.length co16 : Value).ownBlock ∧ some k_ ≠ (.slice Ao18 t468.length co18 : Value).ownBlock) (.slice Ao13 t456.length co13) t456) := ⟨h2_⟩
                  have n3_ : Aside0 (Kd.R (Kd.int .u8) 5 w68 w.heap.size (fun k_ => some k_ ≠ (v479 : Value).ownBlock ∧ some k_ ≠ (v482 : Value).ownBlock ∧ some k_ ≠ (.slice Ao13 t456.length co13 : Value).ownBlock ∧ some k_ ≠ (.slice Ao18 t468.length co18 : Value).ownBlock) (.slice Ao16 t462.length co16) t462) := ⟨h3_⟩
                  have n4_ : Aside0 (Kd.R (Kd.int .u8) 5 w68 w.heap.size (fun k_ => some k_ ≠ (v479 : Value).ownBlock ∧ some k_ ≠ (v482 : Value).ownBlock ∧ some k_ ≠ (.slice Ao13 t456.length co13 : Value).ownBlock ∧ some k_ ≠ (.slice Ao16 t462.length co16 : Value).ownBlock) (.slice Ao18 t468.length co18) t468) := ⟨h4_⟩
                  have n5_ : Aside0 (w68.heap[gb471]? = some (.cells #[.int .i64 t453, .int .i64 t454, .float .f64 b455, .slice Ao13 t456.length co13] 28 (0, 0))) := ⟨h5_⟩
                  have n6_ : Aside0 (w68.heap[gb472]? = some (.cells #[.int .i64 t459, .int .i64 t460, .float .f64 b461, .slice Ao16 t462.length co16] 28 (0, 0))) := ⟨h6_⟩
                  have n7_ : Aside0 (w68.heap[gb473]? = some (.cells #[.int .i64 t465, .int .i64 t466, .float .f64 b467, .slice Ao18 t468.length co18] 28 (0, 0))) := ⟨h7_⟩
                  have n8_ : Aside0 (Below w.heap.size w w68) := ⟨h8_⟩
                  clear HO_472003
                  clear HO_473003
                  clear HO_474003
                  clear BK471
                  clear BK472
                  clear BK473
                  clear HB
                  clear h0_ h1_ h2_ h3_ h4_ h5_ h6_ h7_ h8_
                  have HO480 := n0_
                  have HO483 := n1_
                  have HO_472003 := n2_
                  have HO_473003 := n3_
                  have HO_474003 := n4_
                  have BK471 := n5_
                  have BK472 := n6_
                  have BK473 := n7_
                  have HB := n8_
                  clear n0_ n1_ n2_ n3_ n4_ n5_ n6_ n7_ n8_
                  have hHeld : w68.cell? ⟨gb471, 0, none⟩ = some (.int .i64 t453) ∧ w68.cell? ⟨gb471, 1, none⟩ = some (.int .i64 t454) ∧ w68.cell? ⟨gb471, 2, none⟩ = some (.float .f64 b455) ∧ w68.cell? ⟨gb471, 3, none⟩ = some (.slice Ao13 t456.length co13) ∧ w68.cell? ⟨gb473, 0, none⟩ = some (.int .i64 t465) ∧ w68.cell? ⟨gb473, 1, none⟩ = some (.int .i64 t466) ∧ w68.cell? ⟨gb473, 2, none⟩ = some (.float .f64 b467) ∧ w68.cell? ⟨gb473, 3, none⟩ = some (.slice Ao18 t468.length co18) ∧ w68.cell? ⟨gb472, 0, none⟩ = some (.int .i64 t459) ∧ w68.cell? ⟨gb472, 1, none⟩ = some (.int .i64 t460) ∧ w68.cell? ⟨gb472, 2, none⟩ = some (.float .f64 b461) ∧ w68.cell? ⟨gb472, 3, none⟩ = some (.slice Ao16 t462.length co16) := hS_
                  refine norm_ (a' := ?_) ?_ ?_
                  rotate_left
                  ·simp only [putAll, Act.put, List.setIfInBounds_toArray, List.set_cons_zero, List.set_cons_succ]
                   rfl
                  refine two_ (i := 2) (j := 5) (Ni := some 35) (Nj := some 38) #[true, true, true, true, true, false, false, false, false, false, false, false, false, false, false, false, false] #[true, true, false, true, true, true, false, false, false, false, false, false, false, false, false, false, false] rfl rfl rfl rfl (two_of HT_.out (by kernel_rfl)) (by decide) (by decide) (fun K hK => ?_) (fun K hK => ?_)
                  ·skip
                   have hcv69 := own_string (P := Try.prog) Try.underlying23 Try.underlying5 Try.underlying9 (Kd.own_of_R HO480.out)
                   refine value_ (w1 := ?_) (v := ?_) (by rfl) rfl ?_ ?_
                   rotate_left 2
                   ·go_simp
                    constructor
                    ·rfl
                    ·rfl
                   clear hcv69
                   refine hK.out _ _ ⟨(blk_cell BK471.out 0).trans rfl, (blk_cell BK471.out 1).trans rfl, (blk_cell BK471.out 2).trans rfl, (blk_cell BK471.out 3).trans rfl, (blk_cell BK473.out 0).trans rfl, (blk_cell BK473.out 1).trans rfl, (blk_cell BK473.out 2).trans rfl, (blk_cell BK473.out 3).trans rfl, (blk_cell BK472.out 0).trans rfl, (blk_cell BK472.out 1).trans rfl, (blk_cell BK472.out 2).trans rfl, (blk_cell BK472.out 3).trans rfl⟩ (fun hHeld => ?_)
                   clear hK K
                   refine norm_ (a' := ?_) ?_ ?_
                   rotate_left
                   ·show Act.put _ (some 35) _ = _
                    simp only [Act.put, List.setIfInBounds_toArray, List.set_cons_zero, List.set_cons_succ, i64_w, i32_w]
                    rfl
                   exact norm_ (by first | (simp only [putAll, Act.put, List.setIfInBounds_toArray, List.set_cons_zero, List.set_cons_succ]; done) | (simp only [putAll, Act.put, List.setIfInBounds_toArray, List.set_cons_zero, List.set_cons_succ]; rfl)) (hJ2_4 (v482) _ ⟨hHeld, (Kd.rup HO480.out), (Kd.rup HO483.out), (Kd.rup HO_472003.out), (Kd.rup HO_473003.out), (Kd.rup HO_474003.out), (bup BK471.out), (bup BK472.out), (bup BK473.out), (hset HB.out)⟩)
                  ·skip
                   have hcv69 := own_string (P := Try.prog) Try.underlying23 Try.underlying5 Try.underlying9 (Kd.own_of_R HO483.out)
                   refine value_ (w1 := ?_) (v := ?_) (by rfl) rfl ?_ ?_
                   rotate_left 2
                   ·go_simp
                    constructor
                    ·rfl
                    ·rfl
                   clear hcv69
                   refine hK.out _ _ ⟨(blk_cell BK471.out 0).trans rfl, (blk_cell BK471.out 1).trans rfl, (blk_cell BK471.out 2).trans rfl, (blk_cell BK471.out 3).trans rfl, (blk_cell BK473.out 0).trans rfl, (blk_cell BK473.out 1).trans rfl, (blk_cell BK473.out 2).trans rfl, (blk_cell BK473.out 3).trans rfl, (blk_cell BK472.out 0).trans rfl, (blk_cell BK472.out 1).trans rfl, (blk_cell BK472.out 2).trans rfl, (blk_cell BK472.out 3).trans rfl⟩ (fun hHeld => ?_)
                   clear hK K
                   refine norm_ (a' := ?_) ?_ ?_
                   rotate_left
                   ·show Act.put _ (some 38) _ = _
                    simp only [Act.put, List.setIfInBounds_toArray, List.set_cons_zero, List.set_cons_succ, i64_w, i32_w]
                    rfl
                   exact norm_ (by first | (simp only [putAll, Act.put, List.setIfInBounds_toArray, List.set_cons_zero, List.set_cons_succ]; done) | (simp only [putAll, Act.put, List.setIfInBounds_toArray, List.set_cons_zero, List.set_cons_succ]; rfl)) (hJ4_5 (v482) _ ⟨hHeld, (Kd.rup HO480.out), (Kd.rup HO483.out), (Kd.rup HO_472003.out), (Kd.rup HO_473003.out), (Kd.rup HO_474003.out), (bup BK471.out), (bup BK472.out), (bup BK473.out), (hset HB.out)⟩)
                ·skip
                 rintro _ w68 ⟨hS_, h0_, h1_, h2_, h3_, h4_, h5_, h6_, h7_⟩
                 have n0_ : Aside0 (Kd.R (Kd.int .u8) 5 w68 w.heap.size (fun k_ => some k_ ≠ (.slice Ao13 t456.length co13 : Value).ownBlock ∧ some k_ ≠ (.slice Ao16 t462.length co16 : Value).ownBlock ∧ some k_ ≠ (.slice Ao18 t468.length co18 : Value).ownBlock) v479 t478) := ⟨h0_⟩
                 have n1_ : Aside0 (Kd.R (Kd.int .u8) 5 w68 w.heap.size (fun k_ => some k_ ≠ (v479 : Value).ownBlock ∧ some k_ ≠ (.slice Ao16 t462.length co16 : Value).ownBlock ∧ some k_ ≠ (.slice Ao18 t468.length co18 : Value).ownBlock) (.slice Ao13 t456.length co13) t456) := ⟨h1_⟩
                 have n2_ : Aside0 (Kd.R (Kd.int .u8) 5 w68 w.heap.size (fun k_ => some k_ ≠ (v479 : Value).ownBlock ∧ some k_ ≠ (.slice Ao13 t456.length co13 : Value).ownBlock ∧ some k_ ≠ (.slice Ao18 t468.length co18 : Value).ownBlock) (.slice Ao16 t462.length co16) t462) := ⟨h2_⟩
                 have n3_ : Aside0 (Kd.R (Kd.int .u8) 5 w68 w.heap.size (fun k_ => some k_ ≠ (v479 : Value).ownBlock ∧ some k_ ≠ (.slice Ao13 t456.length co13 : Value).ownBlock ∧ some k_ ≠ (.slice Ao16 t462.length co16 : Value).ownBlock) (.slice Ao18 t468.length co18) t468) := ⟨h3_⟩
                 have n4_ : Aside0 (w68.heap[gb471]? = some (.cells #[.int .i64 t453, .int .i64 t454, .float .f64 b455, .slice Ao13 t456.length co13] 28 (0, 0))) := ⟨h4_⟩
                 have n5_ : Aside0 (w68.heap[gb472]? = some (.cells #[.int .i64 t459, .int .i64 t460, .float .f64 b461, .slice Ao16 t462.length co16] 28 (0, 0))) := ⟨h5_⟩
                 have n6_ : Aside0 (w68.heap[gb473]? = some (.cells #[.int .i64 t465, .int .i64 t466, .float .f64 b467, .slice Ao18 t468.length co18] 28 (0, 0))) := ⟨h6_⟩
                 have n7_ : Aside0 (Below w.heap.size w w68) := ⟨h7_⟩
                 clear HO_472003
                 clear HO_473003
                 clear HO_474003
                 clear BK471
                 clear BK472
                 clear BK473
                 clear HB
                 clear h0_ h1_ h2_ h3_ h4_ h5_ h6_ h7_
                 have HO480 := n0_
                 have HO_472003 := n1_
                 have HO_473003 := n2_
                 have HO_474003 := n3_
                 have BK471 := n4_
                 have BK472 := n5_
                 have BK473 := n6_
                 have HB := n7_
                 clear n0_ n1_ n2_ n3_ n4_ n5_ n6_ n7_
                 have hHeld : w68.cell? ⟨gb471, 0, none⟩ = some (.int .i64 t453) ∧ w68.cell? ⟨gb471, 1, none⟩ = some (.int .i64 t454) ∧ w68.cell? ⟨gb471, 2, none⟩ = some (.float .f64 b455) ∧ w68.cell? ⟨gb471, 3, none⟩ = some (.slice Ao13 t456.length co13) ∧ w68.cell? ⟨gb473, 0, none⟩ = some (.int .i64 t465) ∧ w68.cell? ⟨gb473, 1, none⟩ = some (.int .i64 t466) ∧ w68.cell? ⟨gb473, 2, none⟩ = some (.float .f64 b467) ∧ w68.cell? ⟨gb473, 3, none⟩ = some (.slice Ao18 t468.length co18) ∧ w68.cell? ⟨gb472, 0, none⟩ = some (.int .i64 t459) ∧ w68.cell? ⟨gb472, 1, none⟩ = some (.int .i64 t460) ∧ w68.cell? ⟨gb472, 2, none⟩ = some (.float .f64 b461) ∧ w68.cell? ⟨gb472, 3, none⟩ = some (.slice Ao16 t462.length co16) := hS_
                 refine norm_ (a' := ?_) ?_ ?_
                 rotate_left
                 ·simp only [putAll, Act.put, List.setIfInBounds_toArray, List.set_cons_zero, List.set_cons_succ]
                  rfl
                 refine one_ (i := 4) (N := some 37) #[true, true, true, true, true, false, false, false, false, false, false, false, false, false, false, false, false] rfl rfl (one_of HT_.out (by kernel_rfl)) (by decide) (fun K hK => ?_)
                 refine goes_ Try.func21 (by kernel_rfl) rfl #[.agg #[.int .i64 t465, .int .i64 t466, .float .f64 b467, .slice Ao18 t468.length co18]] (by rfl) rfl rfl (by (try simp only [List.map_toArray, List.map_cons, List.map_nil]); first | done | rfl) ?_
                 with_reducible refine (spec_KeyBytes.calls kj4 t465 t466 b467 _ _ t468 t481 _ ?side1 ?side2 ((spec_KeyBytes.inv0 _ _ _ _ _).symm.trans A55.out)).mono ?_
                 (case side1 => repeat (first | exact (Kd.R_reads' HO_474003.out).2.2 | (with_reducible refine Kd.C_alloc ?_ _) | (with_reducible refine Kd.C_drewN ?_ _) | (with_reducible refine Kd.C_drew ?_)))
                 (case side2 => exact (Kd.R_reads' HO_474003.out).2.1)
                 rintro e w69 ⟨v482, rfl, ho0, hb⟩
                 refine ⟨_, rfl, ?_⟩
                 have n0_ := Aside0.mk (Kd.R_elder' (Kd.rup HO_472003.out) (Kd.R_base ho0) hb)
                 have n1_ := Aside0.mk (Kd.R_elder' (Kd.rup HO_473003.out) (Kd.R_base ho0) hb)
                 have n2_ := Aside0.mk (Kd.R_elder' (Kd.rup HO_474003.out) (Kd.R_base ho0) hb)
                 have n3_ := Aside0.mk (Kd.R_elder' (Kd.rup HO480.out) (Kd.R_base ho0) hb)
                 have n4_ := Aside0.mk (Kd.R_lower (Kd.R_new' (Kd.R_new' (Kd.R_new' (Kd.R_new' ho0 (Kd.R_lt (Kd.rup HO_472003.out))) (Kd.R_lt (Kd.rup HO_473003.out))) (Kd.R_lt (Kd.rup HO_474003.out))) (Kd.R_lt (Kd.rup HO480.out))) (below_size (hset HB.out)))
                 have n5_ := Aside0.mk (blk_below (bup BK471.out) hb)
                 have n6_ := Aside0.mk (blk_below (bup BK472.out) hb)
                 have n7_ := Aside0.mk (blk_below (bup BK473.out) hb)
                 have n8_ := Aside0.mk (below_step (hset HB.out) hb)
                 clear HO_472003
                 clear HO_473003
                 clear HO_474003
                 clear HO480
                 clear BK471
                 clear BK472
                 clear BK473
                 clear HB
                 have HO_472003 := n0_
                 have HO_473003 := n1_
                 have HO_474003 := n2_
                 have HO480 := n3_
                 have HO483 := n4_
                 have BK471 := n5_
                 have BK472 := n6_
                 have BK473 := n7_
                 have HB := n8_
                 clear n0_ n1_ n2_ n3_ n4_ n5_ n6_ n7_ n8_
                 (try clear hb)
                 (try clear hb2)
                 (try clear hk)
                 (try clear hi)
                 (try clear ho0)
                 refine hK.out _ _ ⟨(blk_cell BK471.out 0).trans rfl, (blk_cell BK471.out 1).trans rfl, (blk_cell BK471.out 2).trans rfl, (blk_cell BK471.out 3).trans rfl, (blk_cell BK473.out 0).trans rfl, (blk_cell BK473.out 1).trans rfl, (blk_cell BK473.out 2).trans rfl, (blk_cell BK473.out 3).trans rfl, (blk_cell BK472.out 0).trans rfl, (blk_cell BK472.out 1).trans rfl, (blk_cell BK472.out 2).trans rfl, (blk_cell BK472.out 3).trans rfl⟩ (fun hHeld => ?_)
                 clear hK K
                 refine norm_ (a' := ?_) ?_ ?_
                 rotate_left
                 ·show Act.put _ (some 37) _ = _
                  simp only [Act.put, List.setIfInBounds_toArray, List.set_cons_zero, List.set_cons_succ, i64_w, i32_w]
                  rfl
                 exact norm_ (by first | (simp only [putAll, Act.put, List.setIfInBounds_toArray, List.set_cons_zero, List.set_cons_succ]; done) | (simp only [putAll, Act.put, List.setIfInBounds_toArray, List.set_cons_zero, List.set_cons_succ]; rfl)) (hJ2_4 (v482) _ ⟨hHeld, (by exact Kd.rup (Kd.R_mono HO480.out (fun _ hk => ⟨hk.2, ⟨hk.1.1, ⟨hk.1.2.1, hk.1.2.2⟩⟩⟩))), (by exact Kd.rup (Kd.R_mono HO483.out (fun _ hk => ⟨hk.2, ⟨hk.1.1.1.2, ⟨hk.1.1.2, hk.1.2⟩⟩⟩))), (by exact Kd.rup (Kd.R_mono HO_472003.out (fun _ hk => ⟨hk.1.1, ⟨hk.2, ⟨hk.1.2.1, hk.1.2.2⟩⟩⟩))), (by exact Kd.rup (Kd.R_mono HO_473003.out (fun _ hk => ⟨hk.1.1, ⟨hk.2, ⟨hk.1.2.1, hk.1.2.2⟩⟩⟩))), (by exact Kd.rup (Kd.R_mono HO_474003.out (fun _ hk => ⟨hk.1.1, ⟨hk.2, ⟨hk.1.2.1, hk.1.2.2⟩⟩⟩))), (bup BK471.out), (bup BK472.out), (bup BK473.out), (hset HB.out)⟩)
               ·skip
                rintro v482 w69 ⟨hS_, h0_, h1_, h2_, h3_, h4_, h5_, h6_, h7_, h8_⟩
                have n0_ : Aside0 (Kd.R (Kd.int .u8) 5 w69 w.heap.size (fun k_ => some k_ ≠ (v482 : Value).ownBlock ∧ some k_ ≠ (.slice Ao13 t456.length co13 : Value).ownBlock ∧ some k_ ≠ (.slice Ao16 t462.length co16 : Value).ownBlock ∧ some k_ ≠ (.slice Ao18 t468.length co18 : Value).ownBlock) v479 t478) := ⟨h0_⟩
                have n1_ : Aside0 (Kd.R (Kd.int .u8) 5 w69 w.heap.size (fun k_ => some k_ ≠ (v479 : Value).ownBlock ∧ some k_ ≠ (.slice Ao13 t456.length co13 : Value).ownBlock ∧ some k_ ≠ (.slice Ao16 t462.length co16 : Value).ownBlock ∧ some k_ ≠ (.slice Ao18 t468.length co18 : Value).ownBlock) v482 t481) := ⟨h1_⟩
                have n2_ : Aside0 (Kd.R (Kd.int .u8) 5 w69 w.heap.size (fun k_ => some k_ ≠ (v479 : Value).ownBlock ∧ some k_ ≠ (v482 : Value).ownBlock ∧ some k_ ≠ (.slice Ao16 t462.length co16 : Value).ownBlock ∧ some k_ ≠ (.slice Ao18 t468.length co18 : Value).ownBlock) (.slice Ao13 t456.length co13) t456) := ⟨h2_⟩
                have n3_ : Aside0 (Kd.R (Kd.int .u8) 5 w69 w.heap.size (fun k_ => some k_ ≠ (v479 : Value).ownBlock ∧ some k_ ≠ (v482 : Value).ownBlock ∧ some k_ ≠ (.slice Ao13 t456.length co13 : Value).ownBlock ∧ some k_ ≠ (.slice Ao18 t468.length co18 : Value).ownBlock) (.slice Ao16 t462.length co16) t462) := ⟨h3_⟩
                have n4_ : Aside0 (Kd.R (Kd.int .u8) 5 w69 w.heap.size (fun k_ => some k_ ≠ (v479 : Value).ownBlock ∧ some k_ ≠ (v482 : Value).ownBlock ∧ some k_ ≠ (.slice Ao13 t456.length co13 : Value).ownBlock ∧ some k_ ≠ (.slice Ao16 t462.length co16 : Value).ownBlock) (.slice Ao18 t468.length co18) t468) := ⟨h4_⟩
                have n5_ : Aside0 (w69.heap[gb471]? = some (.cells #[.int .i64 t453, .int .i64 t454, .float .f64 b455, .slice Ao13 t456.length co13] 28 (0, 0))) := ⟨h5_⟩
                have n6_ : Aside0 (w69.heap[gb472]? = some (.cells #[.int .i64 t459, .int .i64 t460, .float .f64 b461, .slice Ao16 t462.length co16] 28 (0, 0))) := ⟨h6_⟩
                have n7_ : Aside0 (w69.heap[gb473]? = some (.cells #[.int .i64 t465, .int .i64 t466, .float .f64 b467, .slice Ao18 t468.length co18] 28 (0, 0))) := ⟨h7_⟩
                have n8_ : Aside0 (Below w.heap.size w w69) := ⟨h8_⟩
                clear HO_472003
                clear HO_473003
                clear HO_474003
                clear BK471
                clear BK472
                clear BK473
                clear HB
                clear h0_ h1_ h2_ h3_ h4_ h5_ h6_ h7_ h8_
                have HO480 := n0_
                have HO483 := n1_
                have HO_472003 := n2_
                have HO_473003 := n3_
                have HO_474003 := n4_
                have BK471 := n5_
                have BK472 := n6_
                have BK473 := n7_
                have HB := n8_
                clear n0_ n1_ n2_ n3_ n4_ n5_ n6_ n7_ n8_
                have hHeld : w69.cell? ⟨gb471, 0, none⟩ = some (.int .i64 t453) ∧ w69.cell? ⟨gb471, 1, none⟩ = some (.int .i64 t454) ∧ w69.cell? ⟨gb471, 2, none⟩ = some (.float .f64 b455) ∧ w69.cell? ⟨gb471, 3, none⟩ = some (.slice Ao13 t456.length co13) ∧ w69.cell? ⟨gb473, 0, none⟩ = some (.int .i64 t465) ∧ w69.cell? ⟨gb473, 1, none⟩ = some (.int .i64 t466) ∧ w69.cell? ⟨gb473, 2, none⟩ = some (.float .f64 b467) ∧ w69.cell? ⟨gb473, 3, none⟩ = some (.slice Ao18 t468.length co18) ∧ w69.cell? ⟨gb472, 0, none⟩ = some (.int .i64 t459) ∧ w69.cell? ⟨gb472, 1, none⟩ = some (.int .i64 t460) ∧ w69.cell? ⟨gb472, 2, none⟩ = some (.float .f64 b461) ∧ w69.cell? ⟨gb472, 3, none⟩ = some (.slice Ao16 t462.length co16) := hS_
                refine norm_ (a' := ?_) ?_ ?_
                rotate_left
                ·simp only [putAll, Act.put, List.setIfInBounds_toArray, List.set_cons_zero, List.set_cons_succ]
                 rfl
                refine one_ (i := 2) (N := some 35) #[true, true, true, true, true, true, false, false, false, false, false, false, false, false, false, false, false] rfl rfl (one_of HT_.out (by kernel_rfl)) (by decide) (fun K hK => ?_)
                have hcv70 := own_string (P := Try.prog) Try.underlying23 Try.underlying5 Try.underlying9 (Kd.own_of_R HO480.out)
                refine value_ (w1 := ?_) (v := ?_) (by rfl) rfl ?_ ?_
                rotate_left 2
                ·go_simp
                 constructor
                 ·rfl
                 ·rfl
                clear hcv70
                refine hK.out _ _ ⟨(blk_cell BK471.out 0).trans rfl, (blk_cell BK471.out 1).trans rfl, (blk_cell BK471.out 2).trans rfl, (blk_cell BK471.out 3).trans rfl, (blk_cell BK473.out 0).trans rfl, (blk_cell BK473.out 1).trans rfl, (blk_cell BK473.out 2).trans rfl, (blk_cell BK473.out 3).trans rfl, (blk_cell BK472.out 0).trans rfl, (blk_cell BK472.out 1).trans rfl, (blk_cell BK472.out 2).trans rfl, (blk_cell BK472.out 3).trans rfl⟩ (fun hHeld => ?_)
                clear hK K
                refine norm_ (a' := ?_) ?_ ?_
                rotate_left
                ·show Act.put _ (some 35) _ = _
                 simp only [Act.put, List.setIfInBounds_toArray, List.set_cons_zero, List.set_cons_succ, i64_w, i32_w]
                 rfl
                refine pure_ (i := 6) (N := some 39) (v := ?_) (a' := ?_) #[true, true, true, true, true, true, true, false, false, false, false, false, false, false, false, false, false] rfl rfl (any_of HT_.out (by kernel_rfl)) (fun _ _ _ h => h) (Or.inl ⟨by rfl, ?_⟩) ?_ ?_
                rotate_left
                ·intro w'
                 go_simp
                 with_reducible rfl
                rotate_left
                ·simp only [Act.put, List.setIfInBounds_toArray, List.set_cons_zero, List.set_cons_succ, i64_w, i32_w]
                 rfl
                refine pure_ (i := 7) (N := some 40) (v := ?_) (a' := ?_) #[true, true, true, true, true, true, true, true, false, false, false, false, false, false, false, false, false] rfl rfl (any_of HT_.out (by kernel_rfl)) (fun _ _ _ h => h) (Or.inl ⟨by rfl, ?_⟩) ?_ ?_
                rotate_left
                ·intro w'
                 go_simp
                 with_reducible rfl
                rotate_left
                ·simp only [Act.put, List.setIfInBounds_toArray, List.set_cons_zero, List.set_cons_succ, i64_w, i32_w]
                 rfl
                refine take_ (i := 8) (N := some 41) (v := ?_) (a' := ?_) #[true, true, true, true, true, true, true, true, true, false, false, false, false, false, false, false, false] rfl rfl (take_ofW HT_.out HW_.out (by kernel_rfl)) (fun _ _ _ h => h) (Or.inl ⟨by rfl, ?_⟩) hHeld ?_ ?_
                rotate_left
                ·rintro w' ⟨s0, s1, s2, s3, s4, s5, s6, s7, s8, s9, s10, s11⟩
                 go_simp
                 with_reducible rfl
                rotate_left
                ·simp only [Act.put, List.setIfInBounds_toArray, List.set_cons_zero, List.set_cons_succ, i64_w, i32_w]
                 rfl
                refine take_ (i := 11) (N := some 44) (v := ?_) (a' := ?_) #[true, true, true, true, true, true, true, true, true, false, false, true, false, false, false, false, false] rfl rfl (take_ofW HT_.out HW_.out (by kernel_rfl)) (fun _ _ _ h => h) (Or.inl ⟨by rfl, ?_⟩) hHeld ?_ ?_
                rotate_left
                ·rintro w' ⟨s0, s1, s2, s3, s4, s5, s6, s7, s8, s9, s10, s11⟩
                 go_simp
                 with_reducible rfl
                rotate_left
                ·simp only [Act.put, List.setIfInBounds_toArray, List.set_cons_zero, List.set_cons_succ, i64_w, i32_w]
                 rfl
                exact norm_ (by first | (simp only [putAll, Act.put, List.setIfInBounds_toArray, List.set_cons_zero, List.set_cons_succ]; done) | (simp only [putAll, Act.put, List.setIfInBounds_toArray, List.set_cons_zero, List.set_cons_succ]; rfl)) (hJ2_4_5 (v482) _ ⟨hHeld, (Kd.rup HO480.out), (Kd.rup HO483.out), (Kd.rup HO_472003.out), (Kd.rup HO_473003.out), (Kd.rup HO_474003.out), (bup BK471.out), (bup BK472.out), (bup BK473.out), (hset HB.out)⟩)
              ·skip
               rintro v482 w69 ⟨hS_, h0_, h1_, h2_, h3_, h4_, h5_, h6_, h7_, h8_⟩
               have n0_ : Aside0 (Kd.R (Kd.int .u8) 5 w69 w.heap.size (fun k_ => some k_ ≠ (v482 : Value).ownBlock ∧ some k_ ≠ (.slice Ao13 t456.length co13 : Value).ownBlock ∧ some k_ ≠ (.slice Ao16 t462.length co16 : Value).ownBlock ∧ some k_ ≠ (.slice Ao18 t468.length co18 : Value).ownBlock) v479 t478) := ⟨h0_⟩
               have n1_ : Aside0 (Kd.R (Kd.int .u8) 5 w69 w.heap.size (fun k_ => some k_ ≠ (v479 : Value).ownBlock ∧ some k_ ≠ (.slice Ao13 t456.length co13 : Value).ownBlock ∧ some k_ ≠ (.slice Ao16 t462.length co16 : Value).ownBlock ∧ some k_ ≠ (.slice Ao18 t468.length co18 : Value).ownBlock) v482 t481) := ⟨h1_⟩
               have n2_ : Aside0 (Kd.R (Kd.int .u8) 5 w69 w.heap.size (fun k_ => some k_ ≠ (v479 : Value).ownBlock ∧ some k_ ≠ (v482 : Value).ownBlock ∧ some k_ ≠ (.slice Ao16 t462.length co16 : Value).ownBlock ∧ some k_ ≠ (.slice Ao18 t468.length co18 : Value).ownBlock) (.slice Ao13 t456.length co13) t456) := ⟨h2_⟩
               have n3_ : Aside0 (Kd.R (Kd.int .u8) 5 w69 w.heap.size (fun k_ => some k_ ≠ (v479 : Value).ownBlock ∧ some k_ ≠ (v482 : Value).ownBlock ∧ some k_ ≠ (.slice Ao13 t456.length co13 : Value).ownBlock ∧ some k_ ≠ (.slice Ao18 t468.length co18 : Value).ownBlock) (.slice Ao16 t462.length co16) t462) := ⟨h3_⟩
               have n4_ : Aside0 (Kd.R (Kd.int .u8) 5 w69 w.heap.size (fun k_ => some k_ ≠ (v479 : Value).ownBlock ∧ some k_ ≠ (v482 : Value).ownBlock ∧ some k_ ≠ (.slice Ao13 t456.length co13 : Value).ownBlock ∧ some k_ ≠ (.slice Ao16 t462.length co16 : Value).ownBlock) (.slice Ao18 t468.length co18) t468) := ⟨h4_⟩
               have n5_ : Aside0 (w69.heap[gb471]? = some (.cells #[.int .i64 t453, .int .i64 t454, .float .f64 b455, .slice Ao13 t456.length co13] 28 (0, 0))) := ⟨h5_⟩
               have n6_ : Aside0 (w69.heap[gb472]? = some (.cells #[.int .i64 t459, .int .i64 t460, .float .f64 b461, .slice Ao16 t462.length co16] 28 (0, 0))) := ⟨h6_⟩
               have n7_ : Aside0 (w69.heap[gb473]? = some (.cells #[.int .i64 t465, .int .i64 t466, .float .f64 b467, .slice Ao18 t468.length co18] 28 (0, 0))) := ⟨h7_⟩
               have n8_ : Aside0 (Below w.heap.size w w69) := ⟨h8_⟩
               clear HO_472003
               clear HO_473003
               clear HO_474003
               clear BK471
               clear BK472
               clear BK473
               clear HB
               clear h0_ h1_ h2_ h3_ h4_ h5_ h6_ h7_ h8_
               have HO480 := n0_
               have HO483 := n1_
               have HO_472003 := n2_
               have HO_473003 := n3_
               have HO_474003 := n4_
               have BK471 := n5_
               have BK472 := n6_
               have BK473 := n7_
               have HB := n8_
               clear n0_ n1_ n2_ n3_ n4_ n5_ n6_ n7_ n8_
               have hHeld : w69.cell? ⟨gb471, 0, none⟩ = some (.int .i64 t453) ∧ w69.cell? ⟨gb471, 1, none⟩ = some (.int .i64 t454) ∧ w69.cell? ⟨gb471, 2, none⟩ = some (.float .f64 b455) ∧ w69.cell? ⟨gb471, 3, none⟩ = some (.slice Ao13 t456.length co13) ∧ w69.cell? ⟨gb473, 0, none⟩ = some (.int .i64 t465) ∧ w69.cell? ⟨gb473, 1, none⟩ = some (.int .i64 t466) ∧ w69.cell? ⟨gb473, 2, none⟩ = some (.float .f64 b467) ∧ w69.cell? ⟨gb473, 3, none⟩ = some (.slice Ao18 t468.length co18) ∧ w69.cell? ⟨gb472, 0, none⟩ = some (.int .i64 t459) ∧ w69.cell? ⟨gb472, 1, none⟩ = some (.int .i64 t460) ∧ w69.cell? ⟨gb472, 2, none⟩ = some (.float .f64 b461) ∧ w69.cell? ⟨gb472, 3, none⟩ = some (.slice Ao16 t462.length co16) := hS_
               refine norm_ (a' := ?_) ?_ ?_
               rotate_left
               ·simp only [putAll, Act.put, List.setIfInBounds_toArray, List.set_cons_zero, List.set_cons_succ]
                rfl
               refine one_ (i := 5) (N := some 38) #[true, true, true, true, true, true, false, false, false, false, false, false, false, false, false, false, false] rfl rfl (one_of HT_.out (by kernel_rfl)) (by decide) (fun K hK => ?_)
               have hcv70 := own_string (P := Try.prog) Try.underlying23 Try.underlying5 Try.underlying9 (Kd.own_of_R HO483.out)
               refine value_ (w1 := ?_) (v := ?_) (by rfl) rfl ?_ ?_
               rotate_left 2
               ·go_simp
                constructor
                ·rfl
                ·rfl
               clear hcv70
               refine hK.out _ _ ⟨(blk_cell BK471.out 0).trans rfl, (blk_cell BK471.out 1).trans rfl, (blk_cell BK471.out 2).trans rfl, (blk_cell BK471.out 3).trans rfl, (blk_cell BK473.out 0).trans rfl, (blk_cell BK473.out 1).trans rfl, (blk_cell BK473.out 2).trans rfl, (blk_cell BK473.out 3).trans rfl, (blk_cell BK472.out 0).trans rfl, (blk_cell BK472.out 1).trans rfl, (blk_cell BK472.out 2).trans rfl, (blk_cell BK472.out 3).trans rfl⟩ (fun hHeld => ?_)
               clear hK K
               refine norm_ (a' := ?_) ?_ ?_
               rotate_left
               ·show Act.put _ (some 38) _ = _
                simp only [Act.put, List.setIfInBounds_toArray, List.set_cons_zero, List.set_cons_succ, i64_w, i32_w]
                rfl
               refine pure_ (i := 6) (N := some 39) (v := ?_) (a' := ?_) #[true, true, true, true, true, true, true, false, false, false, false, false, false, false, false, false, false] rfl rfl (any_of HT_.out (by kernel_rfl)) (fun _ _ _ h => h) (Or.inl ⟨by rfl, ?_⟩) ?_ ?_
               rotate_left
               ·intro w'
                go_simp
                with_reducible rfl
               rotate_left
               ·simp only [Act.put, List.setIfInBounds_toArray, List.set_cons_zero, List.set_cons_succ, i64_w, i32_w]
                rfl
               refine pure_ (i := 7) (N := some 40) (v := ?_) (a' := ?_) #[true, true, true, true, true, true, true, true, false, false, false, false, false, false, false, false, false] rfl rfl (any_of HT_.out (by kernel_rfl)) (fun _ _ _ h => h) (Or.inl ⟨by rfl, ?_⟩) ?_ ?_
               rotate_left
               ·intro w'
                go_simp
                with_reducible rfl
               rotate_left
               ·simp only [Act.put, List.setIfInBounds_toArray, List.set_cons_zero, List.set_cons_succ, i64_w, i32_w]
                rfl
               refine take_ (i := 8) (N := some 41) (v := ?_) (a' := ?_) #[true, true, true, true, true, true, true, true, true, false, false, false, false, false, false, false, false] rfl rfl (take_ofW HT_.out HW_.out (by kernel_rfl)) (fun _ _ _ h => h) (Or.inl ⟨by rfl, ?_⟩) hHeld ?_ ?_
               rotate_left
               ·rintro w' ⟨s0, s1, s2, s3, s4, s5, s6, s7, s8, s9, s10, s11⟩
                go_simp
                with_reducible rfl
               rotate_left
               ·simp only [Act.put, List.setIfInBounds_toArray, List.set_cons_zero, List.set_cons_succ, i64_w, i32_w]
                rfl
               refine take_ (i := 11) (N := some 44) (v := ?_) (a' := ?_) #[true, true, true, true, true, true, true, true, true, false, false, true, false, false, false, false, false] rfl rfl (take_ofW HT_.out HW_.out (by kernel_rfl)) (fun _ _ _ h => h) (Or.inl ⟨by rfl, ?_⟩) hHeld ?_ ?_
               rotate_left
               ·rintro w' ⟨s0, s1, s2, s3, s4, s5, s6, s7, s8, s9, s10, s11⟩
                go_simp
                with_reducible rfl
               rotate_left
               ·simp only [Act.put, List.setIfInBounds_toArray, List.set_cons_zero, List.set_cons_succ, i64_w, i32_w]
                rfl
               exact norm_ (by first | (simp only [putAll, Act.put, List.setIfInBounds_toArray, List.set_cons_zero, List.set_cons_succ]; done) | (simp only [putAll, Act.put, List.setIfInBounds_toArray, List.set_cons_zero, List.set_cons_succ]; rfl)) (hJ2_4_5 (v482) _ ⟨hHeld, (Kd.rup HO480.out), (Kd.rup HO483.out), (Kd.rup HO_472003.out), (Kd.rup HO_473003.out), (Kd.rup HO_474003.out), (bup BK471.out), (bup BK472.out), (bup BK473.out), (hset HB.out)⟩)
             ·skip
              rintro v482 w70 ⟨hS_, h0_, h1_, h2_, h3_, h4_, h5_, h6_, h7_, h8_⟩
              have n0_ : Aside0 (Kd.R (Kd.int .u8) 5 w70 w.heap.size (fun k_ => some k_ ≠ (v482 : Value).ownBlock ∧ some k_ ≠ (.slice Ao13 t456.length co13 : Value).ownBlock ∧ some k_ ≠ (.slice Ao16 t462.length co16 : Value).ownBlock ∧ some k_ ≠ (.slice Ao18 t468.length co18 : Value).ownBlock) v479 t478) := ⟨h0_⟩
              have n1_ : Aside0 (Kd.R (Kd.int .u8) 5 w70 w.heap.size (fun k_ => some k_ ≠ (v479 : Value).ownBlock ∧ some k_ ≠ (.slice Ao13 t456.length co13 : Value).ownBlock ∧ some k_ ≠ (.slice Ao16 t462.length co16 : Value).ownBlock ∧ some k_ ≠ (.slice Ao18 t468.length co18 : Value).ownBlock) v482 t481) := ⟨h1_⟩
              have n2_ : Aside0 (Kd.R (Kd.int .u8) 5 w70 w.heap.size (fun k_ => some k_ ≠ (v479 : Value).ownBlock ∧ some k_ ≠ (v482 : Value).ownBlock ∧ some k_ ≠ (.slice Ao16 t462.length co16 : Value).ownBlock ∧ some k_ ≠ (.slice Ao18 t468.length co18 : Value).ownBlock) (.slice Ao13 t456.length co13) t456) := ⟨h2_⟩
              have n3_ : Aside0 (Kd.R (Kd.int .u8) 5 w70 w.heap.size (fun k_ => some k_ ≠ (v479 : Value).ownBlock ∧ some k_ ≠ (v482 : Value).ownBlock ∧ some k_ ≠ (.slice Ao13 t456.length co13 : Value).ownBlock ∧ some k_ ≠ (.slice Ao18 t468.length co18 : Value).ownBlock) (.slice Ao16 t462.length co16) t462) := ⟨h3_⟩
              have n4_ : Aside0 (Kd.R (Kd.int .u8) 5 w70 w.heap.size (fun k_ => some k_ ≠ (v479 : Value).ownBlock ∧ some k_ ≠ (v482 : Value).ownBlock ∧ some k_ ≠ (.slice Ao13 t456.length co13 : Value).ownBlock ∧ some k_ ≠ (.slice Ao16 t462.length co16 : Value).ownBlock) (.slice Ao18 t468.length co18) t468) := ⟨h4_⟩
              have n5_ : Aside0 (w70.heap[gb471]? = some (.cells #[.int .i64 t453, .int .i64 t454, .float .f64 b455, .slice Ao13 t456.length co13] 28 (0, 0))) := ⟨h5_⟩
              have n6_ : Aside0 (w70.heap[gb472]? = some (.cells #[.int .i64 t459, .int .i64 t460, .float .f64 b461, .slice Ao16 t462.length co16] 28 (0, 0))) := ⟨h6_⟩
              have n7_ : Aside0 (w70.heap[gb473]? = some (.cells #[.int .i64 t465, .int .i64 t466, .float .f64 b467, .slice Ao18 t468.length co18] 28 (0, 0))) := ⟨h7_⟩
              have n8_ : Aside0 (Below w.heap.size w w70) := ⟨h8_⟩
              clear HO_472003
              clear HO_473003
              clear HO_474003
              clear BK471
              clear BK472
              clear BK473
              clear HB
              clear h0_ h1_ h2_ h3_ h4_ h5_ h6_ h7_ h8_
              have HO480 := n0_
              have HO483 := n1_
              have HO_472003 := n2_
              have HO_473003 := n3_
              have HO_474003 := n4_
              have BK471 := n5_
              have BK472 := n6_
              have BK473 := n7_
              have HB := n8_
              clear n0_ n1_ n2_ n3_ n4_ n5_ n6_ n7_ n8_
              have hHeld : w70.cell? ⟨gb471, 0, none⟩ = some (.int .i64 t453) ∧ w70.cell? ⟨gb471, 1, none⟩ = some (.int .i64 t454) ∧ w70.cell? ⟨gb471, 2, none⟩ = some (.float .f64 b455) ∧ w70.cell? ⟨gb471, 3, none⟩ = some (.slice Ao13 t456.length co13) ∧ w70.cell? ⟨gb473, 0, none⟩ = some (.int .i64 t465) ∧ w70.cell? ⟨gb473, 1, none⟩ = some (.int .i64 t466) ∧ w70.cell? ⟨gb473, 2, none⟩ = some (.float .f64 b467) ∧ w70.cell? ⟨gb473, 3, none⟩ = some (.slice Ao18 t468.length co18) ∧ w70.cell? ⟨gb472, 0, none⟩ = some (.int .i64 t459) ∧ w70.cell? ⟨gb472, 1, none⟩ = some (.int .i64 t460) ∧ w70.cell? ⟨gb472, 2, none⟩ = some (.float .f64 b461) ∧ w70.cell? ⟨gb472, 3, none⟩ = some (.slice Ao16 t462.length co16) := hS_
              refine norm_ (a' := ?_) ?_ ?_
              rotate_left
              ·simp only [putAll, Act.put, List.setIfInBounds_toArray, List.set_cons_zero, List.set_cons_succ]
               rfl
              refine one_ (i := 9) (N := some 42) #[true, true, true, true, true, true, true, true, true, true, false, true, false, false, false, false, false] rfl rfl (one_of HT_.out (by kernel_rfl)) (by decide) (fun K hK => ?_)
              refine goes_ Try.func21 (by kernel_rfl) rfl #[.agg #[.int .i64 t465, .int .i64 t466, .float .f64 b467, .slice Ao18 t468.length co18]] (by rfl) rfl rfl (by (try simp only [List.map_toArray, List.map_cons, List.map_nil]); first | done | rfl) ?_
              with_reducible refine (spec_KeyBytes.calls kj4 t465 t466 b467 _ _ t468 t484 _ ?side1 ?side2 ((spec_KeyBytes.inv0 _ _ _ _ _).symm.trans A63.out)).mono ?_
              (case side1 => repeat (first | exact (Kd.R_reads' HO_474003.out).2.2 | (with_reducible refine Kd.C_alloc ?_ _) | (with_reducible refine Kd.C_drewN ?_ _) | (with_reducible refine Kd.C_drew ?_)))
              (case side2 => exact (Kd.R_reads' HO_474003.out).2.1)
              rintro e w71 ⟨v485, rfl, ho0, hb⟩
              refine ⟨_, rfl, ?_⟩
              have n0_ := Aside0.mk (Kd.R_elder' (Kd.rup HO_472003.out) (Kd.R_base ho0) hb)
              have n1_ := Aside0.mk (Kd.R_elder' (Kd.rup HO_473003.out) (Kd.R_base ho0) hb)
              have n2_ := Aside0.mk (Kd.R_elder' (Kd.rup HO_474003.out) (Kd.R_base ho0) hb)
              have n3_ := Aside0.mk (Kd.R_elder' (Kd.rup HO480.out) (Kd.R_base ho0) hb)
              have n4_ := Aside0.mk (Kd.R_elder' (Kd.rup HO483.out) (Kd.R_base ho0) hb)
              have n5_ := Aside0.mk (Kd.R_lower (Kd.R_new' (Kd.R_new' (Kd.R_new' (Kd.R_new' (Kd.R_new' ho0 (Kd.R_lt (Kd.rup HO_472003.out))) (Kd.R_lt (Kd.rup HO_473003.out))) (Kd.R_lt (Kd.rup HO_474003.out))) (Kd.R_lt (Kd.rup HO480.out))) (Kd.R_lt (Kd.rup HO483.out))) (below_size (hset HB.out)))
              have n6_ := Aside0.mk (blk_below (bup BK471.out) hb)
              have n7_ := Aside0.mk (blk_below (bup BK472.out) hb)
              have n8_ := Aside0.mk (blk_below (bup BK473.out) hb)
              have n9_ := Aside0.mk (below_step (hset HB.out) hb)
              clear HO_472003
              clear HO_473003
              clear HO_474003
              clear HO480
              clear HO483
              clear BK471
              clear BK472
              clear BK473
              clear HB
              have HO_472003 := n0_
              have HO_473003 := n1_
              have HO_474003 := n2_
              have HO480 := n3_
              have HO483 := n4_
              have HO486 := n5_
              have BK471 := n6_
              have BK472 := n7_
              have BK473 := n8_
              have HB := n9_
              clear n0_ n1_ n2_ n3_ n4_ n5_ n6_ n7_ n8_ n9_
              (try clear hb)
              (try clear hb2)
              (try clear hk)
              (try clear hi)
              (try clear ho0)
              refine hK.out _ _ ⟨(blk_cell BK471.out 0).trans rfl, (blk_cell BK471.out 1).trans rfl, (blk_cell BK471.out 2).trans rfl, (blk_cell BK471.out 3).trans rfl, (blk_cell BK473.out 0).trans rfl, (blk_cell BK473.out 1).trans rfl, (blk_cell BK473.out 2).trans rfl, (blk_cell BK473.out 3).trans rfl, (blk_cell BK472.out 0).trans rfl, (blk_cell BK472.out 1).trans rfl, (blk_cell BK472.out 2).trans rfl, (blk_cell BK472.out 3).trans rfl⟩ (fun hHeld => ?_)
              clear hK K
              refine norm_ (a' := ?_) ?_ ?_
              rotate_left
              ·show Act.put _ (some 42) _ = _
               simp only [Act.put, List.setIfInBounds_toArray, List.set_cons_zero, List.set_cons_succ, i64_w, i32_w]
               rfl
              exact norm_ (by first | (simp only [putAll, Act.put, List.setIfInBounds_toArray, List.set_cons_zero, List.set_cons_succ]; done) | (simp only [putAll, Act.put, List.setIfInBounds_toArray, List.set_cons_zero, List.set_cons_succ]; rfl)) (hJ2_4_5_9 (v482, v485) _ ⟨hHeld, (by exact Kd.rup (Kd.R_mono HO480.out (fun _ hk => ⟨hk.1.1, ⟨hk.2, ⟨hk.1.2.1, ⟨hk.1.2.2.1, hk.1.2.2.2⟩⟩⟩⟩))), (by exact Kd.rup (Kd.R_mono HO483.out (fun _ hk => ⟨hk.1.1, ⟨hk.2, ⟨hk.1.2.1, ⟨hk.1.2.2.1, hk.1.2.2.2⟩⟩⟩⟩))), (by exact Kd.rup (Kd.R_mono HO486.out (fun _ hk => ⟨hk.1.2, ⟨hk.2, ⟨hk.1.1.1.1.2, ⟨hk.1.1.1.2, hk.1.1.2⟩⟩⟩⟩))), (by exact Kd.rup (Kd.R_mono HO_472003.out (fun _ hk => ⟨hk.1.1, ⟨hk.1.2.1, ⟨hk.2, ⟨hk.1.2.2.1, hk.1.2.2.2⟩⟩⟩⟩))), (by exact Kd.rup (Kd.R_mono HO_473003.out (fun _ hk => ⟨hk.1.1, ⟨hk.1.2.1, ⟨hk.2, ⟨hk.1.2.2.1, hk.1.2.2.2⟩⟩⟩⟩))), (by exact Kd.rup (Kd.R_mono HO_474003.out (fun _ hk => ⟨hk.1.1, ⟨hk.1.2.1, ⟨hk.2, ⟨hk.1.2.2.1, hk.1.2.2.2⟩⟩⟩⟩))), (bup BK471.out), (bup BK472.out), (bup BK473.out), (hset HB.out)⟩)
            ·skip
             rintro ⟨v482, v485⟩ w71 ⟨hS_, h0_, h1_, h2_, h3_, h4_, h5_, h6_, h7_, h8_, h9_⟩
             have n0_ : Aside0 (Kd.R (Kd.int .u8) 5 w71 w.heap.size (fun k_ => some k_ ≠ (v482 : Value).ownBlock ∧ some k_ ≠ (v485 : Value).ownBlock ∧ some k_ ≠ (.slice Ao13 t456.length co13 : Value).ownBlock ∧ some k_ ≠ (.slice Ao16 t462.length co16 : Value).ownBlock ∧ some k_ ≠ (.slice Ao18 t468.length co18 : Value).ownBlock) v479 t478) := ⟨h0_⟩
             have n1_ : Aside0 (Kd.R (Kd.int .u8) 5 w71 w.heap.size (fun k_ => some k_ ≠ (v479 : Value).ownBlock ∧ some k_ ≠ (v485 : Value).ownBlock ∧ some k_ ≠ (.slice Ao13 t456.length co13 : Value).ownBlock ∧ some k_ ≠ (.slice Ao16 t462.length co16 : Value).ownBlock ∧ some k_ ≠ (.slice Ao18 t468.length co18 : Value).ownBlock) v482 t481) := ⟨h1_⟩
             have n2_ : Aside0 (Kd.R (Kd.int .u8) 5 w71 w.heap.size (fun k_ => some k_ ≠ (v479 : Value).ownBlock ∧ some k_ ≠ (v482 : Value).ownBlock ∧ some k_ ≠ (.slice Ao13 t456.length co13 : Value).ownBlock ∧ some k_ ≠ (.slice Ao16 t462.length co16 : Value).ownBlock ∧ some k_ ≠ (.slice Ao18 t468.length co18 : Value).ownBlock) v485 t484) := ⟨h2_⟩
             have n3_ : Aside0 (Kd.R (Kd.int .u8) 5 w71 w.heap.size (fun k_ => some k_ ≠ (v479 : Value).ownBlock ∧ some k_ ≠ (v482 : Value).ownBlock ∧ some k_ ≠ (v485 : Value).ownBlock ∧ some k_ ≠ (.slice Ao16 t462.length co16 : Value).ownBlock ∧ some k_ ≠ (.slice Ao18 t468.length co18 : Value).ownBlock) (.slice Ao13 t456.length co13) t456) := ⟨h3_⟩
             have n4_ : Aside0 (Kd.R (Kd.int .u8) 5 w71 w.heap.size (fun k_ => some k_ ≠ (v479 : Value).ownBlock ∧ some k_ ≠ (v482 : Value).ownBlock ∧ some k_ ≠ (v485 : Value).ownBlock ∧ some k_ ≠ (.slice Ao13 t456.length co13 : Value).ownBlock ∧ some k_ ≠ (.slice Ao18 t468.length co18 : Value).ownBlock) (.slice Ao16 t462.length co16) t462) := ⟨h4_⟩
             have n5_ : Aside0 (Kd.R (Kd.int .u8) 5 w71 w.heap.size (fun k_ => some k_ ≠ (v479 : Value).ownBlock ∧ some k_ ≠ (v482 : Value).ownBlock ∧ some k_ ≠ (v485 : Value).ownBlock ∧ some k_ ≠ (.slice Ao13 t456.length co13 : Value).ownBlock ∧ some k_ ≠ (.slice Ao16 t462.length co16 : Value).ownBlock) (.slice Ao18 t468.length co18) t468) := ⟨h5_⟩
             have n6_ : Aside0 (w71.heap[gb471]? = some (.cells #[.int .i64 t453, .int .i64 t454, .float .f64 b455, .slice Ao13 t456.length co13] 28 (0, 0))) := ⟨h6_⟩
             have n7_ : Aside0 (w71.heap[gb472]? = some (.cells #[.int .i64 t459, .int .i64 t460, .float .f64 b461, .slice Ao16 t462.length co16] 28 (0, 0))) := ⟨h7_⟩
             have n8_ : Aside0 (w71.heap[gb473]? = some (.cells #[.int .i64 t465, .int .i64 t466, .float .f64 b467, .slice Ao18 t468.length co18] 28 (0, 0))) := ⟨h8_⟩
             have n9_ : Aside0 (Below w.heap.size w w71) := ⟨h9_⟩
             clear HO_472003
             clear HO_473003
             clear HO_474003
             clear BK471
             clear BK472
             clear BK473
             clear HB
             clear h0_ h1_ h2_ h3_ h4_ h5_ h6_ h7_ h8_ h9_
             have HO480 := n0_
             have HO483 := n1_
             have HO486 := n2_
             have HO_472003 := n3_
             have HO_473003 := n4_
             have HO_474003 := n5_
             have BK471 := n6_
             have BK472 := n7_
             have BK473 := n8_
             have HB := n9_
             clear n0_ n1_ n2_ n3_ n4_ n5_ n6_ n7_ n8_ n9_
             have hHeld : w71.cell? ⟨gb471, 0, none⟩ = some (.int .i64 t453) ∧ w71.cell? ⟨gb471, 1, none⟩ = some (.int .i64 t454) ∧ w71.cell? ⟨gb471, 2, none⟩ = some (.float .f64 b455) ∧ w71.cell? ⟨gb471, 3, none⟩ = some (.slice Ao13 t456.length co13) ∧ w71.cell? ⟨gb473, 0, none⟩ = some (.int .i64 t465) ∧ w71.cell? ⟨gb473, 1, none⟩ = some (.int .i64 t466) ∧ w71.cell? ⟨gb473, 2, none⟩ = some (.float .f64 b467) ∧ w71.cell? ⟨gb473, 3, none⟩ = some (.slice Ao18 t468.length co18) ∧ w71.cell? ⟨gb472, 0, none⟩ = some (.int .i64 t459) ∧ w71.cell? ⟨gb472, 1, none⟩ = some (.int .i64 t460) ∧ w71.cell? ⟨gb472, 2, none⟩ = some (.float .f64 b461) ∧ w71.cell? ⟨gb472, 3, none⟩ = some (.slice Ao16 t462.length co16) := hS_
             refine norm_ (a' := ?_) ?_ ?_
             rotate_left
             ·simp only [putAll, Act.put, List.setIfInBounds_toArray, List.set_cons_zero, List.set_cons_succ]
              rfl
             refine two_ (i := 10) (j := 12) (Ni := some 43) (Nj := some 45) #[true, true, true, true, true, true, true, true, true, true, true, true, false, false, false, false, false] #[true, true, true, true, true, true, true, true, true, true, false, true, true, false, false, false, false] rfl rfl rfl rfl (two_of HT_.out (by kernel_rfl)) (by decide) (by decide) (fun K hK => ?_) (fun K hK => ?_)
             ·skip
              have hcv72 := own_string (P := Try.prog) Try.underlying23 Try.underlying5 Try.underlying9 (Kd.own_of_R HO486.out)
              refine value_ (w1 := ?_) (v := ?_) (by rfl) rfl ?_ ?_
              rotate_left 2
              ·go_simp
               constructor
               ·rfl
               ·rfl
              clear hcv72
              refine hK.out _ _ ⟨(blk_cell BK471.out 0).trans rfl, (blk_cell BK471.out 1).trans rfl, (blk_cell BK471.out 2).trans rfl, (blk_cell BK471.out 3).trans rfl, (blk_cell BK473.out 0).trans rfl, (blk_cell BK473.out 1).trans rfl, (blk_cell BK473.out 2).trans rfl, (blk_cell BK473.out 3).trans rfl, (blk_cell BK472.out 0).trans rfl, (blk_cell BK472.out 1).trans rfl, (blk_cell BK472.out 2).trans rfl, (blk_cell BK472.out 3).trans rfl⟩ (fun hHeld => ?_)
              clear hK K
              refine norm_ (a' := ?_) ?_ ?_
              rotate_left
              ·show Act.put _ (some 43) _ = _
               simp only [Act.put, List.setIfInBounds_toArray, List.set_cons_zero, List.set_cons_succ, i64_w, i32_w]
               rfl
              exact norm_ (by first | (simp only [putAll, Act.put, List.setIfInBounds_toArray, List.set_cons_zero, List.set_cons_succ]; done) | (simp only [putAll, Act.put, List.setIfInBounds_toArray, List.set_cons_zero, List.set_cons_succ]; rfl)) (hJ2_4_5_9_10 (v482, v485) _ ⟨hHeld, (Kd.rup HO480.out), (Kd.rup HO483.out), (Kd.rup HO486.out), (Kd.rup HO_472003.out), (Kd.rup HO_473003.out), (Kd.rup HO_474003.out), (bup BK471.out), (bup BK472.out), (bup BK473.out), (hset HB.out)⟩)
             ·skip
              refine goes_ Try.func21 (by kernel_rfl) rfl #[.agg #[.int .i64 t459, .int .i64 t460, .float .f64 b461, .slice Ao16 t462.length co16]] (by rfl) rfl rfl (by (try simp only [List.map_toArray, List.map_cons, List.map_nil]); first | done | rfl) ?_
              with_reducible refine (spec_KeyBytes.calls kj4 t459 t460 b461 _ _ t462 t487 _ ?side1 ?side2 ((spec_KeyBytes.inv0 _ _ _ _ _).symm.trans A64.out)).mono ?_
              (case side1 => repeat (first | exact (Kd.R_reads' HO_473003.out).2.2 | (with_reducible refine Kd.C_alloc ?_ _) | (with_reducible refine Kd.C_drewN ?_ _) | (with_reducible refine Kd.C_drew ?_)))
              (case side2 => exact (Kd.R_reads' HO_473003.out).2.1)
              rintro e w72 ⟨v488, rfl, ho0, hb⟩
              refine ⟨_, rfl, ?_⟩
              have n0_ := Aside0.mk (Kd.R_elder' (Kd.rup HO_472003.out) (Kd.R_base ho0) hb)
              have n1_ := Aside0.mk (Kd.R_elder' (Kd.rup HO_473003.out) (Kd.R_base ho0) hb)
              have n2_ := Aside0.mk (Kd.R_elder' (Kd.rup HO_474003.out) (Kd.R_base ho0) hb)
              have n3_ := Aside0.mk (Kd.R_elder' (Kd.rup HO480.out) (Kd.R_base ho0) hb)
              have n4_ := Aside0.mk (Kd.R_elder' (Kd.rup HO483.out) (Kd.R_base ho0) hb)
              have n5_ := Aside0.mk (Kd.R_elder' (Kd.rup HO486.out) (Kd.R_base ho0) hb)
              have n6_ := Aside0.mk (Kd.R_lower (Kd.R_new' (Kd.R_new' (Kd.R_new' (Kd.R_new' (Kd.R_new' (Kd.R_new' ho0 (Kd.R_lt (Kd.rup HO_472003.out))) (Kd.R_lt (Kd.rup HO_473003.out))) (Kd.R_lt (Kd.rup HO_474003.out))) (Kd.R_lt (Kd.rup HO480.out))) (Kd.R_lt (Kd.rup HO483.out))) (Kd.R_lt (Kd.rup HO486.out))) (below_size (hset HB.out)))
              have n7_ := Aside0.mk (blk_below (bup BK471.out) hb)
              have n8_ := Aside0.mk (blk_below (bup BK472.out) hb)
              have n9_ := Aside0.mk (blk_below (bup BK473.out) hb)
              have n10_ := Aside0.mk (below_step (hset HB.out) hb)
              clear HO_472003
              clear HO_473003
              clear HO_474003
              clear HO480
              clear HO483
              clear HO486
              clear BK471
              clear BK472
              clear BK473
              clear HB
              have HO_472003 := n0_
              have HO_473003 := n1_
              have HO_474003 := n2_
              have HO480 := n3_
              have HO483 := n4_
              have HO486 := n5_
              have HO489 := n6_
              have BK471 := n7_
              have BK472 := n8_
              have BK473 := n9_
              have HB := n10_
              clear n0_ n1_ n2_ n3_ n4_ n5_ n6_ n7_ n8_ n9_ n10_
              (try clear hb)
              (try clear hb2)
              (try clear hk)
              (try clear hi)
              (try clear ho0)
              refine hK.out _ _ ⟨(blk_cell BK471.out 0).trans rfl, (blk_cell BK471.out 1).trans rfl, (blk_cell BK471.out 2).trans rfl, (blk_cell BK471.out 3).trans rfl, (blk_cell BK473.out 0).trans rfl, (blk_cell BK473.out 1).trans rfl, (blk_cell BK473.out 2).trans rfl, (blk_cell BK473.out 3).trans rfl, (blk_cell BK472.out 0).trans rfl, (blk_cell BK472.out 1).trans rfl, (blk_cell BK472.out 2).trans rfl, (blk_cell BK472.out 3).trans rfl⟩ (fun hHeld => ?_)
              clear hK K
              refine norm_ (a' := ?_) ?_ ?_
              rotate_left
              ·show Act.put _ (some 45) _ = _
               simp only [Act.put, List.setIfInBounds_toArray, List.set_cons_zero, List.set_cons_succ, i64_w, i32_w]
               rfl
              exact norm_ (by first | (simp only [putAll, Act.put, List.setIfInBounds_toArray, List.set_cons_zero, List.set_cons_succ]; done) | (simp only [putAll, Act.put, List.setIfInBounds_toArray, List.set_cons_zero, List.set_cons_succ]; rfl)) (hJ2_4_5_9_12 (v482, v485, v488) _ ⟨hHeld, (by exact Kd.rup (Kd.R_mono HO480.out (fun _ hk => ⟨hk.1.1, ⟨hk.1.2.1, ⟨hk.2, ⟨hk.1.2.2.1, ⟨hk.1.2.2.2.1, hk.1.2.2.2.2⟩⟩⟩⟩⟩))), (by exact Kd.rup (Kd.R_mono HO483.out (fun _ hk => ⟨hk.1.1, ⟨hk.1.2.1, ⟨hk.2, ⟨hk.1.2.2.1, ⟨hk.1.2.2.2.1, hk.1.2.2.2.2⟩⟩⟩⟩⟩))), (by exact Kd.rup (Kd.R_mono HO486.out (fun _ hk => ⟨hk.1.1, ⟨hk.1.2.1, ⟨hk.2, ⟨hk.1.2.2.1, ⟨hk.1.2.2.2.1, hk.1.2.2.2.2⟩⟩⟩⟩⟩))), (by exact Kd.rup (Kd.R_mono HO489.out (fun _ hk => ⟨hk.1.1.2, ⟨hk.1.2, ⟨hk.2, ⟨hk.1.1.1.1.1.2, ⟨hk.1.1.1.1.2, hk.1.1.1.2⟩⟩⟩⟩⟩))), (by exact Kd.rup (Kd.R_mono HO_472003.out (fun _ hk => ⟨hk.1.1, ⟨hk.1.2.1, ⟨hk.1.2.2.1, ⟨hk.2, ⟨hk.1.2.2.2.1, hk.1.2.2.2.2⟩⟩⟩⟩⟩))), (by exact Kd.rup (Kd.R_mono HO_473003.out (fun _ hk => ⟨hk.1.1, ⟨hk.1.2.1, ⟨hk.1.2.2.1, ⟨hk.2, ⟨hk.1.2.2.2.1, hk.1.2.2.2.2⟩⟩⟩⟩⟩))), (by exact Kd.rup (Kd.R_mono HO_474003.out (fun _ hk => ⟨hk.1.1, ⟨hk.1.2.1, ⟨hk.1.2.2.1, ⟨hk.2, ⟨hk.1.2.2.2.1, hk.1.2.2.2.2⟩⟩⟩⟩⟩))), (bup BK471.out), (bup BK472.out), (bup BK473.out), (hset HB.out)⟩)
           ·skip
            rintro ⟨v482, v485, v488⟩ w72 ⟨hS_, h0_, h1_, h2_, h3_, h4_, h5_, h6_, h7_, h8_, h9_, h10_⟩
            have n0_ : Aside0 (Kd.R (Kd.int .u8) 5 w72 w.heap.size (fun k_ => some k_ ≠ (v482 : Value).ownBlock ∧ some k_ ≠ (v485 : Value).ownBlock ∧ some k_ ≠ (v488 : Value).ownBlock ∧ some k_ ≠ (.slice Ao13 t456.length co13 : Value).ownBlock ∧ some k_ ≠ (.slice Ao16 t462.length co16 : Value).ownBlock ∧ some k_ ≠ (.slice Ao18 t468.length co18 : Value).ownBlock) v479 t478) := ⟨h0_⟩
            have n1_ : Aside0 (Kd.R (Kd.int .u8) 5 w72 w.heap.size (fun k_ => some k_ ≠ (v479 : Value).ownBlock ∧ some k_ ≠ (v485 : Value).ownBlock ∧ some k_ ≠ (v488 : Value).ownBlock ∧ some k_ ≠ (.slice Ao13 t456.length co13 : Value).ownBlock ∧ some k_ ≠ (.slice Ao16 t462.length co16 : Value).ownBlock ∧ some k_ ≠ (.slice Ao18 t468.length co18 : Value).ownBlock) v482 t481) := ⟨h1_⟩
            have n2_ : Aside0 (Kd.R (Kd.int .u8) 5 w72 w.heap.size (fun k_ => some k_ ≠ (v479 : Value).ownBlock ∧ some k_ ≠ (v482 : Value).ownBlock ∧ some k_ ≠ (v488 : Value).ownBlock ∧ some k_ ≠ (.slice Ao13 t456.length co13 : Value).ownBlock ∧ some k_ ≠ (.slice Ao16 t462.length co16 : Value).ownBlock ∧ some k_ ≠ (.slice Ao18 t468.length co18 : Value).ownBlock) v485 t484) := ⟨h2_⟩
            have n3_ : Aside0 (Kd.R (Kd.int .u8) 5 w72 w.heap.size (fun k_ => some k_ ≠ (v479 : Value).ownBlock ∧ some k_ ≠ (v482 : Value).ownBlock ∧ some k_ ≠ (v485 : Value).ownBlock ∧ some k_ ≠ (.slice Ao13 t456.length co13 : Value).ownBlock ∧ some k_ ≠ (.slice Ao16 t462.length co16 : Value).ownBlock ∧ some k_ ≠ (.slice Ao18 t468.length co18 : Value).ownBlock) v488 t487) := ⟨h3_⟩
            have n4_ : Aside0 (Kd.R (Kd.int .u8) 5 w72 w.heap.size (fun k_ => some k_ ≠ (v479 : Value).ownBlock ∧ some k_ ≠ (v482 : Value).ownBlock ∧ some k_ ≠ (v485 : Value).ownBlock ∧ some k_ ≠ (v488 : Value).ownBlock ∧ some k_ ≠ (.slice Ao16 t462.length co16 : Value).ownBlock ∧ some k_ ≠ (.slice Ao18 t468.length co18 : Value).ownBlock) (.slice Ao13 t456.length co13) t456) := ⟨h4_⟩
            have n5_ : Aside0 (Kd.R (Kd.int .u8) 5 w72 w.heap.size (fun k_ => some k_ ≠ (v479 : Value).ownBlock ∧ some k_ ≠ (v482 : Value).ownBlock ∧ some k_ ≠ (v485 : Value).ownBlock ∧ some k_ ≠ (v488 : Value).ownBlock ∧ some k_ ≠ (.slice Ao13 t456.length co13 : Value).ownBlock ∧ some k_ ≠ (.slice Ao18 t468.length co18 : Value).ownBlock) (.slice Ao16 t462.length co16) t462) := ⟨h5_⟩
            have n6_ : Aside0 (Kd.R (Kd.int .u8) 5 w72 w.heap.size (fun k_ => some k_ ≠ (v479 : Value).ownBlock ∧ some k_ ≠ (v482 : Value).ownBlock ∧ some k_ ≠ (v485 : Value).ownBlock ∧ some k_ ≠ (v488 : Value).ownBlock ∧ some k_ ≠ (.slice Ao13 t456.length co13 : Value).ownBlock ∧ some k_ ≠ (.slice Ao16 t462.length co16 : Value).ownBlock) (.slice Ao18 t468.length co18) t468) := ⟨h6_⟩
            have n7_ : Aside0 (w72.heap[gb471]? = some (.cells #[.int .i64 t453, .int .i64 t454, .float .f64 b455, .slice Ao13 t456.length co13] 28 (0, 0))) := ⟨h7_⟩
            have n8_ : Aside0 (w72.heap[gb472]? = some (.cells #[.int .i64 t459, .int .i64 t460, .float .f64 b461, .slice Ao16 t462.length co16] 28 (0, 0))) := ⟨h8_⟩
            have n9_ : Aside0 (w72.heap[gb473]? = some (.cells #[.int .i64 t465, .int .i64 t466, .float .f64 b467, .slice Ao18 t468.length co18] 28 (0, 0))) := ⟨h9_⟩
            have n10_ : Aside0 (Below w.heap.size w w72) := ⟨h10_⟩
            clear HO_472003
            clear HO_473003
            clear HO_474003
            clear BK471
            clear BK472
            clear BK473
            clear HB
            clear h0_ h1_ h2_ h3_ h4_ h5_ h6_ h7_ h8_ h9_ h10_
            have HO480 := n0_
            have HO483 := n1_
            have HO486 := n2_
            have HO489 := n3_
            have HO_472003 := n4_
            have HO_473003 := n5_
            have HO_474003 := n6_
            have BK471 := n7_
            have BK472 := n8_
            have BK473 := n9_
            have HB := n10_
            clear n0_ n1_ n2_ n3_ n4_ n5_ n6_ n7_ n8_ n9_ n10_
            have hHeld : w72.cell? ⟨gb471, 0, none⟩ = some (.int .i64 t453) ∧ w72.cell? ⟨gb471, 1, none⟩ = some (.int .i64 t454) ∧ w72.cell? ⟨gb471, 2, none⟩ = some (.float .f64 b455) ∧ w72.cell? ⟨gb471, 3, none⟩ = some (.slice Ao13 t456.length co13) ∧ w72.cell? ⟨gb473, 0, none⟩ = some (.int .i64 t465) ∧ w72.cell? ⟨gb473, 1, none⟩ = some (.int .i64 t466) ∧ w72.cell? ⟨gb473, 2, none⟩ = some (.float .f64 b467) ∧ w72.cell? ⟨gb473, 3, none⟩ = some (.slice Ao18 t468.length co18) ∧ w72.cell? ⟨gb472, 0, none⟩ = some (.int .i64 t459) ∧ w72.cell? ⟨gb472, 1, none⟩ = some (.int .i64 t460) ∧ w72.cell? ⟨gb472, 2, none⟩ = some (.float .f64 b461) ∧ w72.cell? ⟨gb472, 3, none⟩ = some (.slice Ao16 t462.length co16) := hS_
            refine norm_ (a' := ?_) ?_ ?_
            rotate_left
            ·simp only [putAll, Act.put, List.setIfInBounds_toArray, List.set_cons_zero, List.set_cons_succ]
             rfl
            refine two_ (i := 10) (j := 13) (Ni := some 43) (Nj := some 46) #[true, true, true, true, true, true, true, true, true, true, true, true, true, false, false, false, false] #[true, true, true, true, true, true, true, true, true, true, false, true, true, true, false, false, false] rfl rfl rfl rfl (two_of HT_.out (by kernel_rfl)) (by decide) (by decide) (fun K hK => ?_) (fun K hK => ?_)
            ·skip
             have hcv73 := own_string (P := Try.prog) Try.underlying23 Try.underlying5 Try.underlying9 (Kd.own_of_R HO486.out)
             refine value_ (w1 := ?_) (v := ?_) (by rfl) rfl ?_ ?_
             rotate_left 2
             ·go_simp
              constructor
              ·rfl
              ·rfl
             clear hcv73
             refine hK.out _ _ ⟨(blk_cell BK471.out 0).trans rfl, (blk_cell BK471.out 1).trans rfl, (blk_cell BK471.out 2).trans rfl, (blk_cell BK471.out 3).trans rfl, (blk_cell BK473.out 0).trans rfl, (blk_cell BK473.out 1).trans rfl, (blk_cell BK473.out 2).trans rfl, (blk_cell BK473.out 3).trans rfl, (blk_cell BK472.out 0).trans rfl, (blk_cell BK472.out 1).trans rfl, (blk_cell BK472.out 2).trans rfl, (blk_cell BK472.out 3).trans rfl⟩ (fun hHeld => ?_)
             clear hK K
             refine norm_ (a' := ?_) ?_ ?_
             rotate_left
             ·show Act.put _ (some 43) _ = _
              simp only [Act.put, List.setIfInBounds_toArray, List.set_cons_zero, List.set_cons_succ, i64_w, i32_w]
              rfl
             exact norm_ (by first | (simp only [putAll, Act.put, List.setIfInBounds_toArray, List.set_cons_zero, List.set_cons_succ]; done) | (simp only [putAll, Act.put, List.setIfInBounds_toArray, List.set_cons_zero, List.set_cons_succ]; rfl)) (hJ2_4_5_9_10_12 (v482, v485, v488) _ ⟨hHeld, (Kd.rup HO480.out), (Kd.rup HO483.out), (Kd.rup HO486.out), (Kd.rup HO489.out), (Kd.rup HO_472003.out), (Kd.rup HO_473003.out), (Kd.rup HO_474003.out), (bup BK471.out), (bup BK472.out), (bup BK473.out), (hset HB.out)⟩)
            ·skip
             have hcv73 := own_string (P := Try.prog) Try.underlying23 Try.underlying5 Try.underlying9 (Kd.own_of_R HO489.out)
             refine value_ (w1 := ?_) (v := ?_) (by rfl) rfl ?_ ?_
             rotate_left 2
             ·go_simp
              constructor
              ·rfl
              ·rfl
             clear hcv73
             refine hK.out _ _ ⟨(blk_cell BK471.out 0).trans rfl, (blk_cell BK471.out 1).trans rfl, (blk_cell BK471.out 2).trans rfl, (blk_cell BK471.out 3).trans rfl, (blk_cell BK473.out 0).trans rfl, (blk_cell BK473.out 1).trans rfl, (blk_cell BK473.out 2).trans rfl, (blk_cell BK473.out 3).trans rfl, (blk_cell BK472.out 0).trans rfl, (blk_cell BK472.out 1).trans rfl, (blk_cell BK472.out 2).trans rfl, (blk_cell BK472.out 3).trans rfl⟩ (fun hHeld => ?_)
             clear hK K
             refine norm_ (a' := ?_) ?_ ?_
             rotate_left
             ·show Act.put _ (some 46) _ = _
              simp only [Act.put, List.setIfInBounds_toArray, List.set_cons_zero, List.set_cons_succ, i64_w, i32_w]
              rfl
             exact norm_ (by first | (simp only [putAll, Act.put, List.setIfInBounds_toArray, List.set_cons_zero, List.set_cons_succ]; done) | (simp only [putAll, Act.put, List.setIfInBounds_toArray, List.set_cons_zero, List.set_cons_succ]; rfl)) (hJ2_4_5_9_12_13 (v482, v485, v488) _ ⟨hHeld, (Kd.rup HO480.out), (Kd.rup HO483.out), (Kd.rup HO486.out), (Kd.rup HO489.out), (Kd.rup HO_472003.out), (Kd.rup HO_473003.out), (Kd.rup HO_474003.out), (bup BK471.out), (bup BK472.out), (bup BK473.out), (hset HB.out)⟩)
          ·skip
           rintro ⟨v482, v485⟩ w72 ⟨hS_, h0_, h1_, h2_, h3_, h4_, h5_, h6_, h7_, h8_, h9_⟩
           have n0_ : Aside0 (Kd.R (Kd.int .u8) 5 w72 w.heap.size (fun k_ => some k_ ≠ (v482 : Value).ownBlock ∧ some k_ ≠ (v485 : Value).ownBlock ∧ some k_ ≠ (.slice Ao13 t456.length co13 : Value).ownBlock ∧ some k_ ≠ (.slice Ao16 t462.length co16 : Value).ownBlock ∧ some k_ ≠ (.slice Ao18 t468.length co18 : Value).ownBlock) v479 t478) := ⟨h0_⟩
           have n1_ : Aside0 (Kd.R (Kd.int .u8) 5 w72 w.heap.size (fun k_ => some k_ ≠ (v479 : Value).ownBlock ∧ some k_ ≠ (v485 : Value).ownBlock ∧ some k_ ≠ (.slice Ao13 t456.length co13 : Value).ownBlock ∧ some k_ ≠ (.slice Ao16 t462.length co16 : Value).ownBlock ∧ some k_ ≠ (.slice Ao18 t468.length co18 : Value).ownBlock) v482 t481) := ⟨h1_⟩
           have n2_ : Aside0 (Kd.R (Kd.int .u8) 5 w72 w.heap.size (fun k_ => some k_ ≠ (v479 : Value).ownBlock ∧ some k_ ≠ (v482 : Value).ownBlock ∧ some k_ ≠ (.slice Ao13 t456.length co13 : Value).ownBlock ∧ some k_ ≠ (.slice Ao16 t462.length co16 : Value).ownBlock ∧ some k_ ≠ (.slice Ao18 t468.length co18 : Value).ownBlock) v485 t484) := ⟨h2_⟩
           have n3_ : Aside0 (Kd.R (Kd.int .u8) 5 w72 w.heap.size (fun k_ => some k_ ≠ (v479 : Value).ownBlock ∧ some k_ ≠ (v482 : Value).ownBlock ∧ some k_ ≠ (v485 : Value).ownBlock ∧ some k_ ≠ (.slice Ao16 t462.length co16 : Value).ownBlock ∧ some k_ ≠ (.slice Ao18 t468.length co18 : Value).ownBlock) (.slice Ao13 t456.length co13) t456) := ⟨h3_⟩
           have n4_ : Aside0 (Kd.R (Kd.int .u8) 5 w72 w.heap.size (fun k_ => some k_ ≠ (v479 : Value).ownBlock ∧ some k_ ≠ (v482 : Value).ownBlock ∧ some k_ ≠ (v485 : Value).ownBlock ∧ some k_ ≠ (.slice Ao13 t456.length co13 : Value).ownBlock ∧ some k_ ≠ (.slice Ao18 t468.length co18 : Value).ownBlock) (.slice Ao16 t462.length co16) t462) := ⟨h4_⟩
           have n5_ : Aside0 (Kd.R (Kd.int .u8) 5 w72 w.heap.size (fun k_ => some k_ ≠ (v479 : Value).ownBlock ∧ some k_ ≠ (v482 : Value).ownBlock ∧ some k_ ≠ (v485 : Value).ownBlock ∧ some k_ ≠ (.slice Ao13 t456.length co13 : Value).ownBlock ∧ some k_ ≠ (.slice Ao16 t462.length co16 : Value).ownBlock) (.slice Ao18 t468.length co18) t468) := ⟨h5_⟩
           have n6_ : Aside0 (w72.heap[gb471]? = some (.cells #[.int .i64 t453, .int .i64 t454, .float .f64 b455, .slice Ao13 t456.length co13] 28 (0, 0))) := ⟨h6_⟩
           have n7_ : Aside0 (w72.heap[gb472]? = some (.cells #[.int .i64 t459, .int .i64 t460, .float .f64 b461, .slice Ao16 t462.length co16] 28 (0, 0))) := ⟨h7_⟩
           have n8_ : Aside0 (w72.heap[gb473]? = some (.cells #[.int .i64 t465, .int .i64 t466, .float .f64 b467, .slice Ao18 t468.length co18] 28 (0, 0))) := ⟨h8_⟩
           have n9_ : Aside0 (Below w.heap.size w w72) := ⟨h9_⟩
           clear HO_472003
           clear HO_473003
           clear HO_474003
           clear BK471
           clear BK472
           clear BK473
           clear HB
           clear h0_ h1_ h2_ h3_ h4_ h5_ h6_ h7_ h8_ h9_
           have HO480 := n0_
           have HO483 := n1_
           have HO486 := n2_
           have HO_472003 := n3_
           have HO_473003 := n4_
           have HO_474003 := n5_
           have BK471 := n6_
           have BK472 := n7_
           have BK473 := n8_
           have HB := n9_
           clear n0_ n1_ n2_ n3_ n4_ n5_ n6_ n7_ n8_ n9_
           have hHeld : w72.cell? ⟨gb471, 0, none⟩ = some (.int .i64 t453) ∧ w72.cell? ⟨gb471, 1, none⟩ = some (.int .i64 t454) ∧ w72.cell? ⟨gb471, 2, none⟩ = some (.float .f64 b455) ∧ w72.cell? ⟨gb471, 3, none⟩ = some (.slice Ao13 t456.length co13) ∧ w72.cell? ⟨gb473, 0, none⟩ = some (.int .i64 t465) ∧ w72.cell? ⟨gb473, 1, none⟩ = some (.int .i64 t466) ∧ w72.cell? ⟨gb473, 2, none⟩ = some (.float .f64 b467) ∧ w72.cell? ⟨gb473, 3, none⟩ = some (.slice Ao18 t468.length co18) ∧ w72.cell? ⟨gb472, 0, none⟩ = some (.int .i64 t459) ∧ w72.cell? ⟨gb472, 1, none⟩ = some (.int .i64 t460) ∧ w72.cell? ⟨gb472, 2, none⟩ = some (.float .f64 b461) ∧ w72.cell? ⟨gb472, 3, none⟩ = some (.slice Ao16 t462.length co16) := hS_
           refine norm_ (a' := ?_) ?_ ?_
           rotate_left
           ·simp only [putAll, Act.put, List.setIfInBounds_toArray, List.set_cons_zero, List.set_cons_succ]
            rfl
           refine one_ (i := 12) (N := some 45) #[true, true, true, true, true, true, true, true, true, true, true, true, true, false, false, false, false] rfl rfl (one_of HT_.out (by kernel_rfl)) (by decide) (fun K hK => ?_)
           refine goes_ Try.func21 (by kernel_rfl) rfl #[.agg #[.int .i64 t459, .int .i64 t460, .float .f64 b461, .slice Ao16 t462.length co16]] (by rfl) rfl rfl (by (try simp only [List.map_toArray, List.map_cons, List.map_nil]); first | done | rfl) ?_
           with_reducible refine (spec_KeyBytes.calls kj4 t459 t460 b461 _ _ t462 t487 _ ?side1 ?side2 ((spec_KeyBytes.inv0 _ _ _ _ _).symm.trans A64.out)).mono ?_
           (case side1 => repeat (first | exact (Kd.R_reads' HO_473003.out).2.2 | (with_reducible refine Kd.C_alloc ?_ _) | (with_reducible refine Kd.C_drewN ?_ _) | (with_reducible refine Kd.C_drew ?_)))
           (case side2 => exact (Kd.R_reads' HO_473003.out).2.1)
           rintro e w73 ⟨v488, rfl, ho0, hb⟩
           refine ⟨_, rfl, ?_⟩
           have n0_ := Aside0.mk (Kd.R_elder' (Kd.rup HO_472003.out) (Kd.R_base ho0) hb)
           have n1_ := Aside0.mk (Kd.R_elder' (Kd.rup HO_473003.out) (Kd.R_base ho0) hb)
           have n2_ := Aside0.mk (Kd.R_elder' (Kd.rup HO_474003.out) (Kd.R_base ho0) hb)
           have n3_ := Aside0.mk (Kd.R_elder' (Kd.rup HO480.out) (Kd.R_base ho0) hb)
           have n4_ := Aside0.mk (Kd.R_elder' (Kd.rup HO483.out) (Kd.R_base ho0) hb)
           have n5_ := Aside0.mk (Kd.R_elder' (Kd.rup HO486.out) (Kd.R_base ho0) hb)
           have n6_ := Aside0.mk (Kd.R_lower (Kd.R_new' (Kd.R_new' (Kd.R_new' (Kd.R_new' (Kd.R_new' (Kd.R_new' ho0 (Kd.R_lt (Kd.rup HO_472003.out))) (Kd.R_lt (Kd.rup HO_473003.out))) (Kd.R_lt (Kd.rup HO_474003.out))) (Kd.R_lt (Kd.rup HO480.out))) (Kd.R_lt (Kd.rup HO483.out))) (Kd.R_lt (Kd.rup HO486.out))) (below_size (hset HB.out)))
           have n7_ := Aside0.mk (blk_below (bup BK471.out) hb)
           have n8_ := Aside0.mk (blk_below (bup BK472.out) hb)
           have n9_ := Aside0.mk (blk_below (bup BK473.out) hb)
           have n10_ := Aside0.mk (below_step (hset HB.out) hb)
           clear HO_472003
           clear HO_473003
           clear HO_474003
           clear HO480
           clear HO483
           clear HO486
           clear BK471
           clear BK472
           clear BK473
           clear HB
           have HO_472003 := n0_
           have HO_473003 := n1_
           have HO_474003 := n2_
           have HO480 := n3_
           have HO483 := n4_
           have HO486 := n5_
           have HO489 := n6_
           have BK471 := n7_
           have BK472 := n8_
           have BK473 := n9_
           have HB := n10_
           clear n0_ n1_ n2_ n3_ n4_ n5_ n6_ n7_ n8_ n9_ n10_
           (try clear hb)
           (try clear hb2)
           (try clear hk)
           (try clear hi)
           (try clear ho0)
           refine hK.out _ _ ⟨(blk_cell BK471.out 0).trans rfl, (blk_cell BK471.out 1).trans rfl, (blk_cell BK471.out 2).trans rfl, (blk_cell BK471.out 3).trans rfl, (blk_cell BK473.out 0).trans rfl, (blk_cell BK473.out 1).trans rfl, (blk_cell BK473.out 2).trans rfl, (blk_cell BK473.out 3).trans rfl, (blk_cell BK472.out 0).trans rfl, (blk_cell BK472.out 1).trans rfl, (blk_cell BK472.out 2).trans rfl, (blk_cell BK472.out 3).trans rfl⟩ (fun hHeld => ?_)
           clear hK K
           refine norm_ (a' := ?_) ?_ ?_
           rotate_left
           ·show Act.put _ (some 45) _ = _
            simp only [Act.put, List.setIfInBounds_toArray, List.set_cons_zero, List.set_cons_succ, i64_w, i32_w]
            rfl
           exact norm_ (by first | (simp only [putAll, Act.put, List.setIfInBounds_toArray, List.set_cons_zero, List.set_cons_succ]; done) | (simp only [putAll, Act.put, List.setIfInBounds_toArray, List.set_cons_zero, List.set_cons_succ]; rfl)) (hJ2_4_5_9_10_12 (v482, v485, v488) _ ⟨hHeld, (by exact Kd.rup (Kd.R_mono HO480.out (fun _ hk => ⟨hk.1.1, ⟨hk.1.2.1, ⟨hk.2, ⟨hk.1.2.2.1, ⟨hk.1.2.2.2.1, hk.1.2.2.2.2⟩⟩⟩⟩⟩))), (by exact Kd.rup (Kd.R_mono HO483.out (fun _ hk => ⟨hk.1.1, ⟨hk.1.2.1, ⟨hk.2, ⟨hk.1.2.2.1, ⟨hk.1.2.2.2.1, hk.1.2.2.2.2⟩⟩⟩⟩⟩))), (by exact Kd.rup (Kd.R_mono HO486.out (fun _ hk => ⟨hk.1.1, ⟨hk.1.2.1, ⟨hk.2, ⟨hk.1.2.2.1, ⟨hk.1.2.2.2.1, hk.1.2.2.2.2⟩⟩⟩⟩⟩))), (by exact Kd.rup (Kd.R_mono HO489.out (fun _ hk => ⟨hk.1.1.2, ⟨hk.1.2, ⟨hk.2, ⟨hk.1.1.1.1.1.2, ⟨hk.1.1.1.1.2, hk.1.1.1.2⟩⟩⟩⟩⟩))), (by exact Kd.rup (Kd.R_mono HO_472003.out (fun _ hk => ⟨hk.1.1, ⟨hk.1.2.1, ⟨hk.1.2.2.1, ⟨hk.2, ⟨hk.1.2.2.2.1, hk.1.2.2.2.2⟩⟩⟩⟩⟩))), (by exact Kd.rup (Kd.R_mono HO_473003.out (fun _ hk => ⟨hk.1.1, ⟨hk.1.2.1, ⟨hk.1.2.2.1, ⟨hk.2, ⟨hk.1.2.2.2.1, hk.1.2.2.2.2⟩⟩⟩⟩⟩))), (by exact Kd.rup (Kd.R_mono HO_474003.out (fun _ hk => ⟨hk.1.1, ⟨hk.1.2.1, ⟨hk.1.2.2.1, ⟨hk.2, ⟨hk.1.2.2.2.1, hk.1.2.2.2.2⟩⟩⟩⟩⟩))), (bup BK471.out), (bup BK472.out), (bup BK473.out), (hset HB.out)⟩)
         ·skip
          rintro ⟨v482, v485, v488⟩ w73 ⟨hS_, h0_, h1_, h2_, h3_, h4_, h5_, h6_, h7_, h8_, h9_, h10_⟩
          have n0_ : Aside0 (Kd.R (Kd.int .u8) 5 w73 w.heap.size (fun k_ => some k_ ≠ (v482 : Value).ownBlock ∧ some k_ ≠ (v485 : Value).ownBlock ∧ some k_ ≠ (v488 : Value).ownBlock ∧ some k_ ≠ (.slice Ao13 t456.length co13 : Value).ownBlock ∧ some k_ ≠ (.slice Ao16 t462.length co16 : Value).ownBlock ∧ some k_ ≠ (.slice Ao18 t468.length co18 : Value).ownBlock) v479 t478) := ⟨h0_⟩
          have n1_ : Aside0 (Kd.R (Kd.int .u8) 5 w73 w.heap.size (fun k_ => some k_ ≠ (v479 : Value).ownBlock ∧ some k_ ≠ (v485 : Value).ownBlock ∧ some k_ ≠ (v488 : Value).ownBlock ∧ some k_ ≠ (.slice Ao13 t456.length co13 : Value).ownBlock ∧ some k_ ≠ (.slice Ao16 t462.length co16 : Value).ownBlock ∧ some k_ ≠ (.slice Ao18 t468.length co18 : Value).ownBlock) v482 t481) := ⟨h1_⟩
          have n2_ : Aside0 (Kd.R (Kd.int .u8) 5 w73 w.heap.size (fun k_ => some k_ ≠ (v479 : Value).ownBlock ∧ some k_ ≠ (v482 : Value).ownBlock ∧ some k_ ≠ (v488 : Value).ownBlock ∧ some k_ ≠ (.slice Ao13 t456.length co13 : Value).ownBlock ∧ some k_ ≠ (.slice Ao16 t462.length co16 : Value).ownBlock ∧ some k_ ≠ (.slice Ao18 t468.length co18 : Value).ownBlock) v485 t484) := ⟨h2_⟩
          have n3_ : Aside0 (Kd.R (Kd.int .u8) 5 w73 w.heap.size (fun k_ => some k_ ≠ (v479 : Value).ownBlock ∧ some k_ ≠ (v482 : Value).ownBlock ∧ some k_ ≠ (v485 : Value).ownBlock ∧ some k_ ≠ (.slice Ao13 t456.length co13 : Value).ownBlock ∧ some k_ ≠ (.slice Ao16 t462.length co16 : Value).ownBlock ∧ some k_ ≠ (.slice Ao18 t468.length co18 : Value).ownBlock) v488 t487) := ⟨h3_⟩
          have n4_ : Aside0 (Kd.R (Kd.int .u8) 5 w73 w.heap.size (fun k_ => some k_ ≠ (v479 : Value).ownBlock ∧ some k_ ≠ (v482 : Value).ownBlock ∧ some k_ ≠ (v485 : Value).ownBlock ∧ some k_ ≠ (v488 : Value).ownBlock ∧ some k_ ≠ (.slice Ao16 t462.length co16 : Value).ownBlock ∧ some k_ ≠ (.slice Ao18 t468.length co18 : Value).ownBlock) (.slice Ao13 t456.length co13) t456) := ⟨h4_⟩
          have n5_ : Aside0 (Kd.R (Kd.int .u8) 5 w73 w.heap.size (fun k_ => some k_ ≠ (v479 : Value).ownBlock ∧ some k_ ≠ (v482 : Value).ownBlock ∧ some k_ ≠ (v485 : Value).ownBlock ∧ some k_ ≠ (v488 : Value).ownBlock ∧ some k_ ≠ (.slice Ao13 t456.length co13 : Value).ownBlock ∧ some k_ ≠ (.slice Ao18 t468.length co18 : Value).ownBlock) (.slice Ao16 t462.length co16) t462) := ⟨h5_⟩
          have n6_ : Aside0 (Kd.R (Kd.int .u8) 5 w73 w.heap.size (fun k_ => some k_ ≠ (v479 : Value).ownBlock ∧ some k_ ≠ (v482 : Value).ownBlock ∧ some k_ ≠ (v485 : Value).ownBlock ∧ some k_ ≠ (v488 : Value).ownBlock ∧ some k_ ≠ (.slice Ao13 t456.length co13 : Value).ownBlock ∧ some k_ ≠ (.slice Ao16 t462.length co16 : Value).ownBlock) (.slice Ao18 t468.length co18) t468) := ⟨h6_⟩
          have n7_ : Aside0 (w73.heap[gb471]? = some (.cells #[.int .i64 t453, .int .i64 t454, .float .f64 b455, .slice Ao13 t456.length co13] 28 (0, 0))) := ⟨h7_⟩
          have n8_ : Aside0 (w73.heap[gb472]? = some (.cells #[.int .i64 t459, .int .i64 t460, .float .f64 b461, .slice Ao16 t462.length co16] 28 (0, 0))) := ⟨h8_⟩
          have n9_ : Aside0 (w73.heap[gb473]? = some (.cells #[.int .i64 t465, .int .i64 t466, .float .f64 b467, .slice Ao18 t468.length co18] 28 (0, 0))) := ⟨h9_⟩
          have n10_ : Aside0 (Below w.heap.size w w73) := ⟨h10_⟩
          clear HO_472003
          clear HO_473003
          clear HO_474003
          clear BK471
          clear BK472
          clear BK473
          clear HB
          clear h0_ h1_ h2_ h3_ h4_ h5_ h6_ h7_ h8_ h9_ h10_
          have HO480 := n0_
          have HO483 := n1_
          have HO486 := n2_
          have HO489 := n3_
          have HO_472003 := n4_
          have HO_473003 := n5_
          have HO_474003 := n6_
          have BK471 := n7_
          have BK472 := n8_
          have BK473 := n9_
          have HB := n10_
          clear n0_ n1_ n2_ n3_ n4_ n5_ n6_ n7_ n8_ n9_ n10_
          have hHeld : w73.cell? ⟨gb471, 0, none⟩ = some (.int .i64 t453) ∧ w73.cell? ⟨gb471, 1, none⟩ = some (.int .i64 t454) ∧ w73.cell? ⟨gb471, 2, none⟩ = some (.float .f64 b455) ∧ w73.cell? ⟨gb471, 3, none⟩ = some (.slice Ao13 t456.length co13) ∧ w73.cell? ⟨gb473, 0, none⟩ = some (.int .i64 t465) ∧ w73.cell? ⟨gb473, 1, none⟩ = some (.int .i64 t466) ∧ w73.cell? ⟨gb473, 2, none⟩ = some (.float .f64 b467) ∧ w73.cell? ⟨gb473, 3, none⟩ = some (.slice Ao18 t468.length co18) ∧ w73.cell? ⟨gb472, 0, none⟩ = some (.int .i64 t459) ∧ w73.cell? ⟨gb472, 1, none⟩ = some (.int .i64 t460) ∧ w73.cell? ⟨gb472, 2, none⟩ = some (.float .f64 b461) ∧ w73.cell? ⟨gb472, 3, none⟩ = some (.slice Ao16 t462.length co16) := hS_
          refine norm_ (a' := ?_) ?_ ?_
          rotate_left
          ·simp only [putAll, Act.put, List.setIfInBounds_toArray, List.set_cons_zero, List.set_cons_succ]
           rfl
          refine one_ (i := 10) (N := some 43) #[true, true, true, true, true, true, true, true, true, true, true, true, true, true, false, false, false] rfl rfl (one_of HT_.out (by kernel_rfl)) (by decide) (fun K hK => ?_)
          have hcv74 := own_string (P := Try.prog) Try.underlying23 Try.underlying5 Try.underlying9 (Kd.own_of_R HO486.out)
          refine value_ (w1 := ?_) (v := ?_) (by rfl) rfl ?_ ?_
          rotate_left 2
          ·go_simp
           constructor
           ·rfl
           ·rfl
          clear hcv74
          refine hK.out _ _ ⟨(blk_cell BK471.out 0).trans rfl, (blk_cell BK471.out 1).trans rfl, (blk_cell BK471.out 2).trans rfl, (blk_cell BK471.out 3).trans rfl, (blk_cell BK473.out 0).trans rfl, (blk_cell BK473.out 1).trans rfl, (blk_cell BK473.out 2).trans rfl, (blk_cell BK473.out 3).trans rfl, (blk_cell BK472.out 0).trans rfl, (blk_cell BK472.out 1).trans rfl, (blk_cell BK472.out 2).trans rfl, (blk_cell BK472.out 3).trans rfl⟩ (fun hHeld => ?_)
          clear hK K
          refine norm_ (a' := ?_) ?_ ?_
          rotate_left
          ·show Act.put _ (some 43) _ = _
           simp only [Act.put, List.setIfInBounds_toArray, List.set_cons_zero, List.set_cons_succ, i64_w, i32_w]
           rfl
          exact norm_ (by first | (simp only [putAll, Act.put, List.setIfInBounds_toArray, List.set_cons_zero, List.set_cons_succ]; done) | (simp only [putAll, Act.put, List.setIfInBounds_toArray, List.set_cons_zero, List.set_cons_succ]; rfl)) (hJ2_4_5_9_10_12_13 (v482, v485, v488) _ ⟨hHeld, (Kd.rup HO480.out), (Kd.rup HO483.out), (Kd.rup HO486.out), (Kd.rup HO489.out), (Kd.rup HO_472003.out), (Kd.rup HO_473003.out), (Kd.rup HO_474003.out), (bup BK471.out), (bup BK472.out), (bup BK473.out), (hset HB.out)⟩)
        ·skip
         rintro ⟨v482, v485, v488⟩ w73 ⟨hS_, h0_, h1_, h2_, h3_, h4_, h5_, h6_, h7_, h8_, h9_, h10_⟩
         have n0_ : Aside0 (Kd.R (Kd.int .u8) 5 w73 w.heap.size (fun k_ => some k_ ≠ (v482 : Value).ownBlock ∧ some k_ ≠ (v485 : Value).ownBlock ∧ some k_ ≠ (v488 : Value).ownBlock ∧ some k_ ≠ (.slice Ao13 t456.length co13 : Value).ownBlock ∧ some k_ ≠ (.slice Ao16 t462.length co16 : Value).ownBlock ∧ some k_ ≠ (.slice Ao18 t468.length co18 : Value).ownBlock) v479 t478) := ⟨h0_⟩
         have n1_ : Aside0 (Kd.R (Kd.int .u8) 5 w73 w.heap.size (fun k_ => some k_ ≠ (v479 : Value).ownBlock ∧ some k_ ≠ (v485 : Value).ownBlock ∧ some k_ ≠ (v488 : Value).ownBlock ∧ some k_ ≠ (.slice Ao13 t456.length co13 : Value).ownBlock ∧ some k_ ≠ (.slice Ao16 t462.length co16 : Value).ownBlock ∧ some k_ ≠ (.slice Ao18 t468.length co18 : Value).ownBlock) v482 t481) := ⟨h1_⟩
         have n2_ : Aside0 (Kd.R (Kd.int .u8) 5 w73 w.heap.size (fun k_ => some k_ ≠ (v479 : Value).ownBlock ∧ some k_ ≠ (v482 : Value).ownBlock ∧ some k_ ≠ (v488 : Value).ownBlock ∧ some k_ ≠ (.slice Ao13 t456.length co13 : Value).ownBlock ∧ some k_ ≠ (.slice Ao16 t462.length co16 : Value).ownBlock ∧ some k_ ≠ (.slice Ao18 t468.length co18 : Value).ownBlock) v485 t484) := ⟨h2_⟩
         have n3_ : Aside0 (Kd.R (Kd.int .u8) 5 w73 w.heap.size (fun k_ => some k_ ≠ (v479 : Value).ownBlock ∧ some k_ ≠ (v482 : Value).ownBlock ∧ some k_ ≠ (v485 : Value).ownBlock ∧ some k_ ≠ (.slice Ao13 t456.length co13 : Value).ownBlock ∧ some k_ ≠ (.slice Ao16 t462.length co16 : Value).ownBlock ∧ some k_ ≠ (.slice Ao18 t468.length co18 : Value).ownBlock) v488 t487) := ⟨h3_⟩
         have n4_ : Aside0 (Kd.R (Kd.int .u8) 5 w73 w.heap.size (fun k_ => some k_ ≠ (v479 : Value).ownBlock ∧ some k_ ≠ (v482 : Value).ownBlock ∧ some k_ ≠ (v485 : Value).ownBlock ∧ some k_ ≠ (v488 : Value).ownBlock ∧ some k_ ≠ (.slice Ao16 t462.length co16 : Value).ownBlock ∧ some k_ ≠ (.slice Ao18 t468.length co18 : Value).ownBlock) (.slice Ao13 t456.length co13) t456) := ⟨h4_⟩
         have n5_ : Aside0 (Kd.R (Kd.int .u8) 5 w73 w.heap.size (fun k_ => some k_ ≠ (v479 : Value).ownBlock ∧ some k_ ≠ (v482 : Value).ownBlock ∧ some k_ ≠ (v485 : Value).ownBlock ∧ some k_ ≠ (v488 : Value).ownBlock ∧ some k_ ≠ (.slice Ao13 t456.length co13 : Value).ownBlock ∧ some k_ ≠ (.slice Ao18 t468.length co18 : Value).ownBlock) (.slice Ao16 t462.length co16) t462) := ⟨h5_⟩
         have n6_ : Aside0 (Kd.R (Kd.int .u8) 5 w73 w.heap.size (fun k_ => some k_ ≠ (v479 : Value).ownBlock ∧ some k_ ≠ (v482 : Value).ownBlock ∧ some k_ ≠ (v485 : Value).ownBlock ∧ some k_ ≠ (v488 : Value).ownBlock ∧ some k_ ≠ (.slice Ao13 t456.length co13 : Value).ownBlock ∧ some k_ ≠ (.slice Ao16 t462.length co16 : Value).ownBlock) (.slice Ao18 t468.length co18) t468) := ⟨h6_⟩
         have n7_ : Aside0 (w73.heap[gb471]? = some (.cells #[.int .i64 t453, .int .i64 t454, .float .f64 b455, .slice Ao13 t456.length co13] 28 (0, 0))) := ⟨h7_⟩
         have n8_ : Aside0 (w73.heap[gb472]? = some (.cells #[.int .i64 t459, .int .i64 t460, .float .f64 b461, .slice Ao16 t462.length co16] 28 (0, 0))) := ⟨h8_⟩
         have n9_ : Aside0 (w73.heap[gb473]? = some (.cells #[.int .i64 t465, .int .i64 t466, .float .f64 b467, .slice Ao18 t468.length co18] 28 (0, 0))) := ⟨h9_⟩
         have n10_ : Aside0 (Below w.heap.size w w73) := ⟨h10_⟩
         clear HO_472003
         clear HO_473003
         clear HO_474003
         clear BK471
         clear BK472
         clear BK473
         clear HB
         clear h0_ h1_ h2_ h3_ h4_ h5_ h6_ h7_ h8_ h9_ h10_
         have HO480 := n0_
         have HO483 := n1_
         have HO486 := n2_
         have HO489 := n3_
         have HO_472003 := n4_
         have HO_473003 := n5_
         have HO_474003 := n6_
         have BK471 := n7_
         have BK472 := n8_
         have BK473 := n9_
         have HB := n10_
         clear n0_ n1_ n2_ n3_ n4_ n5_ n6_ n7_ n8_ n9_ n10_
         have hHeld : w73.cell? ⟨gb471, 0, none⟩ = some (.int .i64 t453) ∧ w73.cell? ⟨gb471, 1, none⟩ = some (.int .i64 t454) ∧ w73.cell? ⟨gb471, 2, none⟩ = some (.float .f64 b455) ∧ w73.cell? ⟨gb471, 3, none⟩ = some (.slice Ao13 t456.length co13) ∧ w73.cell? ⟨gb473, 0, none⟩ = some (.int .i64 t465) ∧ w73.cell? ⟨gb473, 1, none⟩ = some (.int .i64 t466) ∧ w73.cell? ⟨gb473, 2, none⟩ = some (.float .f64 b467) ∧ w73.cell? ⟨gb473, 3, none⟩ = some (.slice Ao18 t468.length co18) ∧ w73.cell? ⟨gb472, 0, none⟩ = some (.int .i64 t459) ∧ w73.cell? ⟨gb472, 1, none⟩ = some (.int .i64 t460) ∧ w73.cell? ⟨gb472, 2, none⟩ = some (.float .f64 b461) ∧ w73.cell? ⟨gb472, 3, none⟩ = some (.slice Ao16 t462.length co16) := hS_
         refine norm_ (a' := ?_) ?_ ?_
         rotate_left
         ·simp only [putAll, Act.put, List.setIfInBounds_toArray, List.set_cons_zero, List.set_cons_succ]
          rfl
         refine one_ (i := 13) (N := some 46) #[true, true, true, true, true, true, true, true, true, true, true, true, true, true, false, false, false] rfl rfl (one_of HT_.out (by kernel_rfl)) (by decide) (fun K hK => ?_)
         have hcv74 := own_string (P := Try.prog) Try.underlying23 Try.underlying5 Try.underlying9 (Kd.own_of_R HO489.out)
         refine value_ (w1 := ?_) (v := ?_) (by rfl) rfl ?_ ?_
         rotate_left 2
         ·go_simp
          constructor
          ·rfl
          ·rfl
         clear hcv74
         refine hK.out _ _ ⟨(blk_cell BK471.out 0).trans rfl, (blk_cell BK471.out 1).trans rfl, (blk_cell BK471.out 2).trans rfl, (blk_cell BK471.out 3).trans rfl, (blk_cell BK473.out 0).trans rfl, (blk_cell BK473.out 1).trans rfl, (blk_cell BK473.out 2).trans rfl, (blk_cell BK473.out 3).trans rfl, (blk_cell BK472.out 0).trans rfl, (blk_cell BK472.out 1).trans rfl, (blk_cell BK472.out 2).trans rfl, (blk_cell BK472.out 3).trans rfl⟩ (fun hHeld => ?_)
         clear hK K
         refine norm_ (a' := ?_) ?_ ?_
         rotate_left
         ·show Act.put _ (some 46) _ = _
          simp only [Act.put, List.setIfInBounds_toArray, List.set_cons_zero, List.set_cons_succ, i64_w, i32_w]
          rfl
         exact norm_ (by first | (simp only [putAll, Act.put, List.setIfInBounds_toArray, List.set_cons_zero, List.set_cons_succ]; done) | (simp only [putAll, Act.put, List.setIfInBounds_toArray, List.set_cons_zero, List.set_cons_succ]; rfl)) (hJ2_4_5_9_10_12_13 (v482, v485, v488) _ ⟨hHeld, (Kd.rup HO480.out), (Kd.rup HO483.out), (Kd.rup HO486.out), (Kd.rup HO489.out), (Kd.rup HO_472003.out), (Kd.rup HO_473003.out), (Kd.rup HO_474003.out), (bup BK471.out), (bup BK472.out), (bup BK473.out), (hset HB.out)⟩)
       rintro ⟨v482, v485, v488⟩ w74 ⟨hS_, h0_, h1_, h2_, h3_, h4_, h5_, h6_, h7_, h8_, h9_, h10_⟩
       have n0_ : Aside0 (Kd.R (Kd.int .u8) 5 w74 w.heap.size (fun k_ => some k_ ≠ (v482 : Value).ownBlock ∧ some k_ ≠ (v485 : Value).ownBlock ∧ some k_ ≠ (v488 : Value).ownBlock ∧ some k_ ≠ (.slice Ao13 t456.length co13 : Value).ownBlock ∧ some k_ ≠ (.slice Ao16 t462.length co16 : Value).ownBlock ∧ some k_ ≠ (.slice Ao18 t468.length co18 : Value).ownBlock) v479 t478) := ⟨h0_⟩
       have n1_ : Aside0 (Kd.R (Kd.int .u8) 5 w74 w.heap.size (fun k_ => some k_ ≠ (v479 : Value).ownBlock ∧ some k_ ≠ (v485 : Value).ownBlock ∧ some k_ ≠ (v488 : Value).ownBlock ∧ some k_ ≠ (.slice Ao13 t456.length co13 : Value).ownBlock ∧ some k_ ≠ (.slice Ao16 t462.length co16 : Value).ownBlock ∧ some k_ ≠ (.slice Ao18 t468.length co18 : Value).ownBlock) v482 t481) := ⟨h1_⟩
       have n2_ : Aside0 (Kd.R (Kd.int .u8) 5 w74 w.heap.size (fun k_ => some k_ ≠ (v479 : Value).ownBlock ∧ some k_ ≠ (v482 : Value).ownBlock ∧ some k_ ≠ (v488 : Value).ownBlock ∧ some k_ ≠ (.slice Ao13 t456.length co13 : Value).ownBlock ∧ some k_ ≠ (.slice Ao16 t462.length co16 : Value).ownBlock ∧ some k_ ≠ (.slice Ao18 t468.length co18 : Value).ownBlock) v485 t484) := ⟨h2_⟩
       have n3_ : Aside0 (Kd.R (Kd.int .u8) 5 w74 w.heap.size (fun k_ => some k_ ≠ (v479 : Value).ownBlock ∧ some k_ ≠ (v482 : Value).ownBlock ∧ some k_ ≠ (v485 : Value).ownBlock ∧ some k_ ≠ (.slice Ao13 t456.length co13 : Value).ownBlock ∧ some k_ ≠ (.slice Ao16 t462.length co16 : Value).ownBlock ∧ some k_ ≠ (.slice Ao18 t468.length co18 : Value).ownBlock) v488 t487) := ⟨h3_⟩
       have n4_ : Aside0 (Kd.R (Kd.int .u8) 5 w74 w.heap.size (fun k_ => some k_ ≠ (v479 : Value).ownBlock ∧ some k_ ≠ (v482 : Value).ownBlock ∧ some k_ ≠ (v485 : Value).ownBlock ∧ some k_ ≠ (v488 : Value).ownBlock ∧ some k_ ≠ (.slice Ao16 t462.length co16 : Value).ownBlock ∧ some k_ ≠ (.slice Ao18 t468.length co18 : Value).ownBlock) (.slice Ao13 t456.length co13) t456) := ⟨h4_⟩
       have n5_ : Aside0 (Kd.R (Kd.int .u8) 5 w74 w.heap.size (fun k_ => some k_ ≠ (v479 : Value).ownBlock ∧ some k_ ≠ (v482 : Value).ownBlock ∧ some k_ ≠ (v485 : Value).ownBlock ∧ some k_ ≠ (v488 : Value).ownBlock ∧ some k_ ≠ (.slice Ao13 t456.length co13 : Value).ownBlock ∧ some k_ ≠ (.slice Ao18 t468.length co18 : Value).ownBlock) (.slice Ao16 t462.length co16) t462) := ⟨h5_⟩
       have n6_ : Aside0 (Kd.R (Kd.int .u8) 5 w74 w.heap.size (fun k_ => some k_ ≠ (v479 : Value).ownBlock ∧ some k_ ≠ (v482 : Value).ownBlock ∧ some k_ ≠ (v485 : Value).ownBlock ∧ some k_ ≠ (v488 : Value).ownBlock ∧ some k_ ≠ (.slice Ao13 t456.length co13 : Value).ownBlock ∧ some k_ ≠ (.slice Ao16 t462.length co16 : Value).ownBlock) (.slice Ao18 t468.length co18) t468) := ⟨h6_⟩
       have n7_ : Aside0 (w74.heap[gb471]? = some (.cells #[.int .i64 t453, .int .i64 t454, .float .f64 b455, .slice Ao13 t456.length co13] 28 (0, 0))) := ⟨h7_⟩
       have n8_ : Aside0 (w74.heap[gb472]? = some (.cells #[.int .i64 t459, .int .i64 t460, .float .f64 b461, .slice Ao16 t462.length co16] 28 (0, 0))) := ⟨h8_⟩
       have n9_ : Aside0 (w74.heap[gb473]? = some (.cells #[.int .i64 t465, .int .i64 t466, .float .f64 b467, .slice Ao18 t468.length co18] 28 (0, 0))) := ⟨h9_⟩
       have n10_ : Aside0 (Below w.heap.size w w74) := ⟨h10_⟩
       clear HO_472003
       clear HO_473003
       clear HO_474003
       clear BK471
       clear BK472
       clear BK473
       clear HB
       clear h0_ h1_ h2_ h3_ h4_ h5_ h6_ h7_ h8_ h9_ h10_
       have HO480 := n0_
       have HO483 := n1_
       have HO486 := n2_
       have HO489 := n3_
       have HO_472003 := n4_
       have HO_473003 := n5_
       have HO_474003 := n6_
       have BK471 := n7_
       have BK472 := n8_
       have BK473 := n9_
       have HB := n10_
       clear n0_ n1_ n2_ n3_ n4_ n5_ n6_ n7_ n8_ n9_ n10_
       have hHeld : w74.cell? ⟨gb471, 0, none⟩ = some (.int .i64 t453) ∧ w74.cell? ⟨gb471, 1, none⟩ = some (.int .i64 t454) ∧ w74.cell? ⟨gb471, 2, none⟩ = some (.float .f64 b455) ∧ w74.cell? ⟨gb471, 3, none⟩ = some (.slice Ao13 t456.length co13) ∧ w74.cell? ⟨gb473, 0, none⟩ = some (.int .i64 t465) ∧ w74.cell? ⟨gb473, 1, none⟩ = some (.int .i64 t466) ∧ w74.cell? ⟨gb473, 2, none⟩ = some (.float .f64 b467) ∧ w74.cell? ⟨gb473, 3, none⟩ = some (.slice Ao18 t468.length co18) ∧ w74.cell? ⟨gb472, 0, none⟩ = some (.int .i64 t459) ∧ w74.cell? ⟨gb472, 1, none⟩ = some (.int .i64 t460) ∧ w74.cell? ⟨gb472, 2, none⟩ = some (.float .f64 b461) ∧ w74.cell? ⟨gb472, 3, none⟩ = some (.slice Ao16 t462.length co16) := hS_
       refine norm_ (a' := ?_) ?_ ?_
       rotate_left
       ·simp only [putAll, Act.put, List.setIfInBounds_toArray, List.set_cons_zero, List.set_cons_succ]
        rfl
       refine pure_ (i := 14) (N := some 47) (v := ?_) (a' := ?_) #[true, true, true, true, true, true, true, true, true, true, true, true, true, true, true, false, false] rfl rfl (any_of HT_.out (by kernel_rfl)) (fun _ _ _ h => h) (Or.inl ⟨by rfl, ?_⟩) ?_ ?_
       rotate_left
       ·intro w'
        go_simp
        with_reducible rfl
       rotate_left
       ·simp only [Act.put, List.setIfInBounds_toArray, List.set_cons_zero, List.set_cons_succ, i64_w, i32_w]
        rfl
       refine pure_ (i := 15) (N := some 48) (v := ?_) (a' := ?_) #[true, true, true, true, true, true, true, true, true, true, true, true, true, true, true, true, false] rfl rfl (any_of HT_.out (by kernel_rfl)) (fun _ _ _ h => h) (Or.inl ⟨by rfl, ?_⟩) ?_ ?_
       rotate_left
       ·intro w'
        go_simp
        with_reducible rfl
       rotate_left
       ·simp only [Act.put, List.setIfInBounds_toArray, List.set_cons_zero, List.set_cons_succ, i64_w, i32_w]
        rfl
       refine pure_ (i := 16) (N := some 6) (v := ?_) (a' := ?_) #[true, true, true, true, true, true, true, true, true, true, true, true, true, true, true, true, true] rfl rfl (any_of HT_.out (by kernel_rfl)) (fun _ _ _ h => h) (Or.inl ⟨by rfl, ?_⟩) ?_ ?_
       rotate_left
       ·intro w'
        go_simp
        with_reducible rfl
       rotate_left
       ·simp only [Act.put, List.setIfInBounds_toArray, List.set_cons_zero, List.set_cons_succ, i64_w, i32_w]
        rfl
       refine done_ (done_of HT_.out (by kernel_rfl)) ?_
       try go_wp2
       go_meet
       case rel => exact ⟨_, (!(Op.bytesLess ((strOfNums t487).toList) ((strOfNums t484).toList))), (by first | rfl | (simp; done) | (simp [*]; done) | (exfalso; simp_all; done)), H', ⟨by have := HJ4.out; first | omega | exact Nat.le_refl _⟩, ⟨by exact Kd.rup (Kd.R_mono HO_472003.out (fun _ hk => ⟨hk.2.2.2.2.1, hk.2.2.2.2.2⟩))⟩, ⟨by exact Kd.rup (Kd.R_mono HO_473003.out (fun _ hk => ⟨hk.2.2.2.2.1, hk.2.2.2.2.2⟩))⟩, ⟨by exact Kd.rup (Kd.R_mono HO_474003.out (fun _ hk => ⟨hk.2.2.2.2.1, hk.2.2.2.2.2⟩))⟩, ⟨by exact bup BK471.out⟩, ⟨by exact bup BK472.out⟩, ⟨by exact bup BK473.out⟩, ⟨hset HB.out⟩⟩
     case rest =>
      clear HC53
      try clear c2
      try clear p2
      try clear hcv7
      try clear c21
      try clear hcv70
      try clear hcv72
      try clear hcv73
      try clear hcv74
      obtain ⟨kq, x6_52, rfl, HA, HJ52, HO_472003, HO_473003, HO_474003, BK471, BK472, BK473, HB⟩ := hcut
      cases kq with
      | zero => exact absurd HA.out (by simp [laws_FnSpans.j1])
      | succ kj52 =>
       have H := HA.out
       clear HA
       simp only [laws_FnSpans.j1] at H
       replace H := Option.bind_eq_some_iff.mp H
       obtain ⟨t490, A750, H⟩ := H
       (try dsimp only at H)
       have A75 := Aside0.mk A750
       clear A750
       by_cases c76 : (t490 == x6_52) = true
       ·rw [if_pos c76] at H
        have c76b0 : (t490 == x6_52) = true := c76
        (try (have c76b1 : decide (t490 = x6_52) = true := by simpa using c76))
        (try (have c76b2 : (t490 == x6_52) = true := by simpa using c76))
        clear c76
        replace H := Option.bind_eq_some_iff.mp H
        obtain ⟨t491, A770, H⟩ := H
        (try dsimp only at H)
        have A77 := Aside0.mk A770
        clear A770
        by_cases c78 : t491 = true
        ·subst c78
         rw [if_pos rfl] at H
         (try dsimp only at H)
         replace H := Option.bind_eq_some_iff.mp H
         obtain ⟨t492, A790, H⟩ := H
         (try dsimp only at H)
         have A79 := Aside0.mk A790
         clear A790
         replace H := Option.bind_eq_some_iff.mp H
         obtain ⟨t493, A800, H⟩ := H
         (try dsimp only at H)
         have A80 := Aside0.mk A800
         clear A800
         obtain rfl := Option.some.inj H
         try go_wp2
         have n0_ := Aside0.mk (Kd.R_drew HO_472003.out)
         have n1_ := Aside0.mk (Kd.R_drew HO_473003.out)
         have n2_ := Aside0.mk (Kd.R_drew HO_474003.out)
         have n3_ := Aside0.mk (blk_drew BK471.out)
         have n4_ := Aside0.mk (blk_drew BK472.out)
         have n5_ := Aside0.mk (blk_drew BK473.out)
         have n6_ := Aside0.mk (below_drew1 HB.out)
         clear HO_472003
         clear HO_473003
         clear HO_474003
         clear BK471
         clear BK472
         clear BK473
         clear HB
         have HO_472003 := n0_
         have HO_473003 := n1_
         have HO_474003 := n2_
         have BK471 := n3_
         have BK472 := n4_
         have BK473 := n5_
         have HB := n6_
         clear n0_ n1_ n2_ n3_ n4_ n5_ n6_
         refine start_ (n := 23) (S := fun w' => w'.cell? ⟨gb471, 0, none⟩ = some (.int .i64 t453) ∧ w'.cell? ⟨gb471, 1, none⟩ = some (.int .i64 t454) ∧ w'.cell? ⟨gb471, 2, none⟩ = some (.float .f64 b455) ∧ w'.cell? ⟨gb471, 3, none⟩ = some (.slice Ao13 t456.length co13) ∧ w'.cell? ⟨gb472, 0, none⟩ = some (.int .i64 t459) ∧ w'.cell? ⟨gb472, 1, none⟩ = some (.int .i64 t460) ∧ w'.cell? ⟨gb472, 2, none⟩ = some (.float .f64 b461) ∧ w'.cell? ⟨gb472, 3, none⟩ = some (.slice Ao16 t462.length co16) ∧ w'.cell? ⟨gb473, 0, none⟩ = some (.int .i64 t465) ∧ w'.cell? ⟨gb473, 1, none⟩ = some (.int .i64 t466) ∧ w'.cell? ⟨gb473, 2, none⟩ = some (.float .f64 b467) ∧ w'.cell? ⟨gb473, 3, none⟩ = some (.slice Ao18 t468.length co18)) (ds := []) #[false, false, false, false, false, false, false, false, false, false, false, false, false, false, false, false, false, false, false, false, false, false, false] (by kernel_rfl) rfl rfl ⟨(blk_cell BK471.out 0).trans rfl, (blk_cell BK471.out 1).trans rfl, (blk_cell BK471.out 2).trans rfl, (blk_cell BK471.out 3).trans rfl, (blk_cell BK472.out 0).trans rfl, (blk_cell BK472.out 1).trans rfl, (blk_cell BK472.out 2).trans rfl, (blk_cell BK472.out 3).trans rfl, (blk_cell BK473.out 0).trans rfl, (blk_cell BK473.out 1).trans rfl, (blk_cell BK473.out 2).trans rfl, (blk_cell BK473.out 3).trans rfl⟩ (fun hHeld => ?_); refine with_tabW laws_FnSpans.tab7 laws_FnSpans.bits7 (fun HT_ HW_ => ?_)
         generalize wc.drew = w81 at HO_472003 HO_473003 HO_474003 BK471 BK472 BK473 HB hHeld ⊢
         refine pure_ (i := 4) (N := some 53) (v := ?_) (a' := ?_) #[false, false, false, false, true, false, false, false, false, false, false, false, false, false, false, false, false, false, false, false, false, false, false] rfl rfl (any_of HT_.out (by kernel_rfl)) (fun _ _ _ h => h) (Or.inl ⟨by rfl, ?_⟩) ?_ ?_
         rotate_left
         ·intro w'
          go_simp
          with_reducible rfl
         rotate_left
         ·simp only [Act.put, List.setIfInBounds_toArray, List.set_cons_zero, List.set_cons_succ, i64_w, i32_w]
          rfl
         refine take_ (i := 0) (N := some 49) (v := ?_) (a' := ?_) #[true, false, false, false, true, false, false, false, false, false, false, false, false, false, false, false, false, false, false, false, false, false, false] rfl rfl (take_ofW HT_.out HW_.out (by kernel_rfl)) (fun _ _ _ h => h) (Or.inl ⟨by rfl, ?_⟩) hHeld ?_ ?_
         rotate_left
         ·rintro w' ⟨s0, s1, s2, s3, s4, s5, s6, s7, s8, s9, s10, s11⟩
          go_simp
          with_reducible rfl
         rotate_left
         ·simp only [Act.put, List.setIfInBounds_toArray, List.set_cons_zero, List.set_cons_succ, i64_w, i32_w]
          rfl
         refine take_ (i := 1) (N := some 50) (v := ?_) (a' := ?_) #[true, true, false, false, true, false, false, false, false, false, false, false, false, false, false, false, false, false, false, false, false, false, false] rfl rfl (take_ofW HT_.out HW_.out (by kernel_rfl)) (fun _ _ _ h => h) (Or.inl ⟨by rfl, ?_⟩) hHeld ?_ ?_
         rotate_left
         ·rintro w' ⟨s0, s1, s2, s3, s4, s5, s6, s7, s8, s9, s10, s11⟩
          go_simp
          with_reducible rfl
         rotate_left
         ·simp only [Act.put, List.setIfInBounds_toArray, List.set_cons_zero, List.set_cons_succ, i64_w, i32_w]
          rfl
         refine take_ (i := 2) (N := some 51) (v := ?_) (a' := ?_) #[true, true, true, false, true, false, false, false, false, false, false, false, false, false, false, false, false, false, false, false, false, false, false] rfl rfl (take_ofW HT_.out HW_.out (by kernel_rfl)) (fun _ _ _ h => h) (Or.inl ⟨by rfl, ?_⟩) hHeld ?_ ?_
         rotate_left
         ·rintro w' ⟨s0, s1, s2, s3, s4, s5, s6, s7, s8, s9, s10, s11⟩
          go_simp
          with_reducible rfl
         rotate_left
         ·simp only [Act.put, List.setIfInBounds_toArray, List.set_cons_zero, List.set_cons_succ, i64_w, i32_w]
          rfl
         refine one_ (i := 3) (N := some 52) #[true, true, true, true, true, false, false, false, false, false, false, false, false, false, false, false, false, false, false, false, false, false, false] rfl rfl (one_of HT_.out (by kernel_rfl)) (by decide) (fun K hK => ?_)
         refine goes_ Try.func14 (by kernel_rfl) rfl #[.agg #[.int .i64 t453, .int .i64 t454, .float .f64 b455, .slice Ao13 t456.length co13], .agg #[.int .i64 t459, .int .i64 t460, .float .f64 b461, .slice Ao16 t462.length co16], .agg #[.int .i64 t465, .int .i64 t466, .float .f64 b467, .slice Ao18 t468.length co18]] (by rfl) rfl rfl (by (try simp only [List.map_toArray, List.map_cons, List.map_nil]); first | done | rfl) ?_
         with_reducible refine (impl_InSpan.calls kj52 t453 t454 b455 _ _ t456 t459 t460 b461 _ _ t462 t465 t466 b467 _ _ t468 t490 _ ?side1 ?side2 ?side3 ?side4 ?side5 ?side6 ((impl_InSpan.inv2 _ _ _ _ _ _ _ _ _ _ _ _ _).symm.trans ((impl_InSpan.inv1 _ _ _ _ _ _ _ _ _ _ _ _ _).symm.trans ((impl_InSpan.inv0 _ _ _ _ _ _ _ _ _ _ _ _ _).symm.trans A75.out)))).mono ?_
         (case side1 => repeat (first | exact (Kd.R_reads' HO_472003.out).2.2 | (with_reducible refine Kd.C_alloc ?_ _) | (with_reducible refine Kd.C_drewN ?_ _) | (with_reducible refine Kd.C_drew ?_)))
         (case side2 => exact (Kd.R_reads' HO_472003.out).2.1)
         (case side3 => repeat (first | exact (Kd.R_reads' HO_473003.out).2.2 | (with_reducible refine Kd.C_alloc ?_ _) | (with_reducible refine Kd.C_drewN ?_ _) | (with_reducible refine Kd.C_drew ?_)))
         (case side4 => exact (Kd.R_reads' HO_473003.out).2.1)
         (case side5 => repeat (first | exact (Kd.R_reads' HO_474003.out).2.2 | (with_reducible refine Kd.C_alloc ?_ _) | (with_reducible refine Kd.C_drewN ?_ _) | (with_reducible refine Kd.C_drew ?_)))
         (case side6 => exact (Kd.R_reads' HO_474003.out).2.1)
         rintro e w82 ⟨rfl, hb⟩
         refine ⟨_, rfl, ?_⟩
         have n0_ := Aside0.mk (Kd.R_below (Kd.rup HO_472003.out) hb)
         have n1_ := Aside0.mk (Kd.R_below (Kd.rup HO_473003.out) hb)
         have n2_ := Aside0.mk (Kd.R_below (Kd.rup HO_474003.out) hb)
         have n3_ := Aside0.mk (blk_below (bup BK471.out) hb)
         have n4_ := Aside0.mk (blk_below (bup BK472.out) hb)
         have n5_ := Aside0.mk (blk_below (bup BK473.out) hb)
         have n6_ := Aside0.mk (below_step (hset HB.out) hb)
         clear HO_472003
         clear HO_473003
         clear HO_474003
         clear BK471
         clear BK472
         clear BK473
         clear HB
         have HO_472003 := n0_
         have HO_473003 := n1_
         have HO_474003 := n2_
         have BK471 := n3_
         have BK472 := n4_
         have BK473 := n5_
         have HB := n6_
         clear n0_ n1_ n2_ n3_ n4_ n5_ n6_
         (try clear hb)
         (try clear hb2)
         (try clear hk)
         (try clear hi)
         refine hK.out _ _ ⟨(blk_cell BK471.out 0).trans rfl, (blk_cell BK471.out 1).trans rfl, (blk_cell BK471.out 2).trans rfl, (blk_cell BK471.out 3).trans rfl, (blk_cell BK472.out 0).trans rfl, (blk_cell BK472.out 1).trans rfl, (blk_cell BK472.out 2).trans rfl, (blk_cell BK472.out 3).trans rfl, (blk_cell BK473.out 0).trans rfl, (blk_cell BK473.out 1).trans rfl, (blk_cell BK473.out 2).trans rfl, (blk_cell BK473.out 3).trans rfl⟩ (fun hHeld => ?_)
         clear hK K
         refine norm_ (a' := ?_) ?_ ?_
         rotate_left
         ·show Act.put _ (some 52) _ = _
          simp only [Act.put, List.setIfInBounds_toArray, List.set_cons_zero, List.set_cons_succ, i64_w, i32_w]
          rfl
         refine pure_ (i := 5) (N := some 54) (v := ?_) (a' := ?_) #[true, true, true, true, true, true, false, false, false, false, false, false, false, false, false, false, false, false, false, false, false, false, false] rfl rfl (any_of HT_.out (by kernel_rfl)) (fun _ _ _ h => h) (Or.inl ⟨by rfl, ?_⟩) ?_ ?_
         rotate_left
         ·intro w'
          go_simp
          with_reducible rfl
         rotate_left
         ·simp only [Act.put, List.setIfInBounds_toArray, List.set_cons_zero, List.set_cons_succ, i64_w, i32_w]
          rfl
         refine pure_ (i := 6) (N := some 55) (v := ?_) (a' := ?_) #[true, true, true, true, true, true, true, false, false, false, false, false, false, false, false, false, false, false, false, false, false, false, false] rfl rfl (any_of HT_.out (by kernel_rfl)) (fun _ _ _ h => h) (Or.inl ⟨by rfl, ?_⟩) ?_ ?_
         rotate_left
         ·intro w'
          go_simp
          with_reducible rfl
         rotate_left
         ·simp only [Act.put, List.setIfInBounds_toArray, List.set_cons_zero, List.set_cons_succ, i64_w, i32_w]
          rfl
         refine take_ (i := 7) (N := some 56) (v := ?_) (a' := ?_) #[true, true, true, true, true, true, true, true, false, false, false, false, false, false, false, false, false, false, false, false, false, false, false] rfl rfl (take_ofW HT_.out HW_.out (by kernel_rfl)) (fun _ _ _ h => h) (Or.inl ⟨by rfl, ?_⟩) hHeld ?_ ?_
         rotate_left
         ·rintro w' ⟨s0, s1, s2, s3, s4, s5, s6, s7, s8, s9, s10, s11⟩
          go_simp
          with_reducible rfl
         rotate_left
         ·simp only [Act.put, List.setIfInBounds_toArray, List.set_cons_zero, List.set_cons_succ, i64_w, i32_w]
          rfl
         refine take_ (i := 8) (N := some 57) (v := ?_) (a' := ?_) #[true, true, true, true, true, true, true, true, true, false, false, false, false, false, false, false, false, false, false, false, false, false, false] rfl rfl (take_ofW HT_.out HW_.out (by kernel_rfl)) (fun _ _ _ h => h) (Or.inl ⟨by rfl, ?_⟩) hHeld ?_ ?_
         rotate_left
         ·rintro w' ⟨s0, s1, s2, s3, s4, s5, s6, s7, s8, s9, s10, s11⟩
          go_simp
          with_reducible rfl
         rotate_left
         ·simp only [Act.put, List.setIfInBounds_toArray, List.set_cons_zero, List.set_cons_succ, i64_w, i32_w]
          rfl
         refine take_ (i := 9) (N := some 58) (v := ?_) (a' := ?_) #[true, true, true, true, true, true, true, true, true, true, false, false, false, false, false, false, false, false, false, false, false, false, false] rfl rfl (take_ofW HT_.out HW_.out (by kernel_rfl)) (fun _ _ _ h => h) (Or.inl ⟨by rfl, ?_⟩) hHeld ?_ ?_
         rotate_left
         ·rintro w' ⟨s0, s1, s2, s3, s4, s5, s6, s7, s8, s9, s10, s11⟩
          go_simp
          with_reducible rfl
         rotate_left
         ·simp only [Act.put, List.setIfInBounds_toArray, List.set_cons_zero, List.set_cons_succ, i64_w, i32_w]
          rfl
         refine one_ (i := 10) (N := some 59) #[true, true, true, true, true, true, true, true, true, true, true, false, false, false, false, false, false, false, false, false, false, false, false] rfl rfl (one_of HT_.out (by kernel_rfl)) (by decide) (fun K hK => ?_)
         refine goes_ Try.func14 (by kernel_rfl) rfl #[.agg #[.int .i64 t465, .int .i64 t466, .float .f64 b467, .slice Ao18 t468.length co18], .agg #[.int .i64 t465, .int .i64 t466, .float .f64 b467, .slice Ao18 t468.length co18], .agg #[.int .i64 t465, .int .i64 t466, .float .f64 b467, .slice Ao18 t468.length co18]] (by rfl) rfl rfl (by (try simp only [List.map_toArray, List.map_cons, List.map_nil]); first | done | rfl) ?_
         with_reducible refine (impl_InSpan.calls kj52 t465 t466 b467 _ _ t468 t465 t466 b467 _ _ t468 t465 t466 b467 _ _ t468 true _ ?side1 ?side2 ?side3 ?side4 ?side5 ?side6 ((impl_InSpan.inv2 _ _ _ _ _ _ _ _ _ _ _ _ _).symm.trans ((impl_InSpan.inv1 _ _ _ _ _ _ _ _ _ _ _ _ _).symm.trans ((impl_InSpan.inv0 _ _ _ _ _ _ _ _ _ _ _ _ _).symm.trans A77.out)))).mono ?_
         (case side1 => repeat (first | exact (Kd.R_reads' HO_474003.out).2.2 | (with_reducible refine Kd.C_alloc ?_ _) | (with_reducible refine Kd.C_drewN ?_ _) | (with_reducible refine Kd.C_drew ?_)))
         (case side2 => exact (Kd.R_reads' HO_474003.out).2.1)
         (case side3 => repeat (first | exact (Kd.R_reads' HO_474003.out).2.2 | (with_reducible refine Kd.C_alloc ?_ _) | (with_reducible refine Kd.C_drewN ?_ _) | (with_reducible refine Kd.C_drew ?_)))
         (case side4 => exact (Kd.R_reads' HO_474003.out).2.1)
         (case side5 => repeat (first | exact (Kd.R_reads' HO_474003.out).2.2 | (with_reducible refine Kd.C_alloc ?_ _) | (with_reducible refine Kd.C_drewN ?_ _) | (with_reducible refine Kd.C_drew ?_)))
         (case side6 => exact (Kd.R_reads' HO_474003.out).2.1)
         rintro e w83 ⟨rfl, hb⟩
         refine ⟨_, rfl, ?_⟩
         have n0_ := Aside0.mk (Kd.R_below (Kd.rup HO_472003.out) hb)
         have n1_ := Aside0.mk (Kd.R_below (Kd.rup HO_473003.out) hb)
         have n2_ := Aside0.mk (Kd.R_below (Kd.rup HO_474003.out) hb)
         have n3_ := Aside0.mk (blk_below (bup BK471.out) hb)
         have n4_ := Aside0.mk (blk_below (bup BK472.out) hb)
         have n5_ := Aside0.mk (blk_below (bup BK473.out) hb)
         have n6_ := Aside0.mk (below_step (hset HB.out) hb)
         clear HO_472003
         clear HO_473003
         clear HO_474003
         clear BK471
         clear BK472
         clear BK473
         clear HB
         have HO_472003 := n0_
         have HO_473003 := n1_
         have HO_474003 := n2_
         have BK471 := n3_
         have BK472 := n4_
         have BK473 := n5_
         have HB := n6_
         clear n0_ n1_ n2_ n3_ n4_ n5_ n6_
         (try clear hb)
         (try clear hb2)
         (try clear hk)
         (try clear hi)
         refine hK.out _ _ ⟨(blk_cell BK471.out 0).trans rfl, (blk_cell BK471.out 1).trans rfl, (blk_cell BK471.out 2).trans rfl, (blk_cell BK471.out 3).trans rfl, (blk_cell BK472.out 0).trans rfl, (blk_cell BK472.out 1).trans rfl, (blk_cell BK472.out 2).trans rfl, (blk_cell BK472.out 3).trans rfl, (blk_cell BK473.out 0).trans rfl, (blk_cell BK473.out 1).trans rfl, (blk_cell BK473.out 2).trans rfl, (blk_cell BK473.out 3).trans rfl⟩ (fun hHeld => ?_)
         clear hK K
         refine norm_ (a' := ?_) ?_ ?_
         rotate_left
         ·show Act.put _ (some 59) _ = _
          simp only [Act.put, List.setIfInBounds_toArray, List.set_cons_zero, List.set_cons_succ, i64_w, i32_w]
          rfl
         refine pure_ (i := 11) (N := some 60) (v := ?_) (a' := ?_) #[true, true, true, true, true, true, true, true, true, true, true, true, false, false, false, false, false, false, false, false, false, false, false] rfl rfl (any_of HT_.out (by kernel_rfl)) (fun _ _ _ h => h) (Or.inl ⟨by rfl, ?_⟩) ?_ ?_
         rotate_left
         ·intro w'
          go_simp
          with_reducible rfl
         rotate_left
         ·simp only [Act.put, List.setIfInBounds_toArray, List.set_cons_zero, List.set_cons_succ, i64_w, i32_w]
          rfl
         refine pure_ (i := 12) (N := some 61) (v := ?_) (a' := ?_) #[true, true, true, true, true, true, true, true, true, true, true, true, true, false, false, false, false, false, false, false, false, false, false] rfl rfl (any_of HT_.out (by kernel_rfl)) (fun _ _ _ h => h) (Or.inl ⟨by rfl, ?_⟩) ?_ ?_
         rotate_left
         ·intro w'
          go_simp
          with_reducible rfl
         rotate_left
         ·simp only [Act.put, List.setIfInBounds_toArray, List.set_cons_zero, List.set_cons_succ, i64_w, i32_w]
          rfl
         refine take_ (i := 13) (N := some 62) (v := ?_) (a' := ?_) #[true, true, true, true, true, true, true, true, true, true, true, true, true, true, false, false, false, false, false, false, false, false, false] rfl rfl (take_ofW HT_.out HW_.out (by kernel_rfl)) (fun _ _ _ h => h) (Or.inl ⟨by rfl, ?_⟩) hHeld ?_ ?_
         rotate_left
         ·rintro w' ⟨s0, s1, s2, s3, s4, s5, s6, s7, s8, s9, s10, s11⟩
          go_simp
          with_reducible rfl
         rotate_left
         ·simp only [Act.put, List.setIfInBounds_toArray, List.set_cons_zero, List.set_cons_succ, i64_w, i32_w]
          rfl
         refine take_ (i := 14) (N := some 63) (v := ?_) (a' := ?_) #[true, true, true, true, true, true, true, true, true, true, true, true, true, true, true, false, false, false, false, false, false, false, false] rfl rfl (take_ofW HT_.out HW_.out (by kernel_rfl)) (fun _ _ _ h => h) (Or.inl ⟨by rfl, ?_⟩) hHeld ?_ ?_
         rotate_left
         ·rintro w' ⟨s0, s1, s2, s3, s4, s5, s6, s7, s8, s9, s10, s11⟩
          go_simp
          with_reducible rfl
         rotate_left
         ·simp only [Act.put, List.setIfInBounds_toArray, List.set_cons_zero, List.set_cons_succ, i64_w, i32_w]
          rfl
         refine take_ (i := 15) (N := some 64) (v := ?_) (a' := ?_) #[true, true, true, true, true, true, true, true, true, true, true, true, true, true, true, true, false, false, false, false, false, false, false] rfl rfl (take_ofW HT_.out HW_.out (by kernel_rfl)) (fun _ _ _ h => h) (Or.inl ⟨by rfl, ?_⟩) hHeld ?_ ?_
         rotate_left
         ·rintro w' ⟨s0, s1, s2, s3, s4, s5, s6, s7, s8, s9, s10, s11⟩
          go_simp
          with_reducible rfl
         rotate_left
         ·simp only [Act.put, List.setIfInBounds_toArray, List.set_cons_zero, List.set_cons_succ, i64_w, i32_w]
          rfl
         refine take_ (i := 17) (N := some 66) (v := ?_) (a' := ?_) #[true, true, true, true, true, true, true, true, true, true, true, true, true, true, true, true, false, true, false, false, false, false, false] rfl rfl (take_ofW HT_.out HW_.out (by kernel_rfl)) (fun _ _ _ h => h) (Or.inl ⟨by rfl, ?_⟩) hHeld ?_ ?_
         rotate_left
         ·rintro w' ⟨s0, s1, s2, s3, s4, s5, s6, s7, s8, s9, s10, s11⟩
          go_simp
          with_reducible rfl
         rotate_left
         ·simp only [Act.put, List.setIfInBounds_toArray, List.set_cons_zero, List.set_cons_succ, i64_w, i32_w]
          rfl
         refine take_ (i := 18) (N := some 67) (v := ?_) (a' := ?_) #[true, true, true, true, true, true, true, true, true, true, true, true, true, true, true, true, false, true, true, false, false, false, false] rfl rfl (take_ofW HT_.out HW_.out (by kernel_rfl)) (fun _ _ _ h => h) (Or.inl ⟨by rfl, ?_⟩) hHeld ?_ ?_
         rotate_left
         ·rintro w' ⟨s0, s1, s2, s3, s4, s5, s6, s7, s8, s9, s10, s11⟩
          go_simp
          with_reducible rfl
         rotate_left
         ·simp only [Act.put, List.setIfInBounds_toArray, List.set_cons_zero, List.set_cons_succ, i64_w, i32_w]
          rfl
         refine one_ (i := 16) (N := some 65) #[true, true, true, true, true, true, true, true, true, true, true, true, true, true, true, true, true, true, true, false, false, false, false] rfl rfl (one_of HT_.out (by kernel_rfl)) (by decide) (fun K hK => ?_)
         refine goes_ Try.func14 (by kernel_rfl) rfl #[.agg #[.int .i64 t465, .int .i64 t466, .float .f64 b467, .slice Ao18 t468.length co18], .agg #[.int .i64 t465, .int .i64 t466, .float .f64 b467, .slice Ao18 t468.length co18], .agg #[.int .i64 t459, .int .i64 t460, .float .f64 b461, .slice Ao16 t462.length co16]] (by rfl) rfl rfl (by (try simp only [List.map_toArray, List.map_cons, List.map_nil]); first | done | rfl) ?_
         with_reducible refine (impl_InSpan.calls kj52 t465 t466 b467 _ _ t468 t465 t466 b467 _ _ t468 t459 t460 b461 _ _ t462 t492 _ ?side1 ?side2 ?side3 ?side4 ?side5 ?side6 ((impl_InSpan.inv2 _ _ _ _ _ _ _ _ _ _ _ _ _).symm.trans ((impl_InSpan.inv1 _ _ _ _ _ _ _ _ _ _ _ _ _).symm.trans ((impl_InSpan.inv0 _ _ _ _ _ _ _ _ _ _ _ _ _).symm.trans A79.out)))).mono ?_
         (case side1 => repeat (first | exact (Kd.R_reads' HO_474003.out).2.2 | (with_reducible refine Kd.C_alloc ?_ _) | (with_reducible refine Kd.C_drewN ?_ _) | (with_reducible refine Kd.C_drew ?_)))
         (case side2 => exact (Kd.R_reads' HO_474003.out).2.1)
         (case side3 => repeat (first | exact (Kd.R_reads' HO_474003.out).2.2 | (with_reducible refine Kd.C_alloc ?_ _) | (with_reducible refine Kd.C_drewN ?_ _) | (with_reducible refine Kd.C_drew ?_)))
         (case side4 => exact (Kd.R_reads' HO_474003.out).2.1)
         (case side5 => repeat (first | exact (Kd.R_reads' HO_473003.out).2.2 | (with_reducible refine Kd.C_alloc ?_ _) | (with_reducible refine Kd.C_drewN ?_ _) | (with_reducible refine Kd.C_drew ?_)))
         (case side6 => exact (Kd.R_reads' HO_473003.out).2.1)
         rintro e w84 ⟨rfl, hb⟩
         refine ⟨_, rfl, ?_⟩
         have n0_ := Aside0.mk (Kd.R_below (Kd.rup HO_472003.out) hb)
         have n1_ := Aside0.mk (Kd.R_below (Kd.rup HO_473003.out) hb)
         have n2_ := Aside0.mk (Kd.R_below (Kd.rup HO_474003.out) hb)
         have n3_ := Aside0.mk (blk_below (bup BK471.out) hb)
         have n4_ := Aside0.mk (blk_below (bup BK472.out) hb)
         have n5_ := Aside0.mk (blk_below (bup BK473.out) hb)
         have n6_ := Aside0.mk (below_step (hset HB.out) hb)
         clear HO_472003
         clear HO_473003
         clear HO_474003
         clear BK471
         clear BK472
         clear BK473
         clear HB
         have HO_472003 := n0_
         have HO_473003 := n1_
         have HO_474003 := n2_
         have BK471 := n3_
         have BK472 := n4_
         have BK473 := n5_
         have HB := n6_
         clear n0_ n1_ n2_ n3_ n4_ n5_ n6_
         (try clear hb)
         (try clear hb2)
         (try clear hk)
         (try clear hi)
         refine hK.out _ _ ⟨(blk_cell BK471.out 0).trans rfl, (blk_cell BK471.out 1).trans rfl, (blk_cell BK471.out 2).trans rfl, (blk_cell BK471.out 3).trans rfl, (blk_cell BK472.out 0).trans rfl, (blk_cell BK472.out 1).trans rfl, (blk_cell BK472.out 2).trans rfl, (blk_cell BK472.out 3).trans rfl, (blk_cell BK473.out 0).trans rfl, (blk_cell BK473.out 1).trans rfl, (blk_cell BK473.out 2).trans rfl, (blk_cell BK473.out 3).trans rfl⟩ (fun hHeld => ?_)
         clear hK K
         refine norm_ (a' := ?_) ?_ ?_
         rotate_left
         ·show Act.put _ (some 65) _ = _
          simp only [Act.put, List.setIfInBounds_toArray, List.set_cons_zero, List.set_cons_succ, i64_w, i32_w]
          rfl
         refine one_ (i := 19) (N := some 68) #[true, true, true, true, true, true, true, true, true, true, true, true, true, true, true, true, true, true, true, true, false, false, false] rfl rfl (one_of HT_.out (by kernel_rfl)) (by decide) (fun K hK => ?_)
         refine goes_ Try.func26 (by kernel_rfl) rfl #[.agg #[.int .i64 t465, .int .i64 t466, .float .f64 b467, .slice Ao18 t468.length co18], .agg #[.int .i64 t459, .int .i64 t460, .float .f64 b461, .slice Ao16 t462.length co16]] (by rfl) rfl rfl (by (try simp only [List.map_toArray, List.map_cons, List.map_nil]); first | done | rfl) ?_
         with_reducible refine (laws_sameItem.calls kj52 t465 t466 b467 _ _ t468 t459 t460 b461 _ _ t462 t493 _ ?side1 ?side2 ?side3 ?side4 ((laws_sameItem.inv1 _ _ _ _ _ _ _ _ _).symm.trans ((laws_sameItem.inv0 _ _ _ _ _ _ _ _ _).symm.trans A80.out))).mono ?_
         (case side1 => repeat (first | exact (Kd.R_reads' HO_474003.out).2.2 | (with_reducible refine Kd.C_alloc ?_ _) | (with_reducible refine Kd.C_drewN ?_ _) | (with_reducible refine Kd.C_drew ?_)))
         (case side2 => exact (Kd.R_reads' HO_474003.out).2.1)
         (case side3 => repeat (first | exact (Kd.R_reads' HO_473003.out).2.2 | (with_reducible refine Kd.C_alloc ?_ _) | (with_reducible refine Kd.C_drewN ?_ _) | (with_reducible refine Kd.C_drew ?_)))
         (case side4 => exact (Kd.R_reads' HO_473003.out).2.1)
         rintro e w85 ⟨rfl, hb⟩
         refine ⟨_, rfl, ?_⟩
         have n0_ := Aside0.mk (Kd.R_below (Kd.rup HO_472003.out) hb)
         have n1_ := Aside0.mk (Kd.R_below (Kd.rup HO_473003.out) hb)
         have n2_ := Aside0.mk (Kd.R_below (Kd.rup HO_474003.out) hb)
         have n3_ := Aside0.mk (blk_below (bup BK471.out) hb)
         have n4_ := Aside0.mk (blk_below (bup BK472.out) hb)
         have n5_ := Aside0.mk (blk_below (bup BK473.out) hb)
         have n6_ := Aside0.mk (below_step (hset HB.out) hb)
         clear HO_472003
         clear HO_473003
         clear HO_474003
         clear BK471
         clear BK472
         clear BK473
         clear HB
         have HO_472003 := n0_
         have HO_473003 := n1_
         have HO_474003 := n2_
         have BK471 := n3_
         have BK472 := n4_
         have BK473 := n5_
         have HB := n6_
         clear n0_ n1_ n2_ n3_ n4_ n5_ n6_
         (try clear hb)
         (try clear hb2)
         (try clear hk)
         (try clear hi)
         refine hK.out _ _ ⟨(blk_cell BK471.out 0).trans rfl, (blk_cell BK471.out 1).trans rfl, (blk_cell BK471.out 2).trans rfl, (blk_cell BK471.out 3).trans rfl, (blk_cell BK472.out 0).trans rfl, (blk_cell BK472.out 1).trans rfl, (blk_cell BK472.out 2).trans rfl, (blk_cell BK472.out 3).trans rfl, (blk_cell BK473.out 0).trans rfl, (blk_cell BK473.out 1).trans rfl, (blk_cell BK473.out 2).trans rfl, (blk_cell BK473.out 3).trans rfl⟩ (fun hHeld => ?_)
         clear hK K
         refine norm_ (a' := ?_) ?_ ?_
         rotate_left
         ·show Act.put _ (some 68) _ = _
          simp only [Act.put, List.setIfInBounds_toArray, List.set_cons_zero, List.set_cons_succ, i64_w, i32_w]
          rfl
         refine pure_ (i := 20) (N := some 69) (v := ?_) (a' := ?_) #[true, true, true, true, true, true, true, true, true, true, true, true, true, true, true, true, true, true, true, true, true, false, false] rfl rfl (any_of HT_.out (by kernel_rfl)) (fun _ _ _ h => h) (Or.inl ⟨by rfl, ?_⟩) ?_ ?_
         rotate_left
         ·intro w'
          go_simp
          with_reducible rfl
         rotate_left
         ·simp only [Act.put, List.setIfInBounds_toArray, List.set_cons_zero, List.set_cons_succ, i64_w, i32_w]
          rfl
         refine pure_ (i := 21) (N := some 70) (v := ?_) (a' := ?_) #[true, true, true, true, true, true, true, true, true, true, true, true, true, true, true, true, true, true, true, true, true, true, false] rfl rfl (any_of HT_.out (by kernel_rfl)) (fun _ _ _ h => h) (Or.inl ⟨by rfl, ?_⟩) ?_ ?_
         rotate_left
         ·intro w'
          go_simp
          with_reducible rfl
         rotate_left
         ·simp only [Act.put, List.setIfInBounds_toArray, List.set_cons_zero, List.set_cons_succ, i64_w, i32_w]
          rfl
         refine pure_ (i := 22) (N := some 2) (v := ?_) (a' := ?_) #[true, true, true, true, true, true, true, true, true, true, true, true, true, true, true, true, true, true, true, true, true, true, true] rfl rfl (any_of HT_.out (by kernel_rfl)) (fun _ _ _ h => h) (Or.inl ⟨by rfl, ?_⟩) ?_ ?_
         rotate_left
         ·intro w'
          go_simp
          with_reducible rfl
         rotate_left
         ·simp only [Act.put, List.setIfInBounds_toArray, List.set_cons_zero, List.set_cons_succ, i64_w, i32_w]
          rfl
         refine done_ (done_of HT_.out (by kernel_rfl)) ?_
         try go_wp2
         go_ret
         exact ⟨by first | rfl | (simp [errW_none, errW_some] <;> rfl) | (simp [*, errW_none, errW_some] <;> rfl), hset HB.out⟩
        ·replace c78 := Bool.eq_false_iff.mpr c78
         subst c78
         rw [if_neg (show ¬ (false = true) by decide)] at H
         (try dsimp only at H)
         cases (Option.some.inj H).trans hT
       ·rw [if_neg c76] at H
        have c76b0 : (t490 == x6_52) = false := by simpa using c76
        (try (have c76b1 : decide (t490 = x6_52) = false := by simpa using c76))
        (try (have c76b2 : (t490 == x6_52) = false := by simpa using c76))
        (try (have c76b3 : ¬ (t490 = x6_52) := by simpa using c76))
        clear c76
        cases (Option.some.inj H).trans hT
/-- THE ONE PURE STATEMENT of laws_FnSpans: yours. -/
def laws_FnSpans.Pure : Prop := ∀ (l0 : List Int), l0.length ≤ maxLen → l0.length * 1 ≤ 140737488351232 → (∀ x ∈ l0, (Lit.int .u8 x).wf = true) → ∃ k, laws_FnSpans.f k l0 = some true
theorem laws_FnSpans.walk (P : laws_FnSpans.Pure) (a0 : Option Addr) (len0 cap0 : Nat) (z0 : List Int) (w : World) (w0 : (a0 = none ∧ len0 = 0 ∧ cap0 = 0 ∧ z0 = []) ∨ ∃ x, a0 = some x ∧ len0 ≤ cap0 ∧ cap0 ≤ maxLen ∧ z0.length = cap0 ∧ (∀ i, i < z0.length → w.cell? (x.add i) = some (.int .u8 (z0.getD i 0))) ∧ ∀ n ∈ z0, (Lit.int .u8 n).wf = true) (y0 : len0 * 1 ≤ 140737488351232) :
  Calls Try.prog 7 #[.slice a0 len0 cap0] w fun e w' => e = .returned (.bool true) ∧ Below w.heap.size w w' := by
 obtain ⟨l0, rfl, hr0, hm0, hw0, hc0⟩ := ReadsInt.ofRowC w0
 obtain ⟨k, h⟩ := P l0 hm0 y0 hw0
 refine (laws_FnSpans.calls k _ _ l0 true w (Kd.C_of_reads (d := (0 : Int)) (h1 := fun _ => rfl) hr0) hc0 h).mono ?_
 rintro e w' ⟨rfl, hd⟩
 exact ⟨rfl, hd⟩
end Go.Proofs.Ytcjeokkhpjppaaa.PFnSpans
