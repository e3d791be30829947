-- By this session's own program (wip/xprint.py), over the kit's print.
import Derived.Test.YtjjkhlphdbmdfaaPFnExactTupleBytesx0
import Derived.Test.YtjjkhlphdbmdfaaPFnExactTupleBytesx1
import Derived.Test.YtjjkhlphdbmdfaaPFnExactTupleBytesx3
import Derived.Test.YtjjkhlphdbmdfaaPFnExactTupleBytesx6
import Derived.Test.YtjjkhlphdbmdfaaPFnExactTupleBytesx7
namespace Go.Proofs.Ytjjkhlphdbmdfaa.PFnExactTupleBytes
open Go.RowKit Go.Proofs.YtjjkhlphdbmdfaaW.PrintWords Go.Proofs.YtjjkhlphdbmdfaaW.PrintLast Go.Proofs.YtjjkhlphdbmdfaaW.PrintMore
attribute [local go_sem] max2_int min2_int max_two min_two max_three min_three max_four min_four   -- for this text's walks alone
attribute [local go_sem high] fl_eql fl_neq fl_lss fl_leq fl_gtr fl_geq fl_add fl_sub fl_mul fl_quo fl_neg fl_ofInt fl_toInt fl_store ext_bits ext_from
open Go.Proofs.YtjjkhlphdbmdfaaW.PrintWords renaming below_alloc → h1, pw_below_drewN → h2, below_drew1 → h3, below_set → h4, blk_drewN → b1, blk_drew → b2, blk_alloc → b3
set_option linter.unusedVariables false
set_option linter.unusedSimpArgs false

/-! ### laws_FnExactTupleBytes: function 6 -/
def laws_FnExactTupleBytes.j0 : Nat → List Int → List Int → Bool → Int → Int → Int → Int → Nat → List Int → Int → Int → Nat → List Int → Option (Bool)
 | 0, _, _, _, _, _, _, _, _, _, _, _, _, _ => none
 | k + 1, x4, x6, x42, x315000, x315001, x315002, x315003, x315004, x315005, x315006, x315007, x315008, x315009 => if x42 = true then (some false) else ((laws_markByteS.f k x6 1).bind fun bt371 => ((laws_heldByteS.f k bt371.2 1).bind fun t373 => (if t373 < 0 then (some false) else (if t373 = bt371.1 then ((laws_toTuple.f k x315000 x315001 x315002 x315003 x315004 x315005 x315006 x315007 x315008 x315009).bind fun bt374 => ((impl_TupleBytes.f k bt374.1 bt374.2.1 bt374.2.2.1 bt374.2.2.2.1 bt374.2.2.2.2.1 bt374.2.2.2.2.2.1 bt374.2.2.2.2.2.2.1 bt374.2.2.2.2.2.2.2.1 bt374.2.2.2.2.2.2.2.2.1 bt374.2.2.2.2.2.2.2.2.2).bind fun t388 => ((laws_eqByteS.f k t388 x4).bind fun t391 => (if t391 = true then ((laws_heldByteS.f k bt371.2 1).bind fun t392 => (if t392 < 0 then (some false) else (if t392 = bt371.1 then (some true) else (some false)))) else (some false))))) else (some false)))))
def laws_FnExactTupleBytes.f (k : Nat) (a0_0 : Int) (a0_1 : Int) (a0_2 : Int) (a0_3 : Int) (a0_4 : Nat) (l0_5 : List Int) (a0_6 : Int) (a0_7 : Int) (a0_8 : Nat) (l0_9 : List Int) : Option (Bool) := (laws_szTuple.f a0_0 a0_1 a0_2 a0_3 a0_4 l0_5 a0_6 a0_7 a0_8 l0_9 1048576).bind fun t315 => (if t315 < 0 then (some true) else ((laws_toTuple.f k a0_0 a0_1 a0_2 a0_3 a0_4 l0_5 a0_6 a0_7 a0_8 l0_9).bind fun bt316 => ((spec_TupleBytes.f k bt316.1 bt316.2.1 bt316.2.2.1 bt316.2.2.2.1 bt316.2.2.2.2.1 bt316.2.2.2.2.2.1 bt316.2.2.2.2.2.2.1 bt316.2.2.2.2.2.2.2.1 bt316.2.2.2.2.2.2.2.2.1 bt316.2.2.2.2.2.2.2.2.2).bind fun t330 => ((laws_toTuple.f k a0_0 a0_1 a0_2 a0_3 a0_4 l0_5 a0_6 a0_7 a0_8 l0_9).bind fun bt333 => ((impl_TupleBytes.f k bt333.1 bt333.2.1 bt333.2.2.1 bt333.2.2.2.1 bt333.2.2.2.2.1 bt333.2.2.2.2.2.1 bt333.2.2.2.2.2.2.1 bt333.2.2.2.2.2.2.2.1 bt333.2.2.2.2.2.2.2.2.1 bt333.2.2.2.2.2.2.2.2.2).bind fun t348 => ((laws_eqByteS.f k t348 t330).bind fun t351 => (if t351 = true then ((laws_toTuple.f k a0_0 a0_1 a0_2 a0_3 a0_4 l0_5 a0_6 a0_7 a0_8 l0_9).bind fun bt352 => ((laws_eqTuple.f k bt333.1 bt333.2.1 bt333.2.2.1 bt333.2.2.2.1 bt333.2.2.2.2.1 bt333.2.2.2.2.2.1 bt333.2.2.2.2.2.2.1 bt333.2.2.2.2.2.2.2.1 bt333.2.2.2.2.2.2.2.2.1 bt333.2.2.2.2.2.2.2.2.2 bt352.1 bt352.2.1 bt352.2.2.1 bt352.2.2.2.1 bt352.2.2.2.2.1 bt352.2.2.2.2.2.1 bt352.2.2.2.2.2.2.1 bt352.2.2.2.2.2.2.2.1 bt352.2.2.2.2.2.2.2.2.1 bt352.2.2.2.2.2.2.2.2.2).bind fun t366 => (if t366 = true then ((laws_markTuple.f k bt333.1 bt333.2.1 bt333.2.2.1 bt333.2.2.2.1 bt333.2.2.2.2.1 bt333.2.2.2.2.2.1 bt333.2.2.2.2.2.2.1 bt333.2.2.2.2.2.2.2.1 bt333.2.2.2.2.2.2.2.2.1 bt333.2.2.2.2.2.2.2.2.2 1).bind fun bt367 => (if bt367.1 < 0 then (laws_FnExactTupleBytes.j0 k t330 t348 true a0_0 a0_1 a0_2 a0_3 a0_4 l0_5 a0_6 a0_7 a0_8 l0_9) else ((laws_eqByteS.f k t348 t330).bind fun t370 => (laws_FnExactTupleBytes.j0 k t330 t348 (!t370) a0_0 a0_1 a0_2 a0_3 a0_4 l0_5 a0_6 a0_7 a0_8 l0_9)))) else (some false)))) else (some false))))))))
theorem laws_FnExactTupleBytes.mono_l : ∀ k, (∀ y0 y1 y2 y3 y4 y5 y6 y7 y8 y9 y10 y11 y12, LeO (laws_FnExactTupleBytes.j0 k y0 y1 y2 y3 y4 y5 y6 y7 y8 y9 y10 y11 y12) (laws_FnExactTupleBytes.j0 (k + 1) y0 y1 y2 y3 y4 y5 y6 y7 y8 y9 y10 y11 y12))
 | 0 => fun _ _ _ _ _ _ _ _ _ _ _ _ _ r h => by simp [laws_FnExactTupleBytes.j0] at h
 | k + 1 => by
  have ih0 := laws_FnExactTupleBytes.mono_l k
  ·intro y0 y1 y2 y3 y4 y5 y6 y7 y8 y9 y10 y11 y12
   unfold laws_FnExactTupleBytes.j0
   repeat' with_reducible first | exact ih0 _ _ _ _ _ _ _ _ _ _ _ _ _ | exact impl_TupleBytes.mono _ _ _ _ _ _ _ _ _ _ _ | exact laws_eqByteS.mono _ _ _ | exact laws_eqTuple.mono _ _ _ _ _ _ _ _ _ _ _ _ _ _ _ _ _ _ _ _ _ | exact laws_heldByteS.mono _ _ _ | exact laws_markByteS.mono _ _ _ | exact laws_markTuple.mono _ _ _ _ _ _ _ _ _ _ _ _ | exact laws_toTuple.mono _ _ _ _ _ _ _ _ _ _ _ | exact spec_TupleBytes.mono _ _ _ _ _ _ _ _ _ _ _ | exact LeO.refl _ | exact LeO.none _ | refine LeO.ite ?_ ?_ | refine LeO.bind ?_ (fun _ => ?_)
theorem laws_FnExactTupleBytes.mono : ∀ a0 a1 a2 a3 a4 a5 a6 a7 a8 a9 k, LeO (laws_FnExactTupleBytes.f k a0 a1 a2 a3 a4 a5 a6 a7 a8 a9) (laws_FnExactTupleBytes.f (k + 1) a0 a1 a2 a3 a4 a5 a6 a7 a8 a9) := by
 intro a0 a1 a2 a3 a4 a5 a6 a7 a8 a9 k
 have ih0 := laws_FnExactTupleBytes.mono_l k
 unfold laws_FnExactTupleBytes.f
 repeat' with_reducible first | exact ih0 _ _ _ _ _ _ _ _ _ _ _ _ _ | exact impl_TupleBytes.mono _ _ _ _ _ _ _ _ _ _ _ | exact laws_eqByteS.mono _ _ _ | exact laws_eqTuple.mono _ _ _ _ _ _ _ _ _ _ _ _ _ _ _ _ _ _ _ _ _ | exact laws_heldByteS.mono _ _ _ | exact laws_markByteS.mono _ _ _ | exact laws_markTuple.mono _ _ _ _ _ _ _ _ _ _ _ _ | exact laws_toTuple.mono _ _ _ _ _ _ _ _ _ _ _ | exact spec_TupleBytes.mono _ _ _ _ _ _ _ _ _ _ _ | exact LeO.refl _ | exact LeO.none _ | refine LeO.ite ?_ ?_ | refine LeO.bind ?_ (fun _ => ?_)
set_option maxHeartbeats 8000000 in
set_option maxRecDepth 100000 in
theorem laws_FnExactTupleBytes.calls (k : Nat) (a0_0 : Int) (a0_1 : Int) (a0_2 : Int) (a0_3 : Int) (a0_4 : Nat) (A0_5 : Option Addr) (c0_5 : Nat) (l0_5 : List Int) (a0_6 : Int) (a0_7 : Int) (a0_8 : Nat) (A0_9 : Option Addr) (c0_9 : Nat) (l0_9 : List Int) (r : Bool) (w : World) (hr0_5 : Kd.C (Kd.int .u8) w A0_5 l0_5.length l0_5) (hc0_5 : l0_5.length ≤ c0_5) (hr0_9 : Kd.C (Kd.int .u8) w A0_9 l0_9.length l0_9) (hc0_9 : l0_9.length ≤ c0_9) (h : laws_FnExactTupleBytes.f k a0_0 a0_1 a0_2 a0_3 a0_4 l0_5 a0_6 a0_7 a0_8 l0_9 = some r) (hT : r = true := by rfl) :
  Calls Try.prog 6 #[.agg #[.int .i64 a0_0, .int .i64 a0_1, .int .i64 a0_2, .int .i64 a0_3, .float .f64 a0_4, .slice A0_5 l0_5.length c0_5, .int .i64 a0_6, .int .i64 a0_7, .float .f64 a0_8, .slice A0_9 l0_9.length c0_9]] w fun e w' => e = .returned (.bool r) ∧ Below w.heap.size w w' := by
 have hu45 := Try.underlying45
 have hu49 := Try.underlying49
 have HR0_5 := Aside0.mk hr0_5
 have HC0_5 := Aside0.mk hc0_5
 clear hr0_5 hc0_5
 have HR0_9 := Aside0.mk hr0_9
 have HC0_9 := Aside0.mk hc0_9
 clear hr0_9 hc0_9
 have HB := Aside0.mk (Below.refl w.heap.size w)
 have H : ((laws_szTuple.f a0_0 a0_1 a0_2 a0_3 a0_4 l0_5 a0_6 a0_7 a0_8 l0_9 1048576).bind fun t315 => (if t315 < 0 then (some true) else ((laws_toTuple.f k a0_0 a0_1 a0_2 a0_3 a0_4 l0_5 a0_6 a0_7 a0_8 l0_9).bind fun bt316 => ((spec_TupleBytes.f k bt316.1 bt316.2.1 bt316.2.2.1 bt316.2.2.2.1 bt316.2.2.2.2.1 bt316.2.2.2.2.2.1 bt316.2.2.2.2.2.2.1 bt316.2.2.2.2.2.2.2.1 bt316.2.2.2.2.2.2.2.2.1 bt316.2.2.2.2.2.2.2.2.2).bind fun t330 => ((laws_toTuple.f k a0_0 a0_1 a0_2 a0_3 a0_4 l0_5 a0_6 a0_7 a0_8 l0_9).bind fun bt333 => ((impl_TupleBytes.f k bt333.1 bt333.2.1 bt333.2.2.1 bt333.2.2.2.1 bt333.2.2.2.2.1 bt333.2.2.2.2.2.1 bt333.2.2.2.2.2.2.1 bt333.2.2.2.2.2.2.2.1 bt333.2.2.2.2.2.2.2.2.1 bt333.2.2.2.2.2.2.2.2.2).bind fun t348 => ((laws_eqByteS.f k t348 t330).bind fun t351 => (if t351 = true then ((laws_toTuple.f k a0_0 a0_1 a0_2 a0_3 a0_4 l0_5 a0_6 a0_7 a0_8 l0_9).bind fun bt352 => ((laws_eqTuple.f k bt333.1 bt333.2.1 bt333.2.2.1 bt333.2.2.2.1 bt333.2.2.2.2.1 bt333.2.2.2.2.2.1 bt333.2.2.2.2.2.2.1 bt333.2.2.2.2.2.2.2.1 bt333.2.2.2.2.2.2.2.2.1 bt333.2.2.2.2.2.2.2.2.2 bt352.1 bt352.2.1 bt352.2.2.1 bt352.2.2.2.1 bt352.2.2.2.2.1 bt352.2.2.2.2.2.1 bt352.2.2.2.2.2.2.1 bt352.2.2.2.2.2.2.2.1 bt352.2.2.2.2.2.2.2.2.1 bt352.2.2.2.2.2.2.2.2.2).bind fun t366 => (if t366 = true then ((laws_markTuple.f k bt333.1 bt333.2.1 bt333.2.2.1 bt333.2.2.2.1 bt333.2.2.2.2.1 bt333.2.2.2.2.2.1 bt333.2.2.2.2.2.2.1 bt333.2.2.2.2.2.2.2.1 bt333.2.2.2.2.2.2.2.2.1 bt333.2.2.2.2.2.2.2.2.2 1).bind fun bt367 => (if bt367.1 < 0 then (laws_FnExactTupleBytes.j0 k t330 t348 true a0_0 a0_1 a0_2 a0_3 a0_4 l0_5 a0_6 a0_7 a0_8 l0_9) else ((laws_eqByteS.f k t348 t330).bind fun t370 => (laws_FnExactTupleBytes.j0 k t330 t348 (!t370) a0_0 a0_1 a0_2 a0_3 a0_4 l0_5 a0_6 a0_7 a0_8 l0_9)))) else (some false)))) else (some false))))))))) = some r := h
 clear h
 replace H := Option.bind_eq_some_iff.mp H
 obtain ⟨t315, A20, H⟩ := H
 replace H : (if t315 < 0 then (some true) else ((laws_toTuple.f k a0_0 a0_1 a0_2 a0_3 a0_4 l0_5 a0_6 a0_7 a0_8 l0_9).bind fun bt316 => ((spec_TupleBytes.f k bt316.1 bt316.2.1 bt316.2.2.1 bt316.2.2.2.1 bt316.2.2.2.2.1 bt316.2.2.2.2.2.1 bt316.2.2.2.2.2.2.1 bt316.2.2.2.2.2.2.2.1 bt316.2.2.2.2.2.2.2.2.1 bt316.2.2.2.2.2.2.2.2.2).bind fun t330 => ((laws_toTuple.f k a0_0 a0_1 a0_2 a0_3 a0_4 l0_5 a0_6 a0_7 a0_8 l0_9).bind fun bt333 => ((impl_TupleBytes.f k bt333.1 bt333.2.1 bt333.2.2.1 bt333.2.2.2.1 bt333.2.2.2.2.1 bt333.2.2.2.2.2.1 bt333.2.2.2.2.2.2.1 bt333.2.2.2.2.2.2.2.1 bt333.2.2.2.2.2.2.2.2.1 bt333.2.2.2.2.2.2.2.2.2).bind fun t348 => ((laws_eqByteS.f k t348 t330).bind fun t351 => (if t351 = true then ((laws_toTuple.f k a0_0 a0_1 a0_2 a0_3 a0_4 l0_5 a0_6 a0_7 a0_8 l0_9).bind fun bt352 => ((laws_eqTuple.f k bt333.1 bt333.2.1 bt333.2.2.1 bt333.2.2.2.1 bt333.2.2.2.2.1 bt333.2.2.2.2.2.1 bt333.2.2.2.2.2.2.1 bt333.2.2.2.2.2.2.2.1 bt333.2.2.2.2.2.2.2.2.1 bt333.2.2.2.2.2.2.2.2.2 bt352.1 bt352.2.1 bt352.2.2.1 bt352.2.2.2.1 bt352.2.2.2.2.1 bt352.2.2.2.2.2.1 bt352.2.2.2.2.2.2.1 bt352.2.2.2.2.2.2.2.1 bt352.2.2.2.2.2.2.2.2.1 bt352.2.2.2.2.2.2.2.2.2).bind fun t366 => (if t366 = true then ((laws_markTuple.f k bt333.1 bt333.2.1 bt333.2.2.1 bt333.2.2.2.1 bt333.2.2.2.2.1 bt333.2.2.2.2.2.1 bt333.2.2.2.2.2.2.1 bt333.2.2.2.2.2.2.2.1 bt333.2.2.2.2.2.2.2.2.1 bt333.2.2.2.2.2.2.2.2.2 1).bind fun bt367 => (if bt367.1 < 0 then (laws_FnExactTupleBytes.j0 k t330 t348 true a0_0 a0_1 a0_2 a0_3 a0_4 l0_5 a0_6 a0_7 a0_8 l0_9) else ((laws_eqByteS.f k t348 t330).bind fun t370 => (laws_FnExactTupleBytes.j0 k t330 t348 (!t370) a0_0 a0_1 a0_2 a0_3 a0_4 l0_5 a0_6 a0_7 a0_8 l0_9)))) else (some false)))) else (some false)))))))) = some r := H
 have A2 := Aside0.mk A20
 clear A20
 by_cases c3 : t315 < 0
 ·rw [if_pos c3] at H
  have c3b0 : decide (t315 < 0) = true := decide_eq_true c3
  clear c3
  obtain rfl := Option.some.inj H
  go_enter Try.func6, Try.ntmps6
  go_wp2_with (first | ((with_reducible refine gate_dst (N := 1) rfl ?_); refine box_event ?hg (N := 1) ?hd (cs := #[.int .i64 a0_0, .int .i64 a0_1, .int .i64 a0_2, .int .i64 a0_3, .float .f64 a0_4, .slice A0_5 l0_5.length c0_5, .int .i64 a0_6, .int .i64 a0_7, .float .f64 a0_8, .slice A0_9 l0_9.length c0_9]) (t := 45) ?hr ?_; (case hd => rfl); (case hg => rfl); (case hr => first | (go_simp; done) | (go_simp; rfl)); intro gb314 hg w4 hbox hb; have n0_ := Aside0.mk (below_step (hup HB.out) hb); have n1_ := Aside0.mk (hbox); have n2_ := Aside0.mk ((by rw [hg]; exact (below_size (hup HB.out)) : w.heap.size ≤ gb314)); have n3_ := Aside0.mk ((by rw [hg]; exact (below_size (hup HB.out)) : w.heap.size ≤ gb314)); clear HB; have HB := n0_; have BK314 := n1_; have GW314 := n2_; have GE314 := n3_; clear n0_ n1_ n2_ n3_; clear hb hbox hg; obtain ⟨hcz5_0, hcz5_1, hcz5_2, hcz5_3, hcz5_4, hcz5_5, hcz5_6, hcz5_7, hcz5_8, hcz5_9⟩ := blk_cells10 BK314.out; obtain ⟨hfz5_0, hfz5_1, hfz5_2, hfz5_3, hfz5_4, hfz5_5, hfz5_6, hfz5_7, hfz5_8, hfz5_9⟩ := blk_frozens10 BK314.out) | ((with_reducible refine gate_callee (f := 31) rfl ?_); refine goesL_ (some 13) rfl rfl Try.func31 (by kernel_rfl) rfl #[.agg #[.int .i64 a0_0, .int .i64 a0_1, .int .i64 a0_2, .int .i64 a0_3, .float .f64 a0_4, .slice A0_5 l0_5.length c0_5, .int .i64 a0_6, .int .i64 a0_7, .float .f64 a0_8, .slice A0_9 l0_9.length c0_9], .int .i64 1048576] rfl (by (try simp only [List.map_toArray, List.map_cons, List.map_nil]); first | done | rfl) ?_; (with_reducible refine (laws_szTuple.calls a0_0 a0_1 a0_2 a0_3 a0_4 _ _ l0_5 a0_6 a0_7 a0_8 _ _ l0_9 1048576 t315 _ ?side1 ?side2 ?side3 ?side4 A2.out).mono ?_); (case side1 => repeat (first | exact (Kd.C_below HR0_5.out HB.out) | (with_reducible refine Kd.C_alloc ?_ _) | (with_reducible refine Kd.C_drewN ?_ _) | (with_reducible refine Kd.C_drew ?_))); (case side2 => exact HC0_5.out); (case side3 => repeat (first | exact (Kd.C_below HR0_9.out HB.out) | (with_reducible refine Kd.C_alloc ?_ _) | (with_reducible refine Kd.C_drewN ?_ _) | (with_reducible refine Kd.C_drew ?_))); (case side4 => exact HC0_9.out); rintro e w6 ⟨rfl, hb⟩; refine ⟨_, rfl, ?_⟩; have n0_ := Aside0.mk (blk_below (g := gb314) (o := .cells #[.int .i64 a0_0, .int .i64 a0_1, .int .i64 a0_2, .int .i64 a0_3, .float .f64 a0_4, .slice A0_5 l0_5.length c0_5, .int .i64 a0_6, .int .i64 a0_7, .float .f64 a0_8, .slice A0_9 l0_9.length c0_9] 45 (0, 0)) (bup BK314.out) hb); have n1_ := Aside0.mk (below_step (by with_reducible repeat (first | exact HB.out | refine h4 ?_ GE314.out | apply h1 | apply h2 | apply h3)) hb); clear BK314; clear HB; have BK314 := n0_; have HB := n1_; clear n0_ n1_; (try clear hb); (try clear hb2); (try clear hk); (try clear hi)))
  go_ret
  exact ⟨by first | rfl | (simp [errW_none, errW_some] <;> rfl) | (simp [*, errW_none, errW_some] <;> rfl), by with_reducible repeat (first | exact HB.out | refine h4 ?_ GE314.out | apply h1 | apply h2 | apply h3)⟩
 ·rw [if_neg c3] at H
  have c3b0 : decide (t315 < 0) = false := decide_eq_false c3
  clear c3
  replace H := Option.bind_eq_some_iff.mp H
  obtain ⟨⟨t316, t317, t318, t319, t320, t321, t324, t325, t326, t327⟩, A70, H⟩ := H
  replace H : ((spec_TupleBytes.f k t316 t317 t318 t319 t320 t321 t324 t325 t326 t327).bind fun t330 => ((laws_toTuple.f k a0_0 a0_1 a0_2 a0_3 a0_4 l0_5 a0_6 a0_7 a0_8 l0_9).bind fun bt333 => ((impl_TupleBytes.f k bt333.1 bt333.2.1 bt333.2.2.1 bt333.2.2.2.1 bt333.2.2.2.2.1 bt333.2.2.2.2.2.1 bt333.2.2.2.2.2.2.1 bt333.2.2.2.2.2.2.2.1 bt333.2.2.2.2.2.2.2.2.1 bt333.2.2.2.2.2.2.2.2.2).bind fun t348 => ((laws_eqByteS.f k t348 t330).bind fun t351 => (if t351 = true then ((laws_toTuple.f k a0_0 a0_1 a0_2 a0_3 a0_4 l0_5 a0_6 a0_7 a0_8 l0_9).bind fun bt352 => ((laws_eqTuple.f k bt333.1 bt333.2.1 bt333.2.2.1 bt333.2.2.2.1 bt333.2.2.2.2.1 bt333.2.2.2.2.2.1 bt333.2.2.2.2.2.2.1 bt333.2.2.2.2.2.2.2.1 bt333.2.2.2.2.2.2.2.2.1 bt333.2.2.2.2.2.2.2.2.2 bt352.1 bt352.2.1 bt352.2.2.1 bt352.2.2.2.1 bt352.2.2.2.2.1 bt352.2.2.2.2.2.1 bt352.2.2.2.2.2.2.1 bt352.2.2.2.2.2.2.2.1 bt352.2.2.2.2.2.2.2.2.1 bt352.2.2.2.2.2.2.2.2.2).bind fun t366 => (if t366 = true then ((laws_markTuple.f k bt333.1 bt333.2.1 bt333.2.2.1 bt333.2.2.2.1 bt333.2.2.2.2.1 bt333.2.2.2.2.2.1 bt333.2.2.2.2.2.2.1 bt333.2.2.2.2.2.2.2.1 bt333.2.2.2.2.2.2.2.2.1 bt333.2.2.2.2.2.2.2.2.2 1).bind fun bt367 => (if bt367.1 < 0 then (laws_FnExactTupleBytes.j0 k t330 t348 true a0_0 a0_1 a0_2 a0_3 a0_4 l0_5 a0_6 a0_7 a0_8 l0_9) else ((laws_eqByteS.f k t348 t330).bind fun t370 => (laws_FnExactTupleBytes.j0 k t330 t348 (!t370) a0_0 a0_1 a0_2 a0_3 a0_4 l0_5 a0_6 a0_7 a0_8 l0_9)))) else (some false)))) else (some false)))))) = some r := H
  have A7 := Aside0.mk A70
  clear A70
  replace H := Option.bind_eq_some_iff.mp H
  obtain ⟨t330, A80, H⟩ := H
  replace H : ((laws_toTuple.f k a0_0 a0_1 a0_2 a0_3 a0_4 l0_5 a0_6 a0_7 a0_8 l0_9).bind fun bt333 => ((impl_TupleBytes.f k bt333.1 bt333.2.1 bt333.2.2.1 bt333.2.2.2.1 bt333.2.2.2.2.1 bt333.2.2.2.2.2.1 bt333.2.2.2.2.2.2.1 bt333.2.2.2.2.2.2.2.1 bt333.2.2.2.2.2.2.2.2.1 bt333.2.2.2.2.2.2.2.2.2).bind fun t348 => ((laws_eqByteS.f k t348 t330).bind fun t351 => (if t351 = true then ((laws_toTuple.f k a0_0 a0_1 a0_2 a0_3 a0_4 l0_5 a0_6 a0_7 a0_8 l0_9).bind fun bt352 => ((laws_eqTuple.f k bt333.1 bt333.2.1 bt333.2.2.1 bt333.2.2.2.1 bt333.2.2.2.2.1 bt333.2.2.2.2.2.1 bt333.2.2.2.2.2.2.1 bt333.2.2.2.2.2.2.2.1 bt333.2.2.2.2.2.2.2.2.1 bt333.2.2.2.2.2.2.2.2.2 bt352.1 bt352.2.1 bt352.2.2.1 bt352.2.2.2.1 bt352.2.2.2.2.1 bt352.2.2.2.2.2.1 bt352.2.2.2.2.2.2.1 bt352.2.2.2.2.2.2.2.1 bt352.2.2.2.2.2.2.2.2.1 bt352.2.2.2.2.2.2.2.2.2).bind fun t366 => (if t366 = true then ((laws_markTuple.f k bt333.1 bt333.2.1 bt333.2.2.1 bt333.2.2.2.1 bt333.2.2.2.2.1 bt333.2.2.2.2.2.1 bt333.2.2.2.2.2.2.1 bt333.2.2.2.2.2.2.2.1 bt333.2.2.2.2.2.2.2.2.1 bt333.2.2.2.2.2.2.2.2.2 1).bind fun bt367 => (if bt367.1 < 0 then (laws_FnExactTupleBytes.j0 k t330 t348 true a0_0 a0_1 a0_2 a0_3 a0_4 l0_5 a0_6 a0_7 a0_8 l0_9) else ((laws_eqByteS.f k t348 t330).bind fun t370 => (laws_FnExactTupleBytes.j0 k t330 t348 (!t370) a0_0 a0_1 a0_2 a0_3 a0_4 l0_5 a0_6 a0_7 a0_8 l0_9)))) else (some false)))) else (some false))))) = some r := H
  have A8 := Aside0.mk A80
  clear A80
  replace H := Option.bind_eq_some_iff.mp H
  obtain ⟨⟨t333, t334, t335, t336, t337, t338, t341, t342, t343, t344⟩, A90, H⟩ := H
  replace H : ((impl_TupleBytes.f k t333 t334 t335 t336 t337 t338 t341 t342 t343 t344).bind fun t348 => ((laws_eqByteS.f k t348 t330).bind fun t351 => (if t351 = true then ((laws_toTuple.f k a0_0 a0_1 a0_2 a0_3 a0_4 l0_5 a0_6 a0_7 a0_8 l0_9).bind fun bt352 => ((laws_eqTuple.f k t333 t334 t335 t336 t337 t338 t341 t342 t343 t344 bt352.1 bt352.2.1 bt352.2.2.1 bt352.2.2.2.1 bt352.2.2.2.2.1 bt352.2.2.2.2.2.1 bt352.2.2.2.2.2.2.1 bt352.2.2.2.2.2.2.2.1 bt352.2.2.2.2.2.2.2.2.1 bt352.2.2.2.2.2.2.2.2.2).bind fun t366 => (if t366 = true then ((laws_markTuple.f k t333 t334 t335 t336 t337 t338 t341 t342 t343 t344 1).bind fun bt367 => (if bt367.1 < 0 then (laws_FnExactTupleBytes.j0 k t330 t348 true a0_0 a0_1 a0_2 a0_3 a0_4 l0_5 a0_6 a0_7 a0_8 l0_9) else ((laws_eqByteS.f k t348 t330).bind fun t370 => (laws_FnExactTupleBytes.j0 k t330 t348 (!t370) a0_0 a0_1 a0_2 a0_3 a0_4 l0_5 a0_6 a0_7 a0_8 l0_9)))) else (some false)))) else (some false)))) = some r := H
  have A9 := Aside0.mk A90
  clear A90
  replace H := Option.bind_eq_some_iff.mp H
  obtain ⟨t348, A100, H⟩ := H
  replace H : ((laws_eqByteS.f k t348 t330).bind fun t351 => (if t351 = true then ((laws_toTuple.f k a0_0 a0_1 a0_2 a0_3 a0_4 l0_5 a0_6 a0_7 a0_8 l0_9).bind fun bt352 => ((laws_eqTuple.f k t333 t334 t335 t336 t337 t338 t341 t342 t343 t344 bt352.1 bt352.2.1 bt352.2.2.1 bt352.2.2.2.1 bt352.2.2.2.2.1 bt352.2.2.2.2.2.1 bt352.2.2.2.2.2.2.1 bt352.2.2.2.2.2.2.2.1 bt352.2.2.2.2.2.2.2.2.1 bt352.2.2.2.2.2.2.2.2.2).bind fun t366 => (if t366 = true then ((laws_markTuple.f k t333 t334 t335 t336 t337 t338 t341 t342 t343 t344 1).bind fun bt367 => (if bt367.1 < 0 then (laws_FnExactTupleBytes.j0 k t330 t348 true a0_0 a0_1 a0_2 a0_3 a0_4 l0_5 a0_6 a0_7 a0_8 l0_9) else ((laws_eqByteS.f k t348 t330).bind fun t370 => (laws_FnExactTupleBytes.j0 k t330 t348 (!t370) a0_0 a0_1 a0_2 a0_3 a0_4 l0_5 a0_6 a0_7 a0_8 l0_9)))) else (some false)))) else (some false))) = some r := H
  have A10 := Aside0.mk A100
  clear A100
  replace H := Option.bind_eq_some_iff.mp H
  obtain ⟨t351, A110, H⟩ := H
  replace H : (if t351 = true then ((laws_toTuple.f k a0_0 a0_1 a0_2 a0_3 a0_4 l0_5 a0_6 a0_7 a0_8 l0_9).bind fun bt352 => ((laws_eqTuple.f k t333 t334 t335 t336 t337 t338 t341 t342 t343 t344 bt352.1 bt352.2.1 bt352.2.2.1 bt352.2.2.2.1 bt352.2.2.2.2.1 bt352.2.2.2.2.2.1 bt352.2.2.2.2.2.2.1 bt352.2.2.2.2.2.2.2.1 bt352.2.2.2.2.2.2.2.2.1 bt352.2.2.2.2.2.2.2.2.2).bind fun t366 => (if t366 = true then ((laws_markTuple.f k t333 t334 t335 t336 t337 t338 t341 t342 t343 t344 1).bind fun bt367 => (if bt367.1 < 0 then (laws_FnExactTupleBytes.j0 k t330 t348 true a0_0 a0_1 a0_2 a0_3 a0_4 l0_5 a0_6 a0_7 a0_8 l0_9) else ((laws_eqByteS.f k t348 t330).bind fun t370 => (laws_FnExactTupleBytes.j0 k t330 t348 (!t370) a0_0 a0_1 a0_2 a0_3 a0_4 l0_5 a0_6 a0_7 a0_8 l0_9)))) else (some false)))) else (some false)) = some r := H
  have A11 := Aside0.mk A110
  clear A110
  by_cases c12 : t351 = true
  ·subst c12
   have H1 : ((laws_toTuple.f k a0_0 a0_1 a0_2 a0_3 a0_4 l0_5 a0_6 a0_7 a0_8 l0_9).bind fun bt352 => ((laws_eqTuple.f k t333 t334 t335 t336 t337 t338 t341 t342 t343 t344 bt352.1 bt352.2.1 bt352.2.2.1 bt352.2.2.2.1 bt352.2.2.2.2.1 bt352.2.2.2.2.2.1 bt352.2.2.2.2.2.2.1 bt352.2.2.2.2.2.2.2.1 bt352.2.2.2.2.2.2.2.2.1 bt352.2.2.2.2.2.2.2.2.2).bind fun t366 => (if t366 = true then ((laws_markTuple.f k t333 t334 t335 t336 t337 t338 t341 t342 t343 t344 1).bind fun bt367 => (if bt367.1 < 0 then (laws_FnExactTupleBytes.j0 k t330 t348 true a0_0 a0_1 a0_2 a0_3 a0_4 l0_5 a0_6 a0_7 a0_8 l0_9) else ((laws_eqByteS.f k t348 t330).bind fun t370 => (laws_FnExactTupleBytes.j0 k t330 t348 (!t370) a0_0 a0_1 a0_2 a0_3 a0_4 l0_5 a0_6 a0_7 a0_8 l0_9)))) else (some false)))) = some r := by rw [if_pos rfl] at H; exact H
   clear H
   have H := H1
   clear H1
   replace H := Option.bind_eq_some_iff.mp H
   obtain ⟨⟨t352, t353, t354, t355, t356, t357, t360, t361, t362, t363⟩, A130, H⟩ := H
   replace H : ((laws_eqTuple.f k t333 t334 t335 t336 t337 t338 t341 t342 t343 t344 t352 t353 t354 t355 t356 t357 t360 t361 t362 t363).bind fun t366 => (if t366 = true then ((laws_markTuple.f k t333 t334 t335 t336 t337 t338 t341 t342 t343 t344 1).bind fun bt367 => (if bt367.1 < 0 then (laws_FnExactTupleBytes.j0 k t330 t348 true a0_0 a0_1 a0_2 a0_3 a0_4 l0_5 a0_6 a0_7 a0_8 l0_9) else ((laws_eqByteS.f k t348 t330).bind fun t370 => (laws_FnExactTupleBytes.j0 k t330 t348 (!t370) a0_0 a0_1 a0_2 a0_3 a0_4 l0_5 a0_6 a0_7 a0_8 l0_9)))) else (some false))) = some r := H
   have A13 := Aside0.mk A130
   clear A130
   replace H := Option.bind_eq_some_iff.mp H
   obtain ⟨t366, A140, H⟩ := H
   replace H : (if t366 = true then ((laws_markTuple.f k t333 t334 t335 t336 t337 t338 t341 t342 t343 t344 1).bind fun bt367 => (if bt367.1 < 0 then (laws_FnExactTupleBytes.j0 k t330 t348 true a0_0 a0_1 a0_2 a0_3 a0_4 l0_5 a0_6 a0_7 a0_8 l0_9) else ((laws_eqByteS.f k t348 t330).bind fun t370 => (laws_FnExactTupleBytes.j0 k t330 t348 (!t370) a0_0 a0_1 a0_2 a0_3 a0_4 l0_5 a0_6 a0_7 a0_8 l0_9)))) else (some false)) = some r := H
   have A14 := Aside0.mk A140
   clear A140
   by_cases c15 : t366 = true
   ·subst c15
    have H1 : ((laws_markTuple.f k t333 t334 t335 t336 t337 t338 t341 t342 t343 t344 1).bind fun bt367 => (if bt367.1 < 0 then (laws_FnExactTupleBytes.j0 k t330 t348 true a0_0 a0_1 a0_2 a0_3 a0_4 l0_5 a0_6 a0_7 a0_8 l0_9) else ((laws_eqByteS.f k t348 t330).bind fun t370 => (laws_FnExactTupleBytes.j0 k t330 t348 (!t370) a0_0 a0_1 a0_2 a0_3 a0_4 l0_5 a0_6 a0_7 a0_8 l0_9)))) = some r := by rw [if_pos rfl] at H; exact H
    clear H
    have H := H1
    clear H1
    replace H := Option.bind_eq_some_iff.mp H
    obtain ⟨⟨t367, t368, t369⟩, A160, H⟩ := H
    replace H : (if t367 < 0 then (laws_FnExactTupleBytes.j0 k t330 t348 true a0_0 a0_1 a0_2 a0_3 a0_4 l0_5 a0_6 a0_7 a0_8 l0_9) else ((laws_eqByteS.f k t348 t330).bind fun t370 => (laws_FnExactTupleBytes.j0 k t330 t348 (!t370) a0_0 a0_1 a0_2 a0_3 a0_4 l0_5 a0_6 a0_7 a0_8 l0_9))) = some r := H
    have A16 := Aside0.mk A160
    clear A160
    have HC17 := Aside0.mk H
    clear H
    go_enter Try.func6, Try.ntmps6
    try go_wp2_with (first | ((with_reducible refine gate_dst (N := 1) rfl ?_); refine box_event ?hg (N := 1) ?hd (cs := #[.int .i64 a0_0, .int .i64 a0_1, .int .i64 a0_2, .int .i64 a0_3, .float .f64 a0_4, .slice A0_5 l0_5.length c0_5, .int .i64 a0_6, .int .i64 a0_7, .float .f64 a0_8, .slice A0_9 l0_9.length c0_9]) (t := 45) ?hr ?_; (case hd => rfl); (case hg => rfl); (case hr => first | (go_simp; done) | (go_simp; rfl)); intro gb314 hg w18 hbox hb; have n0_ := Aside0.mk (below_step (hup HB.out) hb); have n1_ := Aside0.mk (hbox); have n2_ := Aside0.mk ((by rw [hg]; exact (below_size (hup HB.out)) : w.heap.size ≤ gb314)); have n3_ := Aside0.mk ((by rw [hg]; exact (below_size (hup HB.out)) : w.heap.size ≤ gb314)); clear HB; have HB := n0_; have BK314 := n1_; have GW314 := n2_; have GE314 := n3_; clear n0_ n1_ n2_ n3_; clear hb hbox hg; obtain ⟨hcz19_0, hcz19_1, hcz19_2, hcz19_3, hcz19_4, hcz19_5, hcz19_6, hcz19_7, hcz19_8, hcz19_9⟩ := blk_cells10 BK314.out; obtain ⟨hfz19_0, hfz19_1, hfz19_2, hfz19_3, hfz19_4, hfz19_5, hfz19_6, hfz19_7, hfz19_8, hfz19_9⟩ := blk_frozens10 BK314.out) | ((with_reducible refine gate_callee (f := 31) rfl ?_); refine goesL_ (some 13) rfl rfl Try.func31 (by kernel_rfl) rfl #[.agg #[.int .i64 a0_0, .int .i64 a0_1, .int .i64 a0_2, .int .i64 a0_3, .float .f64 a0_4, .slice A0_5 l0_5.length c0_5, .int .i64 a0_6, .int .i64 a0_7, .float .f64 a0_8, .slice A0_9 l0_9.length c0_9], .int .i64 1048576] rfl (by (try simp only [List.map_toArray, List.map_cons, List.map_nil]); first | done | rfl) ?_; (with_reducible refine (laws_szTuple.calls a0_0 a0_1 a0_2 a0_3 a0_4 _ _ l0_5 a0_6 a0_7 a0_8 _ _ l0_9 1048576 t315 _ ?side1 ?side2 ?side3 ?side4 A2.out).mono ?_); (case side1 => repeat (first | exact (Kd.C_below HR0_5.out HB.out) | (with_reducible refine Kd.C_alloc ?_ _) | (with_reducible refine Kd.C_drewN ?_ _) | (with_reducible refine Kd.C_drew ?_))); (case side2 => exact HC0_5.out); (case side3 => repeat (first | exact (Kd.C_below HR0_9.out HB.out) | (with_reducible refine Kd.C_alloc ?_ _) | (with_reducible refine Kd.C_drewN ?_ _) | (with_reducible refine Kd.C_drew ?_))); (case side4 => exact HC0_9.out); rintro e w20 ⟨rfl, hb⟩; refine ⟨_, rfl, ?_⟩; have n0_ := Aside0.mk (blk_below (g := gb314) (o := .cells #[.int .i64 a0_0, .int .i64 a0_1, .int .i64 a0_2, .int .i64 a0_3, .float .f64 a0_4, .slice A0_5 l0_5.length c0_5, .int .i64 a0_6, .int .i64 a0_7, .float .f64 a0_8, .slice A0_9 l0_9.length c0_9] 45 (0, 0)) (bup BK314.out) hb); have n1_ := Aside0.mk (below_step (by with_reducible repeat (first | exact HB.out | refine h4 ?_ GE314.out | apply h1 | apply h2 | apply h3)) hb); clear BK314; clear HB; have BK314 := n0_; have HB := n1_; clear n0_ n1_; (try clear hb); (try clear hb2); (try clear hk); (try clear hi); obtain ⟨hcz21_0, hcz21_1, hcz21_2, hcz21_3, hcz21_4, hcz21_5, hcz21_6, hcz21_7, hcz21_8, hcz21_9⟩ := blk_cells10 BK314.out; obtain ⟨hfz21_0, hfz21_1, hfz21_2, hfz21_3, hfz21_4, hfz21_5, hfz21_6, hfz21_7, hfz21_8, hfz21_9⟩ := blk_frozens10 BK314.out) | ((with_reducible refine gate_callee (f := 33) rfl ?_); refine goesL_ (some 17) rfl rfl Try.func33 (by kernel_rfl) rfl #[.agg #[.int .i64 a0_0, .int .i64 a0_1, .int .i64 a0_2, .int .i64 a0_3, .float .f64 a0_4, .slice A0_5 l0_5.length c0_5, .int .i64 a0_6, .int .i64 a0_7, .float .f64 a0_8, .slice A0_9 l0_9.length c0_9]] rfl (by (try simp only [List.map_toArray, List.map_cons, List.map_nil]); first | done | rfl) ?_; (with_reducible refine (laws_toTuple.calls k a0_0 a0_1 a0_2 a0_3 a0_4 _ _ l0_5 a0_6 a0_7 a0_8 _ _ l0_9 t316 t317 t318 t319 t320 t321 t324 t325 t326 t327 _ ?side1 ?side2 ?side3 ?side4 A7.out).mono ?_); (case side1 => repeat (first | exact (Kd.C_below HR0_5.out HB.out) | (with_reducible refine Kd.C_alloc ?_ _) | (with_reducible refine Kd.C_drewN ?_ _) | (with_reducible refine Kd.C_drew ?_))); (case side2 => exact HC0_5.out); (case side3 => repeat (first | exact (Kd.C_below HR0_9.out HB.out) | (with_reducible refine Kd.C_alloc ?_ _) | (with_reducible refine Kd.C_drewN ?_ _) | (with_reducible refine Kd.C_drew ?_))); (case side4 => exact HC0_9.out); rintro e w22 ⟨v322, v328, rfl, ho0, ho1, hb⟩; refine ⟨_, rfl, ?_⟩; have n0_ := Aside0.mk (Kd.R_lower ho0 (below_size (by with_reducible repeat (first | exact HB.out | refine h4 ?_ GE314.out | apply h1 | apply h2 | apply h3)))); have n1_ := Aside0.mk (Kd.R_lower ho1 (below_size (by with_reducible repeat (first | exact HB.out | refine h4 ?_ GE314.out | apply h1 | apply h2 | apply h3)))); have n2_ := Aside0.mk (blk_below (g := gb314) (o := .cells #[.int .i64 a0_0, .int .i64 a0_1, .int .i64 a0_2, .int .i64 a0_3, .float .f64 a0_4, .slice A0_5 l0_5.length c0_5, .int .i64 a0_6, .int .i64 a0_7, .float .f64 a0_8, .slice A0_9 l0_9.length c0_9] 45 (0, 0)) (bup BK314.out) hb); have n3_ := Aside0.mk (below_step (by with_reducible repeat (first | exact HB.out | refine h4 ?_ GE314.out | apply h1 | apply h2 | apply h3)) hb); clear BK314; clear HB; have HO323 := n0_; have HO329 := n1_; have BK314 := n2_; have HB := n3_; clear n0_ n1_ n2_ n3_; (try clear hb); (try clear hb2); (try clear hk); (try clear hi); (try clear ho0); (try clear ho1); obtain ⟨Ao23, co23, eo23⟩ := Kd.R_slice HO323.out; subst eo23; obtain ⟨Ao24, co24, eo24⟩ := Kd.R_slice HO329.out; subst eo24) | ((with_reducible refine gate_callee (f := 32) rfl ?_); refine goesL_ (some 18) rfl rfl Try.func32 (by kernel_rfl) rfl #[.agg #[.int .i64 t316, .int .i64 t317, .int .i64 t318, .int .i64 t319, .float .f64 t320, .slice Ao23 t321.length co23, .int .i64 t324, .int .i64 t325, .float .f64 t326, .slice Ao24 t327.length co24]] rfl (by (try simp only [List.map_toArray, List.map_cons, List.map_nil]); first | done | rfl) ?_; (with_reducible refine (spec_TupleBytes.calls k t316 t317 t318 t319 t320 _ _ t321 t324 t325 t326 _ _ t327 t330 _ ?side1 ?side2 ?side3 ?side4 A8.out).mono ?_); (case side1 => repeat (first | exact (Kd.R_reads' HO323.out).2.2 | (with_reducible refine Kd.C_alloc ?_ _) | (with_reducible refine Kd.C_drewN ?_ _) | (with_reducible refine Kd.C_drew ?_))); (case side2 => exact (Kd.R_reads' HO323.out).2.1); (case side3 => repeat (first | exact (Kd.R_reads' HO329.out).2.2 | (with_reducible refine Kd.C_alloc ?_ _) | (with_reducible refine Kd.C_drewN ?_ _) | (with_reducible refine Kd.C_drew ?_))); (case side4 => exact (Kd.R_reads' HO329.out).2.1); rintro e w25 ⟨v331, rfl, ho0, hb⟩; refine ⟨_, rfl, ?_⟩; have n0_ := Aside0.mk (Kd.R_elder' (Kd.rup HO323.out) (Kd.R_base ho0) hb); have n1_ := Aside0.mk (Kd.R_elder' (Kd.rup HO329.out) (Kd.R_base ho0) hb); have n2_ := Aside0.mk (Kd.R_lower (Kd.R_new' (Kd.R_new' ho0 (Kd.R_lt (Kd.rup HO323.out))) (Kd.R_lt (Kd.rup HO329.out))) (below_size (by with_reducible repeat (first | exact HB.out | refine h4 ?_ GE314.out | apply h1 | apply h2 | apply h3)))); have n3_ := Aside0.mk (blk_below (g := gb314) (o := .cells #[.int .i64 a0_0, .int .i64 a0_1, .int .i64 a0_2, .int .i64 a0_3, .float .f64 a0_4, .slice A0_5 l0_5.length c0_5, .int .i64 a0_6, .int .i64 a0_7, .float .f64 a0_8, .slice A0_9 l0_9.length c0_9] 45 (0, 0)) (bup BK314.out) hb); have n4_ := Aside0.mk (below_step (by with_reducible repeat (first | exact HB.out | refine h4 ?_ GE314.out | apply h1 | apply h2 | apply h3)) hb); clear HO323; clear HO329; clear BK314; clear HB; have HO323 := n0_; have HO329 := n1_; have HO332 := n2_; have BK314 := n3_; have HB := n4_; clear n0_ n1_ n2_ n3_ n4_; (try clear hb); (try clear hb2); (try clear hk); (try clear hi); (try clear ho0); obtain ⟨hcz26_0, hcz26_1, hcz26_2, hcz26_3, hcz26_4, hcz26_5, hcz26_6, hcz26_7, hcz26_8, hcz26_9⟩ := blk_cells10 BK314.out; obtain ⟨hfz26_0, hfz26_1, hfz26_2, hfz26_3, hfz26_4, hfz26_5, hfz26_6, hfz26_7, hfz26_8, hfz26_9⟩ := blk_frozens10 BK314.out) | ((with_reducible refine gate_callee (f := 33) rfl ?_); refine goesL_ (some 20) rfl rfl Try.func33 (by kernel_rfl) rfl #[.agg #[.int .i64 a0_0, .int .i64 a0_1, .int .i64 a0_2, .int .i64 a0_3, .float .f64 a0_4, .slice A0_5 l0_5.length c0_5, .int .i64 a0_6, .int .i64 a0_7, .float .f64 a0_8, .slice A0_9 l0_9.length c0_9]] rfl (by (try simp only [List.map_toArray, List.map_cons, List.map_nil]); first | done | rfl) ?_; (with_reducible refine (laws_toTuple.calls k a0_0 a0_1 a0_2 a0_3 a0_4 _ _ l0_5 a0_6 a0_7 a0_8 _ _ l0_9 t333 t334 t335 t336 t337 t338 t341 t342 t343 t344 _ ?side1 ?side2 ?side3 ?side4 A9.out).mono ?_); (case side1 => repeat (first | exact (Kd.C_below HR0_5.out HB.out) | (with_reducible refine Kd.C_alloc ?_ _) | (with_reducible refine Kd.C_drewN ?_ _) | (with_reducible refine Kd.C_drew ?_))); (case side2 => exact HC0_5.out); (case side3 => repeat (first | exact (Kd.C_below HR0_9.out HB.out) | (with_reducible refine Kd.C_alloc ?_ _) | (with_reducible refine Kd.C_drewN ?_ _) | (with_reducible refine Kd.C_drew ?_))); (case side4 => exact HC0_9.out); rintro e w27 ⟨v339, v345, rfl, ho0, ho1, hb⟩; refine ⟨_, rfl, ?_⟩; have n0_ := Aside0.mk (Kd.R_mono (Kd.R_told (Kd.R_told (Kd.R_old (Kd.rup HO323.out) hb) (Kd.R_base ho0)) (Kd.R_base ho1)) (fun _ h_ => h_.1)); have n1_ := Aside0.mk (Kd.R_mono (Kd.R_told (Kd.R_told (Kd.R_old (Kd.rup HO329.out) hb) (Kd.R_base ho0)) (Kd.R_base ho1)) (fun _ h_ => h_.1)); have n2_ := Aside0.mk (Kd.R_mono (Kd.R_told (Kd.R_told (Kd.R_old (Kd.rup HO332.out) hb) (Kd.R_base ho0)) (Kd.R_base ho1)) (fun _ h_ => h_.1)); have n3_ := Aside0.mk (Kd.R_lower (Kd.R_new' (Kd.R_new' (Kd.R_new' ho0 (Kd.R_lt (Kd.rup HO323.out))) (Kd.R_lt (Kd.rup HO329.out))) (Kd.R_lt (Kd.rup HO332.out))) (below_size (by with_reducible repeat (first | exact HB.out | refine h4 ?_ GE314.out | apply h1 | apply h2 | apply h3)))); have n4_ := Aside0.mk (Kd.R_lower (Kd.R_new' (Kd.R_new' (Kd.R_new' ho1 (Kd.R_lt (Kd.rup HO323.out))) (Kd.R_lt (Kd.rup HO329.out))) (Kd.R_lt (Kd.rup HO332.out))) (below_size (by with_reducible repeat (first | exact HB.out | refine h4 ?_ GE314.out | apply h1 | apply h2 | apply h3)))); have n5_ := Aside0.mk (blk_below (g := gb314) (o := .cells #[.int .i64 a0_0, .int .i64 a0_1, .int .i64 a0_2, .int .i64 a0_3, .float .f64 a0_4, .slice A0_5 l0_5.length c0_5, .int .i64 a0_6, .int .i64 a0_7, .float .f64 a0_8, .slice A0_9 l0_9.length c0_9] 45 (0, 0)) (bup BK314.out) hb); have n6_ := Aside0.mk (below_step (by with_reducible repeat (first | exact HB.out | refine h4 ?_ GE314.out | apply h1 | apply h2 | apply h3)) hb); clear HO323; clear HO329; clear HO332; clear BK314; clear HB; have HO323 := n0_; have HO329 := n1_; have HO332 := n2_; have HO340 := n3_; have HO346 := n4_; have BK314 := n5_; have HB := n6_; clear n0_ n1_ n2_ n3_ n4_ n5_ n6_; (try clear hb); (try clear hb2); (try clear hk); (try clear hi); (try clear ho0); (try clear ho1)) | ((with_reducible refine gate_dst (N := 5) rfl ?_); refine box_event ?hg (N := 5) ?hd (cs := #[.int .i64 0, .int .i64 0, .int .i64 0, .int .i64 0, .float .f64 0, .slice none 0 0, .int .i64 0, .int .i64 0, .float .f64 0, .slice none 0 0]) (t := 49) ?hr ?_; (case hd => rfl); (case hg => rfl); (case hr => first | (go_simp; done) | (go_simp; rfl)); intro gb347 hg w28 hbox hb; have n0_ := Aside0.mk (Kd.R_below (Kd.rup HO323.out) hb); have n1_ := Aside0.mk (Kd.R_below (Kd.rup HO329.out) hb); have n2_ := Aside0.mk (Kd.R_below (Kd.rup HO332.out) hb); have n3_ := Aside0.mk (Kd.R_below (Kd.rup HO340.out) hb); have n4_ := Aside0.mk (Kd.R_below (Kd.rup HO346.out) hb); have n5_ := Aside0.mk (blk_below (g := gb314) (o := .cells #[.int .i64 a0_0, .int .i64 a0_1, .int .i64 a0_2, .int .i64 a0_3, .float .f64 a0_4, .slice A0_5 l0_5.length c0_5, .int .i64 a0_6, .int .i64 a0_7, .float .f64 a0_8, .slice A0_9 l0_9.length c0_9] 45 (0, 0)) (bup BK314.out) hb); have n6_ := Aside0.mk (below_step (by with_reducible repeat (first | exact HB.out | refine h4 ?_ GE314.out | apply h1 | apply h2 | apply h3)) hb); have n7_ := Aside0.mk (hbox); have n8_ := Aside0.mk ((by rw [hg]; exact (below_size (by with_reducible repeat (first | exact HB.out | refine h4 ?_ GE314.out | apply h1 | apply h2 | apply h3))) : w.heap.size ≤ gb347)); have n9_ := Aside0.mk ((by rw [hg]; exact (below_size (by with_reducible repeat (first | exact HB.out | refine h4 ?_ GE314.out | apply h1 | apply h2 | apply h3))) : w.heap.size ≤ gb347)); have n10_ := Aside0.mk ((by rw [hg]; exact Nat.ne_of_lt (blk_lt (g := gb314) (o := .cells #[.int .i64 a0_0, .int .i64 a0_1, .int .i64 a0_2, .int .i64 a0_3, .float .f64 a0_4, .slice A0_5 l0_5.length c0_5, .int .i64 a0_6, .int .i64 a0_7, .float .f64 a0_8, .slice A0_9 l0_9.length c0_9] 45 (0, 0)) (bup BK314.out)) : gb314 ≠ gb347)); have n11_ := Aside0.mk ((by rw [hg]; exact Nat.ne_of_gt (blk_lt (g := gb314) (o := .cells #[.int .i64 a0_0, .int .i64 a0_1, .int .i64 a0_2, .int .i64 a0_3, .float .f64 a0_4, .slice A0_5 l0_5.length c0_5, .int .i64 a0_6, .int .i64 a0_7, .float .f64 a0_8, .slice A0_9 l0_9.length c0_9] 45 (0, 0)) (bup BK314.out)) : gb347 ≠ gb314)); clear HO323; clear HO329; clear HO332; clear HO340; clear HO346; clear BK314; clear HB; have HO323 := n0_; have HO329 := n1_; have HO332 := n2_; have HO340 := n3_; have HO346 := n4_; have BK314 := n5_; have HB := n6_; have BK347 := n7_; have GW347 := n8_; have GE347 := n9_; have NB314_347 := n10_; have NB347_314 := n11_; clear n0_ n1_ n2_ n3_ n4_ n5_ n6_ n7_ n8_ n9_ n10_ n11_; clear hb hbox hg; have hnb29 := NB347_314.out; have hnc29 := NB314_347.out; obtain ⟨hcz30_0, hcz30_1, hcz30_2, hcz30_3, hcz30_4, hcz30_5, hcz30_6, hcz30_7, hcz30_8, hcz30_9⟩ := blk_cells10 BK347.out; obtain ⟨hfz30_0, hfz30_1, hfz30_2, hfz30_3, hfz30_4, hfz30_5, hfz30_6, hfz30_7, hfz30_8, hfz30_9⟩ := blk_frozens10 BK347.out; obtain ⟨Ao31, co31, eo31⟩ := Kd.R_slice HO340.out; subst eo31; obtain ⟨Ao32, co32, eo32⟩ := Kd.R_slice HO346.out; subst eo32) | ((with_reducible refine gate_callee (f := 34) rfl ?_); refine goesL_ (some 22) rfl rfl Try.func34 (by kernel_rfl) rfl #[.agg #[.int .i64 t333, .int .i64 t334, .int .i64 t335, .int .i64 t336, .float .f64 t337, .slice Ao31 t338.length co31, .int .i64 t341, .int .i64 t342, .float .f64 t343, .slice Ao32 t344.length co32]] rfl (by (try simp only [List.map_toArray, List.map_cons, List.map_nil]); first | done | rfl) ?_; (with_reducible refine (impl_TupleBytes.calls k t333 t334 t335 t336 t337 _ _ t338 t341 t342 t343 _ _ t344 t348 _ ?side1 ?side2 ?side3 ?side4 A10.out).mono ?_); (case side1 => refine (Kd.R_reads' (e := 5) (base := w.heap.size) (ok := fun k_ => (((some k_ ≠ (.slice Ao32 t344.length co32 : Value).ownBlock ∧ some k_ ≠ (.slice Ao23 t321.length co23 : Value).ownBlock) ∧ some k_ ≠ (.slice Ao24 t327.length co24 : Value).ownBlock) ∧ some k_ ≠ (v331 : Value).ownBlock)) (n := t338.length) (c := co31) ?_).2.2; exact (by exact Kd.rup (Kd.R_mono (Kd.R_far (p := ⟨gb347, 9, none⟩) (Kd.R_far (p := ⟨gb347, 8, none⟩) (Kd.R_far (p := ⟨gb347, 7, none⟩) (Kd.R_far (p := ⟨gb347, 6, none⟩) (Kd.R_far (p := ⟨gb347, 5, none⟩) (Kd.R_far (p := ⟨gb347, 4, none⟩) (Kd.R_far (p := ⟨gb347, 3, none⟩) (Kd.R_far (p := ⟨gb347, 2, none⟩) (Kd.R_far (p := ⟨gb347, 1, none⟩) (Kd.R_far (p := ⟨gb347, 0, none⟩) (Kd.R_types HO340.out BK347.out (by decide)) (fun _ hk => hk.2) (.int .i64 t333)) (fun _ hk => hk.2) (.int .i64 t334)) (fun _ hk => hk.2) (.int .i64 t335)) (fun _ hk => hk.2) (.int .i64 t336)) (fun _ hk => hk.2) (.float .f64 t337)) (fun _ hk => hk.2) (.slice Ao31 t338.length co31)) (fun _ hk => hk.2) (.int .i64 t341)) (fun _ hk => hk.2) (.int .i64 t342)) (fun _ hk => hk.2) (.float .f64 t343)) (fun _ hk => hk.2) (.slice Ao32 t344.length co32)) (fun _ h_ => h_.1)))); (case side2 => exact (Kd.R_reads' HO340.out).2.1); (case side3 => refine (Kd.R_reads' (e := 5) (base := w.heap.size) (ok := fun k_ => (((some k_ ≠ (.slice Ao31 t338.length co31 : Value).ownBlock ∧ some k_ ≠ (.slice Ao23 t321.length co23 : Value).ownBlock) ∧ some k_ ≠ (.slice Ao24 t327.length co24 : Value).ownBlock) ∧ some k_ ≠ (v331 : Value).ownBlock)) (n := t344.length) (c := co32) ?_).2.2; exact (by exact Kd.rup (Kd.R_mono (Kd.R_far (p := ⟨gb347, 9, none⟩) (Kd.R_far (p := ⟨gb347, 8, none⟩) (Kd.R_far (p := ⟨gb347, 7, none⟩) (Kd.R_far (p := ⟨gb347, 6, none⟩) (Kd.R_far (p := ⟨gb347, 5, none⟩) (Kd.R_far (p := ⟨gb347, 4, none⟩) (Kd.R_far (p := ⟨gb347, 3, none⟩) (Kd.R_far (p := ⟨gb347, 2, none⟩) (Kd.R_far (p := ⟨gb347, 1, none⟩) (Kd.R_far (p := ⟨gb347, 0, none⟩) (Kd.R_types HO346.out BK347.out (by decide)) (fun _ hk => hk.2) (.int .i64 t333)) (fun _ hk => hk.2) (.int .i64 t334)) (fun _ hk => hk.2) (.int .i64 t335)) (fun _ hk => hk.2) (.int .i64 t336)) (fun _ hk => hk.2) (.float .f64 t337)) (fun _ hk => hk.2) (.slice Ao31 t338.length co31)) (fun _ hk => hk.2) (.int .i64 t341)) (fun _ hk => hk.2) (.int .i64 t342)) (fun _ hk => hk.2) (.float .f64 t343)) (fun _ hk => hk.2) (.slice Ao32 t344.length co32)) (fun _ h_ => h_.1)))); (case side4 => exact (Kd.R_reads' HO346.out).2.1); rintro e w33 ⟨v349, rfl, ho0, hb⟩; refine ⟨_, rfl, ?_⟩; have n0_ := Aside0.mk (Kd.R_elder' (by exact Kd.rup (Kd.R_mono (Kd.R_far (p := ⟨gb347, 9, none⟩) (Kd.R_far (p := ⟨gb347, 8, none⟩) (Kd.R_far (p := ⟨gb347, 7, none⟩) (Kd.R_far (p := ⟨gb347, 6, none⟩) (Kd.R_far (p := ⟨gb347, 5, none⟩) (Kd.R_far (p := ⟨gb347, 4, none⟩) (Kd.R_far (p := ⟨gb347, 3, none⟩) (Kd.R_far (p := ⟨gb347, 2, none⟩) (Kd.R_far (p := ⟨gb347, 1, none⟩) (Kd.R_far (p := ⟨gb347, 0, none⟩) (Kd.R_types HO323.out BK347.out (by decide)) (fun _ hk => hk.2) (.int .i64 t333)) (fun _ hk => hk.2) (.int .i64 t334)) (fun _ hk => hk.2) (.int .i64 t335)) (fun _ hk => hk.2) (.int .i64 t336)) (fun _ hk => hk.2) (.float .f64 t337)) (fun _ hk => hk.2) (.slice Ao31 t338.length co31)) (fun _ hk => hk.2) (.int .i64 t341)) (fun _ hk => hk.2) (.int .i64 t342)) (fun _ hk => hk.2) (.float .f64 t343)) (fun _ hk => hk.2) (.slice Ao32 t344.length co32)) (fun _ h_ => h_.1))) (Kd.R_base ho0) hb); have n1_ := Aside0.mk (Kd.R_elder' (by exact Kd.rup (Kd.R_mono (Kd.R_far (p := ⟨gb347, 9, none⟩) (Kd.R_far (p := ⟨gb347, 8, none⟩) (Kd.R_far (p := ⟨gb347, 7, none⟩) (Kd.R_far (p := ⟨gb347, 6, none⟩) (Kd.R_far (p := ⟨gb347, 5, none⟩) (Kd.R_far (p := ⟨gb347, 4, none⟩) (Kd.R_far (p := ⟨gb347, 3, none⟩) (Kd.R_far (p := ⟨gb347, 2, none⟩) (Kd.R_far (p := ⟨gb347, 1, none⟩) (Kd.R_far (p := ⟨gb347, 0, none⟩) (Kd.R_types HO329.out BK347.out (by decide)) (fun _ hk => hk.2) (.int .i64 t333)) (fun _ hk => hk.2) (.int .i64 t334)) (fun _ hk => hk.2) (.int .i64 t335)) (fun _ hk => hk.2) (.int .i64 t336)) (fun _ hk => hk.2) (.float .f64 t337)) (fun _ hk => hk.2) (.slice Ao31 t338.length co31)) (fun _ hk => hk.2) (.int .i64 t341)) (fun _ hk => hk.2) (.int .i64 t342)) (fun _ hk => hk.2) (.float .f64 t343)) (fun _ hk => hk.2) (.slice Ao32 t344.length co32)) (fun _ h_ => h_.1))) (Kd.R_base ho0) hb); have n2_ := Aside0.mk (Kd.R_elder' (by exact Kd.rup (Kd.R_mono (Kd.R_far (p := ⟨gb347, 9, none⟩) (Kd.R_far (p := ⟨gb347, 8, none⟩) (Kd.R_far (p := ⟨gb347, 7, none⟩) (Kd.R_far (p := ⟨gb347, 6, none⟩) (Kd.R_far (p := ⟨gb347, 5, none⟩) (Kd.R_far (p := ⟨gb347, 4, none⟩) (Kd.R_far (p := ⟨gb347, 3, none⟩) (Kd.R_far (p := ⟨gb347, 2, none⟩) (Kd.R_far (p := ⟨gb347, 1, none⟩) (Kd.R_far (p := ⟨gb347, 0, none⟩) (Kd.R_types HO332.out BK347.out (by decide)) (fun _ hk => hk.2) (.int .i64 t333)) (fun _ hk => hk.2) (.int .i64 t334)) (fun _ hk => hk.2) (.int .i64 t335)) (fun _ hk => hk.2) (.int .i64 t336)) (fun _ hk => hk.2) (.float .f64 t337)) (fun _ hk => hk.2) (.slice Ao31 t338.length co31)) (fun _ hk => hk.2) (.int .i64 t341)) (fun _ hk => hk.2) (.int .i64 t342)) (fun _ hk => hk.2) (.float .f64 t343)) (fun _ hk => hk.2) (.slice Ao32 t344.length co32)) (fun _ h_ => h_.1))) (Kd.R_base ho0) hb); have n3_ := Aside0.mk (Kd.R_elder' (by exact Kd.rup (Kd.R_mono (Kd.R_far (p := ⟨gb347, 9, none⟩) (Kd.R_far (p := ⟨gb347, 8, none⟩) (Kd.R_far (p := ⟨gb347, 7, none⟩) (Kd.R_far (p := ⟨gb347, 6, none⟩) (Kd.R_far (p := ⟨gb347, 5, none⟩) (Kd.R_far (p := ⟨gb347, 4, none⟩) (Kd.R_far (p := ⟨gb347, 3, none⟩) (Kd.R_far (p := ⟨gb347, 2, none⟩) (Kd.R_far (p := ⟨gb347, 1, none⟩) (Kd.R_far (p := ⟨gb347, 0, none⟩) (Kd.R_types HO340.out BK347.out (by decide)) (fun _ hk => hk.2) (.int .i64 t333)) (fun _ hk => hk.2) (.int .i64 t334)) (fun _ hk => hk.2) (.int .i64 t335)) (fun _ hk => hk.2) (.int .i64 t336)) (fun _ hk => hk.2) (.float .f64 t337)) (fun _ hk => hk.2) (.slice Ao31 t338.length co31)) (fun _ hk => hk.2) (.int .i64 t341)) (fun _ hk => hk.2) (.int .i64 t342)) (fun _ hk => hk.2) (.float .f64 t343)) (fun _ hk => hk.2) (.slice Ao32 t344.length co32)) (fun _ h_ => h_.1))) (Kd.R_base ho0) hb); have n4_ := Aside0.mk (Kd.R_elder' (by exact Kd.rup (Kd.R_mono (Kd.R_far (p := ⟨gb347, 9, none⟩) (Kd.R_far (p := ⟨gb347, 8, none⟩) (Kd.R_far (p := ⟨gb347, 7, none⟩) (Kd.R_far (p := ⟨gb347, 6, none⟩) (Kd.R_far (p := ⟨gb347, 5, none⟩) (Kd.R_far (p := ⟨gb347, 4, none⟩) (Kd.R_far (p := ⟨gb347, 3, none⟩) (Kd.R_far (p := ⟨gb347, 2, none⟩) (Kd.R_far (p := ⟨gb347, 1, none⟩) (Kd.R_far (p := ⟨gb347, 0, none⟩) (Kd.R_types HO346.out BK347.out (by decide)) (fun _ hk => hk.2) (.int .i64 t333)) (fun _ hk => hk.2) (.int .i64 t334)) (fun _ hk => hk.2) (.int .i64 t335)) (fun _ hk => hk.2) (.int .i64 t336)) (fun _ hk => hk.2) (.float .f64 t337)) (fun _ hk => hk.2) (.slice Ao31 t338.length co31)) (fun _ hk => hk.2) (.int .i64 t341)) (fun _ hk => hk.2) (.int .i64 t342)) (fun _ hk => hk.2) (.float .f64 t343)) (fun _ hk => hk.2) (.slice Ao32 t344.length co32)) (fun _ h_ => h_.1))) (Kd.R_base ho0) hb); have n5_ := Aside0.mk (Kd.R_lower (Kd.R_new' (Kd.R_new' (Kd.R_new' (Kd.R_new' (Kd.R_new' ho0 (Kd.R_lt (by exact Kd.rup (Kd.R_mono (Kd.R_far (p := ⟨gb347, 9, none⟩) (Kd.R_far (p := ⟨gb347, 8, none⟩) (Kd.R_far (p := ⟨gb347, 7, none⟩) (Kd.R_far (p := ⟨gb347, 6, none⟩) (Kd.R_far (p := ⟨gb347, 5, none⟩) (Kd.R_far (p := ⟨gb347, 4, none⟩) (Kd.R_far (p := ⟨gb347, 3, none⟩) (Kd.R_far (p := ⟨gb347, 2, none⟩) (Kd.R_far (p := ⟨gb347, 1, none⟩) (Kd.R_far (p := ⟨gb347, 0, none⟩) (Kd.R_types HO323.out BK347.out (by decide)) (fun _ hk => hk.2) (.int .i64 t333)) (fun _ hk => hk.2) (.int .i64 t334)) (fun _ hk => hk.2) (.int .i64 t335)) (fun _ hk => hk.2) (.int .i64 t336)) (fun _ hk => hk.2) (.float .f64 t337)) (fun _ hk => hk.2) (.slice Ao31 t338.length co31)) (fun _ hk => hk.2) (.int .i64 t341)) (fun _ hk => hk.2) (.int .i64 t342)) (fun _ hk => hk.2) (.float .f64 t343)) (fun _ hk => hk.2) (.slice Ao32 t344.length co32)) (fun _ h_ => h_.1))))) (Kd.R_lt (by exact Kd.rup (Kd.R_mono (Kd.R_far (p := ⟨gb347, 9, none⟩) (Kd.R_far (p := ⟨gb347, 8, none⟩) (Kd.R_far (p := ⟨gb347, 7, none⟩) (Kd.R_far (p := ⟨gb347, 6, none⟩) (Kd.R_far (p := ⟨gb347, 5, none⟩) (Kd.R_far (p := ⟨gb347, 4, none⟩) (Kd.R_far (p := ⟨gb347, 3, none⟩) (Kd.R_far (p := ⟨gb347, 2, none⟩) (Kd.R_far (p := ⟨gb347, 1, none⟩) (Kd.R_far (p := ⟨gb347, 0, none⟩) (Kd.R_types HO329.out BK347.out (by decide)) (fun _ hk => hk.2) (.int .i64 t333)) (fun _ hk => hk.2) (.int .i64 t334)) (fun _ hk => hk.2) (.int .i64 t335)) (fun _ hk => hk.2) (.int .i64 t336)) (fun _ hk => hk.2) (.float .f64 t337)) (fun _ hk => hk.2) (.slice Ao31 t338.length co31)) (fun _ hk => hk.2) (.int .i64 t341)) (fun _ hk => hk.2) (.int .i64 t342)) (fun _ hk => hk.2) (.float .f64 t343)) (fun _ hk => hk.2) (.slice Ao32 t344.length co32)) (fun _ h_ => h_.1))))) (Kd.R_lt (by exact Kd.rup (Kd.R_mono (Kd.R_far (p := ⟨gb347, 9, none⟩) (Kd.R_far (p := ⟨gb347, 8, none⟩) (Kd.R_far (p := ⟨gb347, 7, none⟩) (Kd.R_far (p := ⟨gb347, 6, none⟩) (Kd.R_far (p := ⟨gb347, 5, none⟩) (Kd.R_far (p := ⟨gb347, 4, none⟩) (Kd.R_far (p := ⟨gb347, 3, none⟩) (Kd.R_far (p := ⟨gb347, 2, none⟩) (Kd.R_far (p := ⟨gb347, 1, none⟩) (Kd.R_far (p := ⟨gb347, 0, none⟩) (Kd.R_types HO332.out BK347.out (by decide)) (fun _ hk => hk.2) (.int .i64 t333)) (fun _ hk => hk.2) (.int .i64 t334)) (fun _ hk => hk.2) (.int .i64 t335)) (fun _ hk => hk.2) (.int .i64 t336)) (fun _ hk => hk.2) (.float .f64 t337)) (fun _ hk => hk.2) (.slice Ao31 t338.length co31)) (fun _ hk => hk.2) (.int .i64 t341)) (fun _ hk => hk.2) (.int .i64 t342)) (fun _ hk => hk.2) (.float .f64 t343)) (fun _ hk => hk.2) (.slice Ao32 t344.length co32)) (fun _ h_ => h_.1))))) (Kd.R_lt (by exact Kd.rup (Kd.R_mono (Kd.R_far (p := ⟨gb347, 9, none⟩) (Kd.R_far (p := ⟨gb347, 8, none⟩) (Kd.R_far (p := ⟨gb347, 7, none⟩) (Kd.R_far (p := ⟨gb347, 6, none⟩) (Kd.R_far (p := ⟨gb347, 5, none⟩) (Kd.R_far (p := ⟨gb347, 4, none⟩) (Kd.R_far (p := ⟨gb347, 3, none⟩) (Kd.R_far (p := ⟨gb347, 2, none⟩) (Kd.R_far (p := ⟨gb347, 1, none⟩) (Kd.R_far (p := ⟨gb347, 0, none⟩) (Kd.R_types HO340.out BK347.out (by decide)) (fun _ hk => hk.2) (.int .i64 t333)) (fun _ hk => hk.2) (.int .i64 t334)) (fun _ hk => hk.2) (.int .i64 t335)) (fun _ hk => hk.2) (.int .i64 t336)) (fun _ hk => hk.2) (.float .f64 t337)) (fun _ hk => hk.2) (.slice Ao31 t338.length co31)) (fun _ hk => hk.2) (.int .i64 t341)) (fun _ hk => hk.2) (.int .i64 t342)) (fun _ hk => hk.2) (.float .f64 t343)) (fun _ hk => hk.2) (.slice Ao32 t344.length co32)) (fun _ h_ => h_.1))))) (Kd.R_lt (by exact Kd.rup (Kd.R_mono (Kd.R_far (p := ⟨gb347, 9, none⟩) (Kd.R_far (p := ⟨gb347, 8, none⟩) (Kd.R_far (p := ⟨gb347, 7, none⟩) (Kd.R_far (p := ⟨gb347, 6, none⟩) (Kd.R_far (p := ⟨gb347, 5, none⟩) (Kd.R_far (p := ⟨gb347, 4, none⟩) (Kd.R_far (p := ⟨gb347, 3, none⟩) (Kd.R_far (p := ⟨gb347, 2, none⟩) (Kd.R_far (p := ⟨gb347, 1, none⟩) (Kd.R_far (p := ⟨gb347, 0, none⟩) (Kd.R_types HO346.out BK347.out (by decide)) (fun _ hk => hk.2) (.int .i64 t333)) (fun _ hk => hk.2) (.int .i64 t334)) (fun _ hk => hk.2) (.int .i64 t335)) (fun _ hk => hk.2) (.int .i64 t336)) (fun _ hk => hk.2) (.float .f64 t337)) (fun _ hk => hk.2) (.slice Ao31 t338.length co31)) (fun _ hk => hk.2) (.int .i64 t341)) (fun _ hk => hk.2) (.int .i64 t342)) (fun _ hk => hk.2) (.float .f64 t343)) (fun _ hk => hk.2) (.slice Ao32 t344.length co32)) (fun _ h_ => h_.1))))) (below_size (by with_reducible repeat (first | exact HB.out | refine h4 ?_ GE314.out | refine h4 ?_ GE347.out | apply h1 | apply h2 | apply h3)))); have n6_ := Aside0.mk (blk_below (g := gb314) (o := .cells #[.int .i64 a0_0, .int .i64 a0_1, .int .i64 a0_2, .int .i64 a0_3, .float .f64 a0_4, .slice A0_5 l0_5.length c0_5, .int .i64 a0_6, .int .i64 a0_7, .float .f64 a0_8, .slice A0_9 l0_9.length c0_9] 45 (0, 0)) (by (with_reducible repeat (first | refine b1 ?_ _ | refine b2 ?_ | refine b3 ?_ _)); refine blk_far ?_ NB314_347.out _; (with_reducible repeat (first | refine b1 ?_ _ | refine b2 ?_ | refine b3 ?_ _)); refine blk_far ?_ NB314_347.out _; (with_reducible repeat (first | refine b1 ?_ _ | refine b2 ?_ | refine b3 ?_ _)); refine blk_far ?_ NB314_347.out _; (with_reducible repeat (first | refine b1 ?_ _ | refine b2 ?_ | refine b3 ?_ _)); refine blk_far ?_ NB314_347.out _; (with_reducible repeat (first | refine b1 ?_ _ | refine b2 ?_ | refine b3 ?_ _)); refine blk_far ?_ NB314_347.out _; (with_reducible repeat (first | refine b1 ?_ _ | refine b2 ?_ | refine b3 ?_ _)); refine blk_far ?_ NB314_347.out _; (with_reducible repeat (first | refine b1 ?_ _ | refine b2 ?_ | refine b3 ?_ _)); refine blk_far ?_ NB314_347.out _; (with_reducible repeat (first | refine b1 ?_ _ | refine b2 ?_ | refine b3 ?_ _)); refine blk_far ?_ NB314_347.out _; (with_reducible repeat (first | refine b1 ?_ _ | refine b2 ?_ | refine b3 ?_ _)); refine blk_far ?_ NB314_347.out _; (with_reducible repeat (first | refine b1 ?_ _ | refine b2 ?_ | refine b3 ?_ _)); refine blk_far ?_ NB314_347.out _; exact bup BK314.out) hb); have n7_ := Aside0.mk (blk_below (g := gb347) (o := .cells #[.int .i64 t333, .int .i64 t334, .int .i64 t335, .int .i64 t336, .float .f64 t337, .slice Ao31 t338.length co31, .int .i64 t341, .int .i64 t342, .float .f64 t343, .slice Ao32 t344.length co32] 49 (0, 0)) (by (with_reducible repeat (first | refine b1 ?_ _ | refine b2 ?_ | refine b3 ?_ _)); refine blk_put (cs := #[.int .i64 t333, .int .i64 t334, .int .i64 t335, .int .i64 t336, .float .f64 t337, .slice Ao31 t338.length co31, .int .i64 t341, .int .i64 t342, .float .f64 t343, .slice none 0 0]) ?_ 9 _ rfl; (with_reducible repeat (first | refine b1 ?_ _ | refine b2 ?_ | refine b3 ?_ _)); refine blk_put (cs := #[.int .i64 t333, .int .i64 t334, .int .i64 t335, .int .i64 t336, .float .f64 t337, .slice Ao31 t338.length co31, .int .i64 t341, .int .i64 t342, .float .f64 0, .slice none 0 0]) ?_ 8 _ rfl; (with_reducible repeat (first | refine b1 ?_ _ | refine b2 ?_ | refine b3 ?_ _)); refine blk_put (cs := #[.int .i64 t333, .int .i64 t334, .int .i64 t335, .int .i64 t336, .float .f64 t337, .slice Ao31 t338.length co31, .int .i64 t341, .int .i64 0, .float .f64 0, .slice none 0 0]) ?_ 7 _ rfl; (with_reducible repeat (first | refine b1 ?_ _ | refine b2 ?_ | refine b3 ?_ _)); refine blk_put (cs := #[.int .i64 t333, .int .i64 t334, .int .i64 t335, .int .i64 t336, .float .f64 t337, .slice Ao31 t338.length co31, .int .i64 0, .int .i64 0, .float .f64 0, .slice none 0 0]) ?_ 6 _ rfl; (with_reducible repeat (first | refine b1 ?_ _ | refine b2 ?_ | refine b3 ?_ _)); refine blk_put (cs := #[.int .i64 t333, .int .i64 t334, .int .i64 t335, .int .i64 t336, .float .f64 t337, .slice none 0 0, .int .i64 0, .int .i64 0, .float .f64 0, .slice none 0 0]) ?_ 5 _ rfl; (with_reducible repeat (first | refine b1 ?_ _ | refine b2 ?_ | refine b3 ?_ _)); refine blk_put (cs := #[.int .i64 t333, .int .i64 t334, .int .i64 t335, .int .i64 t336, .float .f64 0, .slice none 0 0, .int .i64 0, .int .i64 0, .float .f64 0, .slice none 0 0]) ?_ 4 _ rfl; (with_reducible repeat (first | refine b1 ?_ _ | refine b2 ?_ | refine b3 ?_ _)); refine blk_put (cs := #[.int .i64 t333, .int .i64 t334, .int .i64 t335, .int .i64 0, .float .f64 0, .slice none 0 0, .int .i64 0, .int .i64 0, .float .f64 0, .slice none 0 0]) ?_ 3 _ rfl; (with_reducible repeat (first | refine b1 ?_ _ | refine b2 ?_ | refine b3 ?_ _)); refine blk_put (cs := #[.int .i64 t333, .int .i64 t334, .int .i64 0, .int .i64 0, .float .f64 0, .slice none 0 0, .int .i64 0, .int .i64 0, .float .f64 0, .slice none 0 0]) ?_ 2 _ rfl; (with_reducible repeat (first | refine b1 ?_ _ | refine b2 ?_ | refine b3 ?_ _)); refine blk_put (cs := #[.int .i64 t333, .int .i64 0, .int .i64 0, .int .i64 0, .float .f64 0, .slice none 0 0, .int .i64 0, .int .i64 0, .float .f64 0, .slice none 0 0]) ?_ 1 _ rfl; (with_reducible repeat (first | refine b1 ?_ _ | refine b2 ?_ | refine b3 ?_ _)); refine blk_put (cs := #[.int .i64 0, .int .i64 0, .int .i64 0, .int .i64 0, .float .f64 0, .slice none 0 0, .int .i64 0, .int .i64 0, .float .f64 0, .slice none 0 0]) ?_ 0 _ rfl; exact bup BK347.out) hb); have n8_ := Aside0.mk (below_step (by with_reducible repeat (first | exact HB.out | refine h4 ?_ GE314.out | refine h4 ?_ GE347.out | apply h1 | apply h2 | apply h3)) hb); clear HO323; clear HO329; clear HO332; clear HO340; clear HO346; clear BK314; clear BK347; clear HB; have HO323 := n0_; have HO329 := n1_; have HO332 := n2_; have HO340 := n3_; have HO346 := n4_; have HO350 := n5_; have BK314 := n6_; have BK347 := n7_; have HB := n8_; clear n0_ n1_ n2_ n3_ n4_ n5_ n6_ n7_ n8_; (try clear hb); (try clear hb2); (try clear hk); (try clear hi); (try clear ho0); obtain ⟨Ao34, co34, eo34⟩ := Kd.R_slice HO350.out; subst eo34; obtain ⟨Ao35, co35, eo35⟩ := Kd.R_slice HO332.out; subst eo35) | ((with_reducible refine gate_callee (f := 13) rfl ?_); refine goesL_ (some 25) rfl rfl Try.func13 (by kernel_rfl) rfl #[.slice Ao34 t348.length co34, .slice Ao35 t330.length co35] rfl (by (try simp only [List.map_toArray, List.map_cons, List.map_nil]); first | done | rfl) ?_; (with_reducible refine (laws_eqByteS.calls k _ _ t348 _ _ t330 true _ ?side1 ?side2 ?side3 ?side4 A11.out).mono ?_); (case side1 => repeat (first | exact (Kd.R_reads' HO350.out).2.2 | (with_reducible refine Kd.C_alloc ?_ _) | (with_reducible refine Kd.C_drewN ?_ _) | (with_reducible refine Kd.C_drew ?_))); (case side2 => exact (Kd.R_reads' HO350.out).2.1); (case side3 => repeat (first | exact (Kd.R_reads' HO332.out).2.2 | (with_reducible refine Kd.C_alloc ?_ _) | (with_reducible refine Kd.C_drewN ?_ _) | (with_reducible refine Kd.C_drew ?_))); (case side4 => exact (Kd.R_reads' HO332.out).2.1); rintro e w' ⟨rfl, ⟨nd, rfl⟩⟩; refine ⟨_, rfl, ?_⟩))
    (try (rw [drewN_self w33]; generalize hq_ : World.drewN w33 _ = w33; have n0_ : Aside0 (Kd.R (Kd.int .u8) 5 w33 w.heap.size (fun k_ => ((((some k_ ≠ (.slice Ao24 t327.length co24 : Value).ownBlock ∧ some k_ ≠ (.slice Ao35 t330.length co35 : Value).ownBlock) ∧ some k_ ≠ (.slice Ao31 t338.length co31 : Value).ownBlock) ∧ some k_ ≠ (.slice Ao32 t344.length co32 : Value).ownBlock) ∧ some k_ ≠ (.slice Ao34 t348.length co34 : Value).ownBlock)) (.slice Ao23 t321.length co23) t321) := ⟨by rw [← hq_]; exact (Kd.rup HO323.out)⟩; have n1_ : Aside0 (Kd.R (Kd.int .u8) 5 w33 w.heap.size (fun k_ => ((((some k_ ≠ (.slice Ao23 t321.length co23 : Value).ownBlock ∧ some k_ ≠ (.slice Ao35 t330.length co35 : Value).ownBlock) ∧ some k_ ≠ (.slice Ao31 t338.length co31 : Value).ownBlock) ∧ some k_ ≠ (.slice Ao32 t344.length co32 : Value).ownBlock) ∧ some k_ ≠ (.slice Ao34 t348.length co34 : Value).ownBlock)) (.slice Ao24 t327.length co24) t327) := ⟨by rw [← hq_]; exact (Kd.rup HO329.out)⟩; have n2_ : Aside0 (Kd.R (Kd.int .u8) 5 w33 w.heap.size (fun k_ => (((((True ∧ some k_ ≠ (.slice Ao23 t321.length co23 : Value).ownBlock) ∧ some k_ ≠ (.slice Ao24 t327.length co24 : Value).ownBlock) ∧ some k_ ≠ (.slice Ao31 t338.length co31 : Value).ownBlock) ∧ some k_ ≠ (.slice Ao32 t344.length co32 : Value).ownBlock) ∧ some k_ ≠ (.slice Ao34 t348.length co34 : Value).ownBlock)) (.slice Ao35 t330.length co35) t330) := ⟨by rw [← hq_]; exact (Kd.rup HO332.out)⟩; have n3_ : Aside0 (Kd.R (Kd.int .u8) 5 w33 w.heap.size (fun k_ => ((((some k_ ≠ (.slice Ao32 t344.length co32 : Value).ownBlock ∧ some k_ ≠ (.slice Ao23 t321.length co23 : Value).ownBlock) ∧ some k_ ≠ (.slice Ao24 t327.length co24 : Value).ownBlock) ∧ some k_ ≠ (.slice Ao35 t330.length co35 : Value).ownBlock) ∧ some k_ ≠ (.slice Ao34 t348.length co34 : Value).ownBlock)) (.slice Ao31 t338.length co31) t338) := ⟨by rw [← hq_]; exact (Kd.rup HO340.out)⟩; have n4_ : Aside0 (Kd.R (Kd.int .u8) 5 w33 w.heap.size (fun k_ => ((((some k_ ≠ (.slice Ao31 t338.length co31 : Value).ownBlock ∧ some k_ ≠ (.slice Ao23 t321.length co23 : Value).ownBlock) ∧ some k_ ≠ (.slice Ao24 t327.length co24 : Value).ownBlock) ∧ some k_ ≠ (.slice Ao35 t330.length co35 : Value).ownBlock) ∧ some k_ ≠ (.slice Ao34 t348.length co34 : Value).ownBlock)) (.slice Ao32 t344.length co32) t344) := ⟨by rw [← hq_]; exact (Kd.rup HO346.out)⟩; have n5_ : Aside0 (Kd.R (Kd.int .u8) 5 w33 w.heap.size (fun k_ => (((((True ∧ some k_ ≠ (.slice Ao23 t321.length co23 : Value).ownBlock) ∧ some k_ ≠ (.slice Ao24 t327.length co24 : Value).ownBlock) ∧ some k_ ≠ (.slice Ao35 t330.length co35 : Value).ownBlock) ∧ some k_ ≠ (.slice Ao31 t338.length co31 : Value).ownBlock) ∧ some k_ ≠ (.slice Ao32 t344.length co32 : Value).ownBlock)) (.slice Ao34 t348.length co34) t348) := ⟨by rw [← hq_]; exact (Kd.rup HO350.out)⟩; have n6_ : Aside0 (w33.heap[gb314]? = some (.cells #[.int .i64 a0_0, .int .i64 a0_1, .int .i64 a0_2, .int .i64 a0_3, .float .f64 a0_4, .slice A0_5 l0_5.length c0_5, .int .i64 a0_6, .int .i64 a0_7, .float .f64 a0_8, .slice A0_9 l0_9.length c0_9] 45 (0, 0))) := ⟨by rw [← hq_]; exact (bup BK314.out)⟩; have n7_ : Aside0 (w33.heap[gb347]? = some (.cells #[.int .i64 t333, .int .i64 t334, .int .i64 t335, .int .i64 t336, .float .f64 t337, .slice Ao31 t338.length co31, .int .i64 t341, .int .i64 t342, .float .f64 t343, .slice Ao32 t344.length co32] 49 (0, 0))) := ⟨by rw [← hq_]; exact (bup BK347.out)⟩; have n8_ : Aside0 (Below w.heap.size w w33) := ⟨by rw [← hq_]; exact (by with_reducible repeat (first | exact HB.out | refine h4 ?_ GE314.out | refine h4 ?_ GE347.out | apply h1 | apply h2 | apply h3))⟩; clear HO323 HO329 HO332 HO340 HO346 HO350 BK314 BK347 HB hq_; have HO323 := n0_; have HO329 := n1_; have HO332 := n2_; have HO340 := n3_; have HO346 := n4_; have HO350 := n5_; have BK314 := n6_; have BK347 := n7_; have HB := n8_; clear n0_ n1_ n2_ n3_ n4_ n5_ n6_ n7_ n8_))
    have n0_ := Aside0.mk (Kd.R_drew HO323.out)
    have n1_ := Aside0.mk (Kd.R_drew HO329.out)
    have n2_ := Aside0.mk (Kd.R_drew HO332.out)
    have n3_ := Aside0.mk (Kd.R_drew HO340.out)
    have n4_ := Aside0.mk (Kd.R_drew HO346.out)
    have n5_ := Aside0.mk (Kd.R_drew HO350.out)
    have n6_ := Aside0.mk (blk_drew BK314.out)
    have n7_ := Aside0.mk (blk_drew BK347.out)
    have n8_ := Aside0.mk (below_drew1 HB.out)
    clear HO323
    clear HO329
    clear HO332
    clear HO340
    clear HO346
    clear HO350
    clear BK314
    clear BK347
    clear HB
    have HO323 := n0_
    have HO329 := n1_
    have HO332 := n2_
    have HO340 := n3_
    have HO346 := n4_
    have HO350 := n5_
    have BK314 := n6_
    have BK347 := n7_
    have HB := n8_
    clear n0_ n1_ n2_ n3_ n4_ n5_ n6_ n7_ n8_
    refine start_ (n := 5) (S := fun w' => w'.cell? ⟨gb347, 0, none⟩ = some (.int .i64 t333) ∧ w'.cell? ⟨gb347, 1, none⟩ = some (.int .i64 t334) ∧ w'.cell? ⟨gb347, 2, none⟩ = some (.int .i64 t335) ∧ w'.cell? ⟨gb347, 3, none⟩ = some (.int .i64 t336) ∧ w'.cell? ⟨gb347, 4, none⟩ = some (.float .f64 t337) ∧ w'.cell? ⟨gb347, 5, none⟩ = some (.slice Ao31 t338.length co31) ∧ w'.cell? ⟨gb347, 6, none⟩ = some (.int .i64 t341) ∧ w'.cell? ⟨gb347, 7, none⟩ = some (.int .i64 t342) ∧ w'.cell? ⟨gb347, 8, none⟩ = some (.float .f64 t343) ∧ w'.cell? ⟨gb347, 9, none⟩ = some (.slice Ao32 t344.length co32) ∧ w'.cell? ⟨gb314, 0, none⟩ = some (.int .i64 a0_0) ∧ w'.cell? ⟨gb314, 1, none⟩ = some (.int .i64 a0_1) ∧ w'.cell? ⟨gb314, 2, none⟩ = some (.int .i64 a0_2) ∧ w'.cell? ⟨gb314, 3, none⟩ = some (.int .i64 a0_3) ∧ w'.cell? ⟨gb314, 4, none⟩ = some (.float .f64 a0_4) ∧ w'.cell? ⟨gb314, 5, none⟩ = some (.slice A0_5 l0_5.length c0_5) ∧ w'.cell? ⟨gb314, 6, none⟩ = some (.int .i64 a0_6) ∧ w'.cell? ⟨gb314, 7, none⟩ = some (.int .i64 a0_7) ∧ w'.cell? ⟨gb314, 8, none⟩ = some (.float .f64 a0_8) ∧ w'.cell? ⟨gb314, 9, none⟩ = some (.slice A0_9 l0_9.length c0_9)) (ds := []) #[false, false, false, false, false] (by kernel_rfl) rfl rfl ⟨(blk_cell BK347.out 0).trans rfl, (blk_cell BK347.out 1).trans rfl, (blk_cell BK347.out 2).trans rfl, (blk_cell BK347.out 3).trans rfl, (blk_cell BK347.out 4).trans rfl, (blk_cell BK347.out 5).trans rfl, (blk_cell BK347.out 6).trans rfl, (blk_cell BK347.out 7).trans rfl, (blk_cell BK347.out 8).trans rfl, (blk_cell BK347.out 9).trans rfl, (blk_cell BK314.out 0).trans rfl, (blk_cell BK314.out 1).trans rfl, (blk_cell BK314.out 2).trans rfl, (blk_cell BK314.out 3).trans rfl, (blk_cell BK314.out 4).trans rfl, (blk_cell BK314.out 5).trans rfl, (blk_cell BK314.out 6).trans rfl, (blk_cell BK314.out 7).trans rfl, (blk_cell BK314.out 8).trans rfl, (blk_cell BK314.out 9).trans rfl⟩ (fun hHeld => ?_)
    generalize w33.drew = w36 at HO323 HO329 HO332 HO340 HO346 HO350 BK314 BK347 HB hHeld ⊢
    refine take_ (i := 0) (N := some 27) (v := ?_) (a' := ?_) #[true, false, false, false, false] rfl rfl (by kernel_rfl) (fun _ _ _ h => h) (Or.inl ⟨by rfl, ?_⟩) hHeld ?_ ?_
    rotate_left
    ·rintro w' ⟨s0, s1, s2, s3, s4, s5, s6, s7, s8, s9, s10, s11, s12, s13, s14, s15, s16, s17, s18, s19⟩
     go_simp
     with_reducible rfl
    rotate_left
    ·simp only [Act.put, List.setIfInBounds_toArray, List.set_cons_zero, List.set_cons_succ, i64_w, i32_w]
     rfl
    refine take_ (i := 1) (N := some 28) (v := ?_) (a' := ?_) #[true, true, false, false, false] rfl rfl (by kernel_rfl) (fun _ _ _ h => h) (Or.inl ⟨by rfl, ?_⟩) hHeld ?_ ?_
    rotate_left
    ·rintro w' ⟨s0, s1, s2, s3, s4, s5, s6, s7, s8, s9, s10, s11, s12, s13, s14, s15, s16, s17, s18, s19⟩
     go_simp
     with_reducible rfl
    rotate_left
    ·simp only [Act.put, List.setIfInBounds_toArray, List.set_cons_zero, List.set_cons_succ, i64_w, i32_w]
     rfl
    refine one_ (i := 2) (N := some 29) #[true, true, true, false, false] rfl rfl (by kernel_rfl) (by decide) (fun K hK => ?_)
    refine goes_ Try.func33 (by kernel_rfl) rfl #[.agg #[.int .i64 a0_0, .int .i64 a0_1, .int .i64 a0_2, .int .i64 a0_3, .float .f64 a0_4, .slice A0_5 l0_5.length c0_5, .int .i64 a0_6, .int .i64 a0_7, .float .f64 a0_8, .slice A0_9 l0_9.length c0_9]] (by rfl) rfl rfl (by (try simp only [List.map_toArray, List.map_cons, List.map_nil]); first | done | rfl) ?_
    with_reducible refine (laws_toTuple.calls k a0_0 a0_1 a0_2 a0_3 a0_4 _ _ l0_5 a0_6 a0_7 a0_8 _ _ l0_9 t352 t353 t354 t355 t356 t357 t360 t361 t362 t363 _ ?side1 ?side2 ?side3 ?side4 A13.out).mono ?_
    (case side1 => repeat (first | exact (Kd.C_below HR0_5.out HB.out) | (with_reducible refine Kd.C_alloc ?_ _) | (with_reducible refine Kd.C_drewN ?_ _) | (with_reducible refine Kd.C_drew ?_)))
    (case side2 => exact HC0_5.out)
    (case side3 => repeat (first | exact (Kd.C_below HR0_9.out HB.out) | (with_reducible refine Kd.C_alloc ?_ _) | (with_reducible refine Kd.C_drewN ?_ _) | (with_reducible refine Kd.C_drew ?_)))
    (case side4 => exact HC0_9.out)
    rintro e w37 ⟨v358, v364, rfl, ho0, ho1, hb⟩
    refine ⟨_, rfl, ?_⟩
    have n0_ := Aside0.mk (Kd.R_mono (Kd.R_told (Kd.R_told (Kd.R_old (Kd.rup HO323.out) hb) (Kd.R_base ho0)) (Kd.R_base ho1)) (fun _ h_ => h_.1))
    have n1_ := Aside0.mk (Kd.R_mono (Kd.R_told (Kd.R_told (Kd.R_old (Kd.rup HO329.out) hb) (Kd.R_base ho0)) (Kd.R_base ho1)) (fun _ h_ => h_.1))
    have n2_ := Aside0.mk (Kd.R_mono (Kd.R_told (Kd.R_told (Kd.R_old (Kd.rup HO332.out) hb) (Kd.R_base ho0)) (Kd.R_base ho1)) (fun _ h_ => h_.1))
    have n3_ := Aside0.mk (Kd.R_mono (Kd.R_told (Kd.R_told (Kd.R_old (Kd.rup HO340.out) hb) (Kd.R_base ho0)) (Kd.R_base ho1)) (fun _ h_ => h_.1))
    have n4_ := Aside0.mk (Kd.R_mono (Kd.R_told (Kd.R_told (Kd.R_old (Kd.rup HO346.out) hb) (Kd.R_base ho0)) (Kd.R_base ho1)) (fun _ h_ => h_.1))
    have n5_ := Aside0.mk (Kd.R_mono (Kd.R_told (Kd.R_told (Kd.R_old (Kd.rup HO350.out) hb) (Kd.R_base ho0)) (Kd.R_base ho1)) (fun _ h_ => h_.1))
    have n6_ := Aside0.mk (Kd.R_lower (Kd.R_new' (Kd.R_new' (Kd.R_new' (Kd.R_new' (Kd.R_new' (Kd.R_new' ho0 (Kd.R_lt (Kd.rup HO323.out))) (Kd.R_lt (Kd.rup HO329.out))) (Kd.R_lt (Kd.rup HO332.out))) (Kd.R_lt (Kd.rup HO340.out))) (Kd.R_lt (Kd.rup HO346.out))) (Kd.R_lt (Kd.rup HO350.out))) (below_size (by with_reducible repeat (first | exact HB.out | refine h4 ?_ GE314.out | refine h4 ?_ GE347.out | apply h1 | apply h2 | apply h3))))
    have n7_ := Aside0.mk (Kd.R_lower (Kd.R_new' (Kd.R_new' (Kd.R_new' (Kd.R_new' (Kd.R_new' (Kd.R_new' ho1 (Kd.R_lt (Kd.rup HO323.out))) (Kd.R_lt (Kd.rup HO329.out))) (Kd.R_lt (Kd.rup HO332.out))) (Kd.R_lt (Kd.rup HO340.out))) (Kd.R_lt (Kd.rup HO346.out))) (Kd.R_lt (Kd.rup HO350.out))) (below_size (by with_reducible repeat (first | exact HB.out | refine h4 ?_ GE314.out | refine h4 ?_ GE347.out | apply h1 | apply h2 | apply h3))))
    have n8_ := Aside0.mk (blk_below (g := gb314) (o := .cells #[.int .i64 a0_0, .int .i64 a0_1, .int .i64 a0_2, .int .i64 a0_3, .float .f64 a0_4, .slice A0_5 l0_5.length c0_5, .int .i64 a0_6, .int .i64 a0_7, .float .f64 a0_8, .slice A0_9 l0_9.length c0_9] 45 (0, 0)) (bup BK314.out) hb)
    have n9_ := Aside0.mk (blk_below (g := gb347) (o := .cells #[.int .i64 t333, .int .i64 t334, .int .i64 t335, .int .i64 t336, .float .f64 t337, .slice Ao31 t338.length co31, .int .i64 t341, .int .i64 t342, .float .f64 t343, .slice Ao32 t344.length co32] 49 (0, 0)) (bup BK347.out) hb)
    have n10_ := Aside0.mk (below_step (by with_reducible repeat (first | exact HB.out | refine h4 ?_ GE314.out | refine h4 ?_ GE347.out | apply h1 | apply h2 | apply h3)) hb)
    clear HO323
    clear HO329
    clear HO332
    clear HO340
    clear HO346
    clear HO350
    clear BK314
    clear BK347
    clear HB
    have HO323 := n0_
    have HO329 := n1_
    have HO332 := n2_
    have HO340 := n3_
    have HO346 := n4_
    have HO350 := n5_
    have HO359 := n6_
    have HO365 := n7_
    have BK314 := n8_
    have BK347 := n9_
    have HB := n10_
    clear n0_ n1_ n2_ n3_ n4_ n5_ n6_ n7_ n8_ n9_ n10_
    (try clear hb)
    (try clear hb2)
    (try clear hk)
    (try clear hi)
    (try clear ho0)
    (try clear ho1)
    obtain ⟨Ao38, co38, eo38⟩ := Kd.R_slice HO359.out
    (first | subst eo38 | (injection eo38 with f1_ f2_ f3_; have f4_ := f1_.symm; have f5_ := f3_.symm; clear f1_ f2_ f3_; subst f4_; subst f5_))
    obtain ⟨Ao39, co39, eo39⟩ := Kd.R_slice HO365.out
    (first | subst eo39 | (injection eo39 with f1_ f2_ f3_; have f4_ := f1_.symm; have f5_ := f3_.symm; clear f1_ f2_ f3_; subst f4_; subst f5_))
    refine hK.out _ _ ⟨(blk_cell BK347.out 0).trans rfl, (blk_cell BK347.out 1).trans rfl, (blk_cell BK347.out 2).trans rfl, (blk_cell BK347.out 3).trans rfl, (blk_cell BK347.out 4).trans rfl, (blk_cell BK347.out 5).trans rfl, (blk_cell BK347.out 6).trans rfl, (blk_cell BK347.out 7).trans rfl, (blk_cell BK347.out 8).trans rfl, (blk_cell BK347.out 9).trans rfl, (blk_cell BK314.out 0).trans rfl, (blk_cell BK314.out 1).trans rfl, (blk_cell BK314.out 2).trans rfl, (blk_cell BK314.out 3).trans rfl, (blk_cell BK314.out 4).trans rfl, (blk_cell BK314.out 5).trans rfl, (blk_cell BK314.out 6).trans rfl, (blk_cell BK314.out 7).trans rfl, (blk_cell BK314.out 8).trans rfl, (blk_cell BK314.out 9).trans rfl⟩ (fun hHeld => ?_)
    clear hK K
    refine norm_ (a' := ?_) ?_ ?_
    rotate_left
    ·show Act.put _ (some 29) _ = _
     simp only [Act.put, List.setIfInBounds_toArray, List.set_cons_zero, List.set_cons_succ, i64_w, i32_w]
     rfl
    refine one_ (i := 3) (N := some 30) #[true, true, true, true, false] rfl rfl (by kernel_rfl) (by decide) (fun K hK => ?_)
    refine goes_ Try.func35 (by kernel_rfl) rfl #[.agg #[.int .i64 t333, .int .i64 t334, .int .i64 t335, .int .i64 t336, .float .f64 t337, .slice Ao31 t338.length co31, .int .i64 t341, .int .i64 t342, .float .f64 t343, .slice Ao32 t344.length co32], .agg #[.int .i64 t352, .int .i64 t353, .int .i64 t354, .int .i64 t355, .float .f64 t356, .slice Ao38 t357.length co38, .int .i64 t360, .int .i64 t361, .float .f64 t362, .slice Ao39 t363.length co39]] (by rfl) rfl rfl (by (try simp only [List.map_toArray, List.map_cons, List.map_nil]); first | done | rfl) ?_
    with_reducible refine (laws_eqTuple.calls k t333 t334 t335 t336 t337 _ _ t338 t341 t342 t343 _ _ t344 t352 t353 t354 t355 t356 _ _ t357 t360 t361 t362 _ _ t363 true _ ?side1 ?side2 ?side3 ?side4 ?side5 ?side6 ?side7 ?side8 A14.out).mono ?_
    (case side1 => repeat (first | exact (Kd.R_reads' HO340.out).2.2 | (with_reducible refine Kd.C_alloc ?_ _) | (with_reducible refine Kd.C_drewN ?_ _) | (with_reducible refine Kd.C_drew ?_)))
    (case side2 => exact (Kd.R_reads' HO340.out).2.1)
    (case side3 => repeat (first | exact (Kd.R_reads' HO346.out).2.2 | (with_reducible refine Kd.C_alloc ?_ _) | (with_reducible refine Kd.C_drewN ?_ _) | (with_reducible refine Kd.C_drew ?_)))
    (case side4 => exact (Kd.R_reads' HO346.out).2.1)
    (case side5 => repeat (first | exact (Kd.R_reads' HO359.out).2.2 | (with_reducible refine Kd.C_alloc ?_ _) | (with_reducible refine Kd.C_drewN ?_ _) | (with_reducible refine Kd.C_drew ?_)))
    (case side6 => exact (Kd.R_reads' HO359.out).2.1)
    (case side7 => repeat (first | exact (Kd.R_reads' HO365.out).2.2 | (with_reducible refine Kd.C_alloc ?_ _) | (with_reducible refine Kd.C_drewN ?_ _) | (with_reducible refine Kd.C_drew ?_)))
    (case side8 => exact (Kd.R_reads' HO365.out).2.1)
    rintro e w40 ⟨rfl, hb⟩
    refine ⟨_, rfl, ?_⟩
    have n0_ := Aside0.mk (Kd.R_below (Kd.rup HO323.out) hb)
    have n1_ := Aside0.mk (Kd.R_below (Kd.rup HO329.out) hb)
    have n2_ := Aside0.mk (Kd.R_below (Kd.rup HO332.out) hb)
    have n3_ := Aside0.mk (Kd.R_below (Kd.rup HO340.out) hb)
    have n4_ := Aside0.mk (Kd.R_below (Kd.rup HO346.out) hb)
    have n5_ := Aside0.mk (Kd.R_below (Kd.rup HO350.out) hb)
    have n6_ := Aside0.mk (Kd.R_below (Kd.rup HO359.out) hb)
    have n7_ := Aside0.mk (Kd.R_below (Kd.rup HO365.out) hb)
    have n8_ := Aside0.mk (blk_below (g := gb314) (o := .cells #[.int .i64 a0_0, .int .i64 a0_1, .int .i64 a0_2, .int .i64 a0_3, .float .f64 a0_4, .slice A0_5 l0_5.length c0_5, .int .i64 a0_6, .int .i64 a0_7, .float .f64 a0_8, .slice A0_9 l0_9.length c0_9] 45 (0, 0)) (bup BK314.out) hb)
    have n9_ := Aside0.mk (blk_below (g := gb347) (o := .cells #[.int .i64 t333, .int .i64 t334, .int .i64 t335, .int .i64 t336, .float .f64 t337, .slice Ao31 t338.length co31, .int .i64 t341, .int .i64 t342, .float .f64 t343, .slice Ao32 t344.length co32] 49 (0, 0)) (bup BK347.out) hb)
    have n10_ := Aside0.mk (below_step (by with_reducible repeat (first | exact HB.out | refine h4 ?_ GE314.out | refine h4 ?_ GE347.out | apply h1 | apply h2 | apply h3)) hb)
    clear HO323
    clear HO329
    clear HO332
    clear HO340
    clear HO346
    clear HO350
    clear HO359
    clear HO365
    clear BK314
    clear BK347
    clear HB
    have HO323 := n0_
    have HO329 := n1_
    have HO332 := n2_
    have HO340 := n3_
    have HO346 := n4_
    have HO350 := n5_
    have HO359 := n6_
    have HO365 := n7_
    have BK314 := n8_
    have BK347 := n9_
    have HB := n10_
    clear n0_ n1_ n2_ n3_ n4_ n5_ n6_ n7_ n8_ n9_ n10_
    (try clear hb)
    (try clear hb2)
    (try clear hk)
    (try clear hi)
    refine hK.out _ _ ⟨(blk_cell BK347.out 0).trans rfl, (blk_cell BK347.out 1).trans rfl, (blk_cell BK347.out 2).trans rfl, (blk_cell BK347.out 3).trans rfl, (blk_cell BK347.out 4).trans rfl, (blk_cell BK347.out 5).trans rfl, (blk_cell BK347.out 6).trans rfl, (blk_cell BK347.out 7).trans rfl, (blk_cell BK347.out 8).trans rfl, (blk_cell BK347.out 9).trans rfl, (blk_cell BK314.out 0).trans rfl, (blk_cell BK314.out 1).trans rfl, (blk_cell BK314.out 2).trans rfl, (blk_cell BK314.out 3).trans rfl, (blk_cell BK314.out 4).trans rfl, (blk_cell BK314.out 5).trans rfl, (blk_cell BK314.out 6).trans rfl, (blk_cell BK314.out 7).trans rfl, (blk_cell BK314.out 8).trans rfl, (blk_cell BK314.out 9).trans rfl⟩ (fun hHeld => ?_)
    clear hK K
    refine norm_ (a' := ?_) ?_ ?_
    rotate_left
    ·show Act.put _ (some 30) _ = _
     simp only [Act.put, List.setIfInBounds_toArray, List.set_cons_zero, List.set_cons_succ, i64_w, i32_w]
     rfl
    refine pure_ (i := 4) (N := some 31) (v := ?_) (a' := ?_) #[true, true, true, true, true] rfl rfl (by kernel_rfl) (fun _ _ _ h => h) (Or.inl ⟨by rfl, ?_⟩) ?_ ?_
    rotate_left
    ·intro w'
     go_simp
     with_reducible rfl
    rotate_left
    ·simp only [Act.put, List.setIfInBounds_toArray, List.set_cons_zero, List.set_cons_succ, i64_w, i32_w]
     rfl
    refine done_ (by kernel_rfl) ?_
    obtain ⟨hcz41_0, hcz41_1, hcz41_2, hcz41_3, hcz41_4, hcz41_5, hcz41_6, hcz41_7, hcz41_8, hcz41_9⟩ := blk_cells10 BK347.out
    obtain ⟨hfz41_0, hfz41_1, hfz41_2, hfz41_3, hfz41_4, hfz41_5, hfz41_6, hfz41_7, hfz41_8, hfz41_9⟩ := blk_frozens10 BK347.out
    go_upto_region 14 with (first | ((with_reducible refine gate_callee (f := 36) rfl ?_); refine goesL_ (some 34) rfl rfl Try.func36 (by kernel_rfl) rfl #[.agg #[.int .i64 t333, .int .i64 t334, .int .i64 t335, .int .i64 t336, .float .f64 t337, .slice Ao31 t338.length co31, .int .i64 t341, .int .i64 t342, .float .f64 t343, .slice Ao32 t344.length co32], .int .i64 1] rfl (by (try simp only [List.map_toArray, List.map_cons, List.map_nil]); first | done | rfl) ?_; (with_reducible refine (laws_markTuple.calls k t333 t334 t335 t336 t337 (fun k_ => some k_ = (.slice Ao31 t338.length co31 : Value).ownBlock) (.slice Ao31 t338.length co31) t338 t341 t342 t343 (fun k_ => some k_ = (.slice Ao32 t344.length co32 : Value).ownBlock) (.slice Ao32 t344.length co32) t344 1 t367 t368 t369 w _ ?side1 ?side2 ?side3 ?side4 ?side5 A16.out).mono ?_); (case side1 => with_reducible repeat (first | exact HB.out | refine h4 ?_ GE314.out | refine h4 ?_ GE347.out | apply h1 | apply h2 | apply h3)); (case side2 => exact Kd.R_tight rfl HO340.out); (case side3 => exact fun k_ e_ => (HO340.out.1 k_ e_.symm).1.1.1.1.1.1); (case side4 => exact Kd.R_tight rfl HO346.out); (case side5 => exact fun k_ e_ => (HO346.out.1 k_ e_.symm).1.1.1.1.1.1); rintro e w42 ⟨rfl, hy0, hy1, hb, hkp⟩; refine ⟨_, rfl, ?_⟩; have n0_ := Aside0.mk (blk_kept (bup BK314.out) hkp (fun hs_ => Or.elim hs_ (fun e_ => (fun e_ => (Kd.R_ne HO340.out BK314.out (by decide)) e_) e_) (fun e_ => (fun e_ => (Kd.R_ne HO346.out BK314.out (by decide)) e_) e_))); have n1_ := Aside0.mk (Kd.R_mono (ok' := fun k_ => some k_ ≠ (.slice Ao24 t327.length co24 : Value).ownBlock ∧ some k_ ≠ (.slice Ao35 t330.length co35 : Value).ownBlock ∧ some k_ ≠ (.slice Ao31 t338.length co31 : Value).ownBlock ∧ some k_ ≠ (.slice Ao32 t344.length co32 : Value).ownBlock ∧ some k_ ≠ (.slice Ao34 t348.length co34 : Value).ownBlock ∧ some k_ ≠ (.slice Ao38 t357.length co38 : Value).ownBlock ∧ some k_ ≠ (.slice Ao39 t363.length co39 : Value).ownBlock) (Kd.R_keptB (HO323.out) hkp (fun k_ hk_ hs_ => Or.elim hs_ (fun e_ => (hk_.1.1.1.1.2) e_) (fun e_ => (hk_.1.1.1.2) e_))) (fun k_ hk_ => ⟨hk_.1.1.1.1.1.1.1, hk_.1.1.1.1.1.1.2, hk_.1.1.1.1.1.2, hk_.1.1.1.1.2, hk_.1.1.1.2, hk_.1.1.2, hk_.1.2⟩)); have n2_ := Aside0.mk (Kd.R_mono (ok' := fun k_ => some k_ ≠ (.slice Ao23 t321.length co23 : Value).ownBlock ∧ some k_ ≠ (.slice Ao35 t330.length co35 : Value).ownBlock ∧ some k_ ≠ (.slice Ao31 t338.length co31 : Value).ownBlock ∧ some k_ ≠ (.slice Ao32 t344.length co32 : Value).ownBlock ∧ some k_ ≠ (.slice Ao34 t348.length co34 : Value).ownBlock ∧ some k_ ≠ (.slice Ao38 t357.length co38 : Value).ownBlock ∧ some k_ ≠ (.slice Ao39 t363.length co39 : Value).ownBlock) (Kd.R_keptB (HO329.out) hkp (fun k_ hk_ hs_ => Or.elim hs_ (fun e_ => (hk_.1.1.1.1.2) e_) (fun e_ => (hk_.1.1.1.2) e_))) (fun k_ hk_ => ⟨hk_.1.1.1.1.1.1.1, hk_.1.1.1.1.1.1.2, hk_.1.1.1.1.1.2, hk_.1.1.1.1.2, hk_.1.1.1.2, hk_.1.1.2, hk_.1.2⟩)); have n3_ := Aside0.mk (Kd.R_mono (ok' := fun k_ => some k_ ≠ (.slice Ao23 t321.length co23 : Value).ownBlock ∧ some k_ ≠ (.slice Ao24 t327.length co24 : Value).ownBlock ∧ some k_ ≠ (.slice Ao31 t338.length co31 : Value).ownBlock ∧ some k_ ≠ (.slice Ao32 t344.length co32 : Value).ownBlock ∧ some k_ ≠ (.slice Ao34 t348.length co34 : Value).ownBlock ∧ some k_ ≠ (.slice Ao38 t357.length co38 : Value).ownBlock ∧ some k_ ≠ (.slice Ao39 t363.length co39 : Value).ownBlock) (Kd.R_keptB (HO332.out) hkp (fun k_ hk_ hs_ => Or.elim hs_ (fun e_ => (hk_.1.1.1.1.2) e_) (fun e_ => (hk_.1.1.1.2) e_))) (fun k_ hk_ => ⟨hk_.1.1.1.1.1.1.1.2, hk_.1.1.1.1.1.1.2, hk_.1.1.1.1.1.2, hk_.1.1.1.1.2, hk_.1.1.1.2, hk_.1.1.2, hk_.1.2⟩)); have n4_ := Aside0.mk (Kd.R_reok rfl hy0 (fun k_ e_ => HO340.out.1 k_ e_)); have n5_ := Aside0.mk (Kd.R_reok rfl hy1 (fun k_ e_ => HO346.out.1 k_ e_)); have n6_ := Aside0.mk (blk_kept (bup BK347.out) hkp (fun hs_ => Or.elim hs_ (fun e_ => (fun e_ => (Kd.R_ne HO340.out BK347.out (by decide)) e_) e_) (fun e_ => (fun e_ => (Kd.R_ne HO346.out BK347.out (by decide)) e_) e_))); have n7_ := Aside0.mk (Kd.R_mono (ok' := fun k_ => some k_ ≠ (.slice Ao23 t321.length co23 : Value).ownBlock ∧ some k_ ≠ (.slice Ao24 t327.length co24 : Value).ownBlock ∧ some k_ ≠ (.slice Ao35 t330.length co35 : Value).ownBlock ∧ some k_ ≠ (.slice Ao31 t338.length co31 : Value).ownBlock ∧ some k_ ≠ (.slice Ao32 t344.length co32 : Value).ownBlock ∧ some k_ ≠ (.slice Ao38 t357.length co38 : Value).ownBlock ∧ some k_ ≠ (.slice Ao39 t363.length co39 : Value).ownBlock) (Kd.R_keptB (HO350.out) hkp (fun k_ hk_ hs_ => Or.elim hs_ (fun e_ => (hk_.1.1.1.2) e_) (fun e_ => (hk_.1.1.2) e_))) (fun k_ hk_ => ⟨hk_.1.1.1.1.1.1.1.2, hk_.1.1.1.1.1.1.2, hk_.1.1.1.1.1.2, hk_.1.1.1.1.2, hk_.1.1.1.2, hk_.1.1.2, hk_.1.2⟩)); have n8_ := Aside0.mk (Kd.R_mono (ok' := fun k_ => some k_ ≠ (.slice Ao23 t321.length co23 : Value).ownBlock ∧ some k_ ≠ (.slice Ao24 t327.length co24 : Value).ownBlock ∧ some k_ ≠ (.slice Ao35 t330.length co35 : Value).ownBlock ∧ some k_ ≠ (.slice Ao31 t338.length co31 : Value).ownBlock ∧ some k_ ≠ (.slice Ao32 t344.length co32 : Value).ownBlock ∧ some k_ ≠ (.slice Ao34 t348.length co34 : Value).ownBlock ∧ some k_ ≠ (.slice Ao39 t363.length co39 : Value).ownBlock) (Kd.R_keptB (HO359.out) hkp (fun k_ hk_ hs_ => Or.elim hs_ (fun e_ => (hk_.1.1.2) e_) (fun e_ => (hk_.1.2) e_))) (fun k_ hk_ => ⟨hk_.1.1.1.1.1.1.2, hk_.1.1.1.1.1.2, hk_.1.1.1.1.2, hk_.1.1.1.2, hk_.1.1.2, hk_.1.2, hk_.1.1.1.1.1.1.1⟩)); have n9_ := Aside0.mk (Kd.R_mono (ok' := fun k_ => some k_ ≠ (.slice Ao23 t321.length co23 : Value).ownBlock ∧ some k_ ≠ (.slice Ao24 t327.length co24 : Value).ownBlock ∧ some k_ ≠ (.slice Ao35 t330.length co35 : Value).ownBlock ∧ some k_ ≠ (.slice Ao31 t338.length co31 : Value).ownBlock ∧ some k_ ≠ (.slice Ao32 t344.length co32 : Value).ownBlock ∧ some k_ ≠ (.slice Ao34 t348.length co34 : Value).ownBlock ∧ some k_ ≠ (.slice Ao38 t357.length co38 : Value).ownBlock) (Kd.R_keptB (HO365.out) hkp (fun k_ hk_ hs_ => Or.elim hs_ (fun e_ => (hk_.1.1.2) e_) (fun e_ => (hk_.1.2) e_))) (fun k_ hk_ => ⟨hk_.1.1.1.1.1.1.2, hk_.1.1.1.1.1.2, hk_.1.1.1.1.2, hk_.1.1.1.2, hk_.1.1.2, hk_.1.2, hk_.1.1.1.1.1.1.1⟩)); have n10_ := Aside0.mk (hb); clear BK314; clear HO323; clear HO329; clear HO332; clear HO340; clear HO346; clear BK347; clear HO350; clear HO359; clear HO365; clear HB; have BK314 := n0_; have HO323 := n1_; have HO329 := n2_; have HO332 := n3_; have HO340 := n4_; have HO346 := n5_; have BK347 := n6_; have HO350 := n7_; have HO359 := n8_; have HO365 := n9_; have HB := n10_; clear n0_ n1_ n2_ n3_ n4_ n5_ n6_ n7_ n8_ n9_ n10_; (try clear hb); (try clear hkp); (try clear hy0); (try clear hy1)))
    (try simp only [Act.put, List.setIfInBounds_toArray, List.set_cons_zero, List.set_cons_succ])
    go_cut [42] (fun v42 wc => ∃ (kq : Nat) (x42_16 : Bool), v42 = .bool x42_16 ∧ Aside0 (laws_FnExactTupleBytes.j0 kq t330 t348 x42_16 a0_0 a0_1 a0_2 a0_3 a0_4 l0_5 a0_6 a0_7 a0_8 l0_9 = some r) ∧ Aside0 (kq ≤ k) ∧ Aside0 (Kd.R (Kd.int .u8) 5 wc w.heap.size (fun k_ => some k_ ≠ ((.slice Ao34 t348.length co34) : Value).ownBlock ∧ some k_ ≠ ((.slice Ao31 t338.length co31) : Value).ownBlock ∧ some k_ ≠ ((.slice Ao32 t344.length co32) : Value).ownBlock) (.slice Ao35 t330.length co35) t330) ∧ Aside0 (Kd.R (Kd.int .u8) 5 wc w.heap.size (fun k_ => some k_ ≠ ((.slice Ao35 t330.length co35) : Value).ownBlock ∧ some k_ ≠ ((.slice Ao31 t338.length co31) : Value).ownBlock ∧ some k_ ≠ ((.slice Ao32 t344.length co32) : Value).ownBlock) (.slice Ao34 t348.length co34) t348) ∧ Aside0 (Kd.R (Kd.int .u8) 5 wc w.heap.size (fun k_ => some k_ ≠ ((.slice Ao35 t330.length co35) : Value).ownBlock ∧ some k_ ≠ ((.slice Ao34 t348.length co34) : Value).ownBlock ∧ some k_ ≠ ((.slice Ao32 t344.length co32) : Value).ownBlock) (.slice Ao31 t338.length co31) t368) ∧ Aside0 (Kd.R (Kd.int .u8) 5 wc w.heap.size (fun k_ => some k_ ≠ ((.slice Ao35 t330.length co35) : Value).ownBlock ∧ some k_ ≠ ((.slice Ao34 t348.length co34) : Value).ownBlock ∧ some k_ ≠ ((.slice Ao31 t338.length co31) : Value).ownBlock) (.slice Ao32 t344.length co32) t369) ∧ Aside0 (wc.heap[gb314]? = some (.cells #[.int .i64 a0_0, .int .i64 a0_1, .int .i64 a0_2, .int .i64 a0_3, .float .f64 a0_4, (.slice A0_5 l0_5.length c0_5), .int .i64 a0_6, .int .i64 a0_7, .float .f64 a0_8, (.slice A0_9 l0_9.length c0_9)] 45 (0, 0))) ∧ Aside0 (wc.heap[gb347]? = some (.cells #[.int .i64 t333, .int .i64 t334, .int .i64 t335, .int .i64 t336, .float .f64 t337, (.slice Ao31 t338.length co31), .int .i64 t341, .int .i64 t342, .float .f64 t343, (.slice Ao32 t344.length co32)] 49 (0, 0))) ∧ Aside0 (Below w.heap.size w wc))
    case first =>
     have H := HC17.out
     clear HC17
     by_cases c43 : t367 < 0
     ·rw [if_pos c43] at H
      have c43b0 : decide (t367 < 0) = true := decide_eq_true c43
      clear c43
      (first | rw [c43b0] | (simp only [i64_w, i32_w]; rw [c43b0]) | skip)
      have H' := Aside0.mk H
      clear H
      go_wp2
      go_meet
      case rel => exact ⟨_, (true), (by first | rfl | (simp; done) | (simp [*]; done)), H', ⟨by first | omega | exact Nat.le_refl _⟩, ⟨by exact Kd.rup (Kd.R_mono HO332.out (fun _ hk => ⟨hk.2.2.2.2.1, ⟨hk.2.2.1, hk.2.2.2.1⟩⟩))⟩, ⟨by exact Kd.rup (Kd.R_mono HO350.out (fun _ hk => ⟨hk.2.2.1, ⟨hk.2.2.2.1, hk.2.2.2.2.1⟩⟩))⟩, ⟨by exact Kd.rup (Kd.R_mono HO340.out (fun _ hk => ⟨hk.1.1.1.2, ⟨hk.1.1.2, hk.1.1.1.1.1.1⟩⟩))⟩, ⟨by exact Kd.rup (Kd.R_mono HO346.out (fun _ hk => ⟨hk.1.1.1.2, ⟨hk.1.1.2, hk.1.1.1.1.1.1⟩⟩))⟩, ⟨by exact bup BK314.out⟩, ⟨by exact bup BK347.out⟩, ⟨by with_reducible repeat (first | exact HB.out | refine h4 ?_ GE314.out | refine h4 ?_ GE347.out | apply h1 | apply h2 | apply h3)⟩⟩
     ·rw [if_neg c43] at H
      have c43b0 : decide (t367 < 0) = false := decide_eq_false c43
      clear c43
      (first | rw [c43b0] | (simp only [i64_w, i32_w]; rw [c43b0]) | skip)
      replace H := Option.bind_eq_some_iff.mp H
      obtain ⟨t370, A440, H⟩ := H
      replace H : (laws_FnExactTupleBytes.j0 k t330 t348 (!t370) a0_0 a0_1 a0_2 a0_3 a0_4 l0_5 a0_6 a0_7 a0_8 l0_9) = some r := H
      have A44 := Aside0.mk A440
      clear A440
      have H' := Aside0.mk H
      clear H
      go_wp2_with (first | (go_at_call 13; (with_reducible refine (laws_eqByteS.calls k _ _ t348 _ _ t330 t370 _ ?side1 ?side2 ?side3 ?side4 A44.out).mono ?_); (case side1 => repeat (first | exact (Kd.R_reads' HO350.out).2.2 | (with_reducible refine Kd.C_alloc ?_ _) | (with_reducible refine Kd.C_drewN ?_ _) | (with_reducible refine Kd.C_drew ?_))); (case side2 => exact (Kd.R_reads' HO350.out).2.1); (case side3 => repeat (first | exact (Kd.R_reads' HO332.out).2.2 | (with_reducible refine Kd.C_alloc ?_ _) | (with_reducible refine Kd.C_drewN ?_ _) | (with_reducible refine Kd.C_drew ?_))); (case side4 => exact (Kd.R_reads' HO332.out).2.1); rintro e w' ⟨rfl, ⟨nd, rfl⟩⟩))
      go_meet
      case rel => exact ⟨_, (!t370), (by first | rfl | (simp; done) | (simp [*]; done)), H', ⟨by first | omega | exact Nat.le_refl _⟩, ⟨by exact Kd.rup (Kd.R_mono HO332.out (fun _ hk => ⟨hk.2.2.2.2.1, ⟨hk.2.2.1, hk.2.2.2.1⟩⟩))⟩, ⟨by exact Kd.rup (Kd.R_mono HO350.out (fun _ hk => ⟨hk.2.2.1, ⟨hk.2.2.2.1, hk.2.2.2.2.1⟩⟩))⟩, ⟨by exact Kd.rup (Kd.R_mono HO340.out (fun _ hk => ⟨hk.1.1.1.2, ⟨hk.1.1.2, hk.1.1.1.1.1.1⟩⟩))⟩, ⟨by exact Kd.rup (Kd.R_mono HO346.out (fun _ hk => ⟨hk.1.1.1.2, ⟨hk.1.1.2, hk.1.1.1.1.1.1⟩⟩))⟩, ⟨by exact bup BK314.out⟩, ⟨by exact bup BK347.out⟩, ⟨by with_reducible repeat (first | exact HB.out | refine h4 ?_ GE314.out | refine h4 ?_ GE347.out | apply h1 | apply h2 | apply h3)⟩⟩
    case rest =>
     clear HC17
     try clear c1
     try clear c2
     try clear p2
     try clear c3
     try clear c3b0
     try clear c4
     try clear c6
     try clear c12
     try clear c13
     try clear c15
     try clear c29
     try clear c31
     try clear c32
     try clear c33
     try clear c34
     try clear c35
     try clear c36
     try clear c43
     try clear c43b0
     try clear hcz19_0
     try clear hcz19_1
     try clear hcz19_2
     try clear hcz19_3
     try clear hcz19_4
     try clear hcz19_5
     try clear hcz19_6
     try clear hcz19_7
     try clear hcz19_8
     try clear hcz19_9
     try clear hcz21_0
     try clear hcz21_1
     try clear hcz21_2
     try clear hcz21_3
     try clear hcz21_4
     try clear hcz21_5
     try clear hcz21_6
     try clear hcz21_7
     try clear hcz21_8
     try clear hcz21_9
     try clear hcz26_0
     try clear hcz26_1
     try clear hcz26_2
     try clear hcz26_3
     try clear hcz26_4
     try clear hcz26_5
     try clear hcz26_6
     try clear hcz26_7
     try clear hcz26_8
     try clear hcz26_9
     try clear hcz30_0
     try clear hcz30_1
     try clear hcz30_2
     try clear hcz30_3
     try clear hcz30_4
     try clear hcz30_5
     try clear hcz30_6
     try clear hcz30_7
     try clear hcz30_8
     try clear hcz30_9
     try clear hcz41_0
     try clear hcz41_1
     try clear hcz41_2
     try clear hcz41_3
     try clear hcz41_4
     try clear hcz41_5
     try clear hcz41_6
     try clear hcz41_7
     try clear hcz41_8
     try clear hcz41_9
     try clear hcz5_0
     try clear hcz5_1
     try clear hcz5_2
     try clear hcz5_3
     try clear hcz5_4
     try clear hcz5_5
     try clear hcz5_6
     try clear hcz5_7
     try clear hcz5_8
     try clear hcz5_9
     try clear hfz19_0
     try clear hfz19_1
     try clear hfz19_2
     try clear hfz19_3
     try clear hfz19_4
     try clear hfz19_5
     try clear hfz19_6
     try clear hfz19_7
     try clear hfz19_8
     try clear hfz19_9
     try clear hfz21_0
     try clear hfz21_1
     try clear hfz21_2
     try clear hfz21_3
     try clear hfz21_4
     try clear hfz21_5
     try clear hfz21_6
     try clear hfz21_7
     try clear hfz21_8
     try clear hfz21_9
     try clear hfz26_0
     try clear hfz26_1
     try clear hfz26_2
     try clear hfz26_3
     try clear hfz26_4
     try clear hfz26_5
     try clear hfz26_6
     try clear hfz26_7
     try clear hfz26_8
     try clear hfz26_9
     try clear hfz30_0
     try clear hfz30_1
     try clear hfz30_2
     try clear hfz30_3
     try clear hfz30_4
     try clear hfz30_5
     try clear hfz30_6
     try clear hfz30_7
     try clear hfz30_8
     try clear hfz30_9
     try clear hfz41_0
     try clear hfz41_1
     try clear hfz41_2
     try clear hfz41_3
     try clear hfz41_4
     try clear hfz41_5
     try clear hfz41_6
     try clear hfz41_7
     try clear hfz41_8
     try clear hfz41_9
     try clear hfz5_0
     try clear hfz5_1
     try clear hfz5_2
     try clear hfz5_3
     try clear hfz5_4
     try clear hfz5_5
     try clear hfz5_6
     try clear hfz5_7
     try clear hfz5_8
     try clear hfz5_9
     obtain ⟨kq, x42_16, rfl, HA, HJ16, HO_4, HO_6, HO_348005, HO_348009, BK314, BK347, HB⟩ := hcut
     have hl348005_16 := (Kd.R_reads' HO_348005.out).1
     rw [hl348005_16] at HO_348005
     (try simp only [hl348005_16])
     (try simp only [hl348005_16] at BK314)
     (try simp only [hl348005_16] at BK347)
     (try simp only [hl348005_16] at HO_4)
     (try simp only [hl348005_16] at HO_6)
     (try simp only [hl348005_16] at HO_348009)
     have hl348009_16 := (Kd.R_reads' HO_348009.out).1
     rw [hl348009_16] at HO_348009
     (try simp only [hl348009_16])
     (try simp only [hl348009_16] at BK314)
     (try simp only [hl348009_16] at BK347)
     (try simp only [hl348009_16] at HO_4)
     (try simp only [hl348009_16] at HO_6)
     (try simp only [hl348009_16] at HO_348005)
     cases kq with
     | zero => exact absurd HA.out (by simp [laws_FnExactTupleBytes.j0])
     | succ kj16 =>
      have H := HA.out
      clear HA
      simp only [laws_FnExactTupleBytes.j0] at H
      by_cases c45 : x42_16 = true
      ·subst c45
       have H1 : (some false) = some r := by rw [if_pos rfl] at H; exact H
       clear H
       have H := H1
       clear H1
       cases (Option.some.inj H).trans hT
      ·replace c45 := Bool.eq_false_iff.mpr c45
       subst c45
       have H1 : ((laws_markByteS.f kj16 t348 1).bind fun bt371 => ((laws_heldByteS.f kj16 bt371.2 1).bind fun t373 => (if t373 < 0 then (some false) else (if t373 = bt371.1 then ((laws_toTuple.f kj16 a0_0 a0_1 a0_2 a0_3 a0_4 l0_5 a0_6 a0_7 a0_8 l0_9).bind fun bt374 => ((impl_TupleBytes.f kj16 bt374.1 bt374.2.1 bt374.2.2.1 bt374.2.2.2.1 bt374.2.2.2.2.1 bt374.2.2.2.2.2.1 bt374.2.2.2.2.2.2.1 bt374.2.2.2.2.2.2.2.1 bt374.2.2.2.2.2.2.2.2.1 bt374.2.2.2.2.2.2.2.2.2).bind fun t388 => ((laws_eqByteS.f kj16 t388 t330).bind fun t391 => (if t391 = true then ((laws_heldByteS.f kj16 bt371.2 1).bind fun t392 => (if t392 < 0 then (some false) else (if t392 = bt371.1 then (some true) else (some false)))) else (some false))))) else (some false))))) = some r := by rw [if_neg (show ¬ (false = true) by decide)] at H; exact H
       clear H
       have H := H1
       clear H1
       replace H := Option.bind_eq_some_iff.mp H
       obtain ⟨⟨t371, t372⟩, A460, H⟩ := H
       replace H : ((laws_heldByteS.f kj16 t372 1).bind fun t373 => (if t373 < 0 then (some false) else (if t373 = t371 then ((laws_toTuple.f kj16 a0_0 a0_1 a0_2 a0_3 a0_4 l0_5 a0_6 a0_7 a0_8 l0_9).bind fun bt374 => ((impl_TupleBytes.f kj16 bt374.1 bt374.2.1 bt374.2.2.1 bt374.2.2.2.1 bt374.2.2.2.2.1 bt374.2.2.2.2.2.1 bt374.2.2.2.2.2.2.1 bt374.2.2.2.2.2.2.2.1 bt374.2.2.2.2.2.2.2.2.1 bt374.2.2.2.2.2.2.2.2.2).bind fun t388 => ((laws_eqByteS.f kj16 t388 t330).bind fun t391 => (if t391 = true then ((laws_heldByteS.f kj16 t372 1).bind fun t392 => (if t392 < 0 then (some false) else (if t392 = t371 then (some true) else (some false)))) else (some false))))) else (some false)))) = some r := H
       have A46 := Aside0.mk A460
       clear A460
       replace H := Option.bind_eq_some_iff.mp H
       obtain ⟨t373, A470, H⟩ := H
       replace H : (if t373 < 0 then (some false) else (if t373 = t371 then ((laws_toTuple.f kj16 a0_0 a0_1 a0_2 a0_3 a0_4 l0_5 a0_6 a0_7 a0_8 l0_9).bind fun bt374 => ((impl_TupleBytes.f kj16 bt374.1 bt374.2.1 bt374.2.2.1 bt374.2.2.2.1 bt374.2.2.2.2.1 bt374.2.2.2.2.2.1 bt374.2.2.2.2.2.2.1 bt374.2.2.2.2.2.2.2.1 bt374.2.2.2.2.2.2.2.2.1 bt374.2.2.2.2.2.2.2.2.2).bind fun t388 => ((laws_eqByteS.f kj16 t388 t330).bind fun t391 => (if t391 = true then ((laws_heldByteS.f kj16 t372 1).bind fun t392 => (if t392 < 0 then (some false) else (if t392 = t371 then (some true) else (some false)))) else (some false))))) else (some false))) = some r := H
       have A47 := Aside0.mk A470
       clear A470
       by_cases c48 : t373 < 0
       ·rw [if_pos c48] at H
        have c48b0 : decide (t373 < 0) = true := decide_eq_true c48
        clear c48
        cases (Option.some.inj H).trans hT
       ·rw [if_neg c48] at H
        have c48b0 : decide (t373 < 0) = false := decide_eq_false c48
        clear c48
        by_cases c49 : t373 = t371
        ·rw [if_pos c49] at H
         have c49b0 : (t373 == t371) = true := beq_iff_eq.mpr c49
         have c49b1 : (t373 != t371) = false := bne_eq_false_iff_eq.mpr c49
         clear c49
         replace H := Option.bind_eq_some_iff.mp H
         obtain ⟨⟨t374, t375, t376, t377, t378, t379, t382, t383, t384, t385⟩, A500, H⟩ := H
         replace H : ((impl_TupleBytes.f kj16 t374 t375 t376 t377 t378 t379 t382 t383 t384 t385).bind fun t388 => ((laws_eqByteS.f kj16 t388 t330).bind fun t391 => (if t391 = true then ((laws_heldByteS.f kj16 t372 1).bind fun t392 => (if t392 < 0 then (some false) else (if t392 = t371 then (some true) else (some false)))) else (some false)))) = some r := H
         have A50 := Aside0.mk A500
         clear A500
         replace H := Option.bind_eq_some_iff.mp H
         obtain ⟨t388, A510, H⟩ := H
         replace H : ((laws_eqByteS.f kj16 t388 t330).bind fun t391 => (if t391 = true then ((laws_heldByteS.f kj16 t372 1).bind fun t392 => (if t392 < 0 then (some false) else (if t392 = t371 then (some true) else (some false)))) else (some false))) = some r := H
         have A51 := Aside0.mk A510
         clear A510
         replace H := Option.bind_eq_some_iff.mp H
         obtain ⟨t391, A520, H⟩ := H
         replace H : (if t391 = true then ((laws_heldByteS.f kj16 t372 1).bind fun t392 => (if t392 < 0 then (some false) else (if t392 = t371 then (some true) else (some false)))) else (some false)) = some r := H
         have A52 := Aside0.mk A520
         clear A520
         by_cases c53 : t391 = true
         ·subst c53
          have H1 : ((laws_heldByteS.f kj16 t372 1).bind fun t392 => (if t392 < 0 then (some false) else (if t392 = t371 then (some true) else (some false)))) = some r := by rw [if_pos rfl] at H; exact H
          clear H
          have H := H1
          clear H1
          replace H := Option.bind_eq_some_iff.mp H
          obtain ⟨t392, A540, H⟩ := H
          replace H : (if t392 < 0 then (some false) else (if t392 = t371 then (some true) else (some false))) = some r := H
          have A54 := Aside0.mk A540
          clear A540
          by_cases c55 : t392 < 0
          ·rw [if_pos c55] at H
           have c55b0 : decide (t392 < 0) = true := decide_eq_true c55
           clear c55
           cases (Option.some.inj H).trans hT
          ·rw [if_neg c55] at H
           have c55b0 : decide (t392 < 0) = false := decide_eq_false c55
           clear c55
           by_cases c56 : t392 = t371
           ·rw [if_pos c56] at H
            have c56b0 : (t392 == t371) = true := beq_iff_eq.mpr c56
            have c56b1 : (t392 != t371) = false := bne_eq_false_iff_eq.mpr c56
            clear c56
            obtain rfl := Option.some.inj H
            go_wp2_with (first | ((with_reducible refine gate_callee (f := 14) rfl ?_); refine goesL_ (some 45) rfl rfl Try.func14 (by kernel_rfl) rfl #[.slice Ao34 t348.length co34, .int .i64 1] rfl (by (try simp only [List.map_toArray, List.map_cons, List.map_nil]); first | done | rfl) ?_; (with_reducible refine (laws_markByteS.calls kj16 (fun k_ => some k_ = (.slice Ao34 t348.length co34 : Value).ownBlock) (.slice Ao34 t348.length co34) t348 1 t371 t372 w _ ?side1 ?side2 A46.out).mono ?_); (case side1 => with_reducible repeat (first | exact HB.out | refine h4 ?_ GE314.out | refine h4 ?_ GE347.out | apply h1 | apply h2 | apply h3)); (case side2 => exact Kd.R_tight rfl HO_6.out); rintro e w57 ⟨rfl, hy0, hb, hkp⟩; refine ⟨_, rfl, ?_⟩; have n0_ := Aside0.mk (Kd.R_mono (ok' := fun k_ => some k_ ≠ (.slice Ao34 t348.length co34 : Value).ownBlock ∧ some k_ ≠ (.slice Ao31 t368.length co31 : Value).ownBlock ∧ some k_ ≠ (.slice Ao32 t369.length co32 : Value).ownBlock) (Kd.R_keptB (HO_4.out) hkp (fun k_ hk_ hs_ => (hk_.1) hs_)) (fun k_ hk_ => ⟨hk_.1.1, hk_.1.2.1, hk_.1.2.2⟩)); have n1_ := Aside0.mk (Kd.R_reok rfl hy0 (fun k_ e_ => HO_6.out.1 k_ e_)); have n2_ := Aside0.mk (Kd.R_mono (ok' := fun k_ => some k_ ≠ (.slice Ao35 t330.length co35 : Value).ownBlock ∧ some k_ ≠ (.slice Ao34 t348.length co34 : Value).ownBlock ∧ some k_ ≠ (.slice Ao32 t369.length co32 : Value).ownBlock) (Kd.R_keptB (HO_348005.out) hkp (fun k_ hk_ hs_ => (hk_.2.1) hs_)) (fun k_ hk_ => ⟨hk_.1.1, hk_.1.2.1, hk_.1.2.2⟩)); have n3_ := Aside0.mk (Kd.R_mono (ok' := fun k_ => some k_ ≠ (.slice Ao35 t330.length co35 : Value).ownBlock ∧ some k_ ≠ (.slice Ao34 t348.length co34 : Value).ownBlock ∧ some k_ ≠ (.slice Ao31 t368.length co31 : Value).ownBlock) (Kd.R_keptB (HO_348009.out) hkp (fun k_ hk_ hs_ => (hk_.2.1) hs_)) (fun k_ hk_ => ⟨hk_.1.1, hk_.1.2.1, hk_.1.2.2⟩)); have n4_ := Aside0.mk (blk_kept (bup BK314.out) hkp (fun hs_ => (fun e_ => (Kd.R_ne HO_6.out BK314.out (by decide)) e_) hs_)); have n5_ := Aside0.mk (blk_kept (bup BK347.out) hkp (fun hs_ => (fun e_ => (Kd.R_ne HO_6.out BK347.out (by decide)) e_) hs_)); have n6_ := Aside0.mk (hb); clear HO_4; clear HO_6; clear HO_348005; clear HO_348009; clear BK314; clear BK347; clear HB; have HO_4 := n0_; have HO_6 := n1_; have HO_348005 := n2_; have HO_348009 := n3_; have BK314 := n4_; have BK347 := n5_; have HB := n6_; clear n0_ n1_ n2_ n3_ n4_ n5_ n6_; (try clear hb); (try clear hkp); (try clear hy0)) | ((with_reducible refine gate_callee (f := 37) rfl ?_); refine goesL_ (some 48) rfl rfl Try.func37 (by kernel_rfl) rfl #[.slice Ao34 t372.length co34, .int .i64 1] rfl (by (try simp only [List.map_toArray, List.map_cons, List.map_nil]); first | done | (rw [show t372.length = t348.length from (Kd.R_reads' HO_6.out).1.symm] <;> rfl) | rfl | (simp only [List.length_drop, List.length_take]; rfl)) ?_; (with_reducible refine (laws_heldByteS.calls kj16 _ _ t372 1 t373 _ ?side1 ?side2 A47.out).mono ?_); (case side1 => repeat (first | exact (Kd.R_reads' HO_6.out).2.2 | (with_reducible refine Kd.C_alloc ?_ _) | (with_reducible refine Kd.C_drewN ?_ _) | (with_reducible refine Kd.C_drew ?_))); (case side2 => rw [show t372.length = t348.length from (Kd.R_reads' HO_6.out).1.symm]; exact (Kd.R_reads' HO_6.out).2.1); rintro e w' ⟨rfl, ⟨nd, rfl⟩⟩; refine ⟨_, rfl, ?_⟩; have hnb58 := NB314_347.out; have hnc58 := NB347_314.out; obtain ⟨hcz59_0, hcz59_1, hcz59_2, hcz59_3, hcz59_4, hcz59_5, hcz59_6, hcz59_7, hcz59_8, hcz59_9⟩ := blk_cells10 BK314.out; obtain ⟨hfz59_0, hfz59_1, hfz59_2, hfz59_3, hfz59_4, hfz59_5, hfz59_6, hfz59_7, hfz59_8, hfz59_9⟩ := blk_frozens10 BK314.out) | ((with_reducible refine gate_callee (f := 33) rfl ?_); refine goesL_ (some 55) rfl rfl Try.func33 (by kernel_rfl) rfl #[.agg #[.int .i64 a0_0, .int .i64 a0_1, .int .i64 a0_2, .int .i64 a0_3, .float .f64 a0_4, .slice A0_5 l0_5.length c0_5, .int .i64 a0_6, .int .i64 a0_7, .float .f64 a0_8, .slice A0_9 l0_9.length c0_9]] rfl (by (try simp only [List.map_toArray, List.map_cons, List.map_nil]); first | done | rfl) ?_; (with_reducible refine (laws_toTuple.calls kj16 a0_0 a0_1 a0_2 a0_3 a0_4 _ _ l0_5 a0_6 a0_7 a0_8 _ _ l0_9 t374 t375 t376 t377 t378 t379 t382 t383 t384 t385 _ ?side1 ?side2 ?side3 ?side4 A50.out).mono ?_); (case side1 => repeat (first | exact (Kd.C_below HR0_5.out (by with_reducible repeat (first | exact HB.out | refine h4 ?_ GE314.out | refine h4 ?_ GE347.out | apply h1 | apply h2 | apply h3))) | (with_reducible refine Kd.C_alloc ?_ _) | (with_reducible refine Kd.C_drewN ?_ _) | (with_reducible refine Kd.C_drew ?_))); (case side2 => exact HC0_5.out); (case side3 => repeat (first | exact (Kd.C_below HR0_9.out (by with_reducible repeat (first | exact HB.out | refine h4 ?_ GE314.out | refine h4 ?_ GE347.out | apply h1 | apply h2 | apply h3))) | (with_reducible refine Kd.C_alloc ?_ _) | (with_reducible refine Kd.C_drewN ?_ _) | (with_reducible refine Kd.C_drew ?_))); (case side4 => exact HC0_9.out); rintro e w60 ⟨v380, v386, rfl, ho0, ho1, hb⟩; refine ⟨_, rfl, ?_⟩; have n0_ := Aside0.mk (Kd.R_mono (Kd.R_told (Kd.R_told (Kd.R_old (Kd.rup HO_4.out) hb) (Kd.R_base ho0)) (Kd.R_base ho1)) (fun _ h_ => h_.1)); have n1_ := Aside0.mk (Kd.R_mono (Kd.R_told (Kd.R_told (Kd.R_old (Kd.rup HO_6.out) hb) (Kd.R_base ho0)) (Kd.R_base ho1)) (fun _ h_ => h_.1)); have n2_ := Aside0.mk (Kd.R_mono (Kd.R_told (Kd.R_told (Kd.R_old (Kd.rup HO_348005.out) hb) (Kd.R_base ho0)) (Kd.R_base ho1)) (fun _ h_ => h_.1)); have n3_ := Aside0.mk (Kd.R_mono (Kd.R_told (Kd.R_told (Kd.R_old (Kd.rup HO_348009.out) hb) (Kd.R_base ho0)) (Kd.R_base ho1)) (fun _ h_ => h_.1)); have n4_ := Aside0.mk (Kd.R_lower (Kd.R_new' (Kd.R_new' (Kd.R_new' (Kd.R_new' ho0 (Kd.R_lt (Kd.rup HO_4.out))) (Kd.R_lt (Kd.rup HO_6.out))) (Kd.R_lt (Kd.rup HO_348005.out))) (Kd.R_lt (Kd.rup HO_348009.out))) (below_size (by with_reducible repeat (first | exact HB.out | refine h4 ?_ GE314.out | refine h4 ?_ GE347.out | apply h1 | apply h2 | apply h3)))); have n5_ := Aside0.mk (Kd.R_lower (Kd.R_new' (Kd.R_new' (Kd.R_new' (Kd.R_new' ho1 (Kd.R_lt (Kd.rup HO_4.out))) (Kd.R_lt (Kd.rup HO_6.out))) (Kd.R_lt (Kd.rup HO_348005.out))) (Kd.R_lt (Kd.rup HO_348009.out))) (below_size (by with_reducible repeat (first | exact HB.out | refine h4 ?_ GE314.out | refine h4 ?_ GE347.out | apply h1 | apply h2 | apply h3)))); have n6_ := Aside0.mk (blk_below (g := gb314) (o := .cells #[.int .i64 a0_0, .int .i64 a0_1, .int .i64 a0_2, .int .i64 a0_3, .float .f64 a0_4, .slice A0_5 l0_5.length c0_5, .int .i64 a0_6, .int .i64 a0_7, .float .f64 a0_8, .slice A0_9 l0_9.length c0_9] 45 (0, 0)) (bup BK314.out) hb); have n7_ := Aside0.mk (blk_below (g := gb347) (o := .cells #[.int .i64 t333, .int .i64 t334, .int .i64 t335, .int .i64 t336, .float .f64 t337, .slice Ao31 t368.length co31, .int .i64 t341, .int .i64 t342, .float .f64 t343, .slice Ao32 t369.length co32] 49 (0, 0)) (bup BK347.out) hb); have n8_ := Aside0.mk (below_step (by with_reducible repeat (first | exact HB.out | refine h4 ?_ GE314.out | refine h4 ?_ GE347.out | apply h1 | apply h2 | apply h3)) hb); clear HO_4; clear HO_6; clear HO_348005; clear HO_348009; clear BK314; clear BK347; clear HB; have HO_4 := n0_; have HO_6 := n1_; have HO_348005 := n2_; have HO_348009 := n3_; have HO381 := n4_; have HO387 := n5_; have BK314 := n6_; have BK347 := n7_; have HB := n8_; clear n0_ n1_ n2_ n3_ n4_ n5_ n6_ n7_ n8_; (try clear hb); (try clear hb2); (try clear hk); (try clear hi); (try clear ho0); (try clear ho1); obtain ⟨Ao61, co61, eo61⟩ := Kd.R_slice HO381.out; subst eo61; obtain ⟨Ao62, co62, eo62⟩ := Kd.R_slice HO387.out; subst eo62) | ((with_reducible refine gate_callee (f := 34) rfl ?_); refine goesL_ (some 56) rfl rfl Try.func34 (by kernel_rfl) rfl #[.agg #[.int .i64 t374, .int .i64 t375, .int .i64 t376, .int .i64 t377, .float .f64 t378, .slice Ao61 t379.length co61, .int .i64 t382, .int .i64 t383, .float .f64 t384, .slice Ao62 t385.length co62]] rfl (by (try simp only [List.map_toArray, List.map_cons, List.map_nil]); first | done | rfl) ?_; (with_reducible refine (impl_TupleBytes.calls kj16 t374 t375 t376 t377 t378 _ _ t379 t382 t383 t384 _ _ t385 t388 _ ?side1 ?side2 ?side3 ?side4 A51.out).mono ?_); (case side1 => repeat (first | exact (Kd.R_reads' HO381.out).2.2 | (with_reducible refine Kd.C_alloc ?_ _) | (with_reducible refine Kd.C_drewN ?_ _) | (with_reducible refine Kd.C_drew ?_))); (case side2 => exact (Kd.R_reads' HO381.out).2.1); (case side3 => repeat (first | exact (Kd.R_reads' HO387.out).2.2 | (with_reducible refine Kd.C_alloc ?_ _) | (with_reducible refine Kd.C_drewN ?_ _) | (with_reducible refine Kd.C_drew ?_))); (case side4 => exact (Kd.R_reads' HO387.out).2.1); rintro e w63 ⟨v389, rfl, ho0, hb⟩; refine ⟨_, rfl, ?_⟩; have n0_ := Aside0.mk (Kd.R_elder' (Kd.rup HO_4.out) (Kd.R_base ho0) hb); have n1_ := Aside0.mk (Kd.R_elder' (Kd.rup HO_6.out) (Kd.R_base ho0) hb); have n2_ := Aside0.mk (Kd.R_elder' (Kd.rup HO_348005.out) (Kd.R_base ho0) hb); have n3_ := Aside0.mk (Kd.R_elder' (Kd.rup HO_348009.out) (Kd.R_base ho0) hb); have n4_ := Aside0.mk (Kd.R_elder' (Kd.rup HO381.out) (Kd.R_base ho0) hb); have n5_ := Aside0.mk (Kd.R_elder' (Kd.rup HO387.out) (Kd.R_base ho0) hb); have n6_ := Aside0.mk (Kd.R_lower (Kd.R_new' (Kd.R_new' (Kd.R_new' (Kd.R_new' (Kd.R_new' (Kd.R_new' ho0 (Kd.R_lt (Kd.rup HO_4.out))) (Kd.R_lt (Kd.rup HO_6.out))) (Kd.R_lt (Kd.rup HO_348005.out))) (Kd.R_lt (Kd.rup HO_348009.out))) (Kd.R_lt (Kd.rup HO381.out))) (Kd.R_lt (Kd.rup HO387.out))) (below_size (by with_reducible repeat (first | exact HB.out | refine h4 ?_ GE314.out | refine h4 ?_ GE347.out | apply h1 | apply h2 | apply h3)))); have n7_ := Aside0.mk (blk_below (g := gb314) (o := .cells #[.int .i64 a0_0, .int .i64 a0_1, .int .i64 a0_2, .int .i64 a0_3, .float .f64 a0_4, .slice A0_5 l0_5.length c0_5, .int .i64 a0_6, .int .i64 a0_7, .float .f64 a0_8, .slice A0_9 l0_9.length c0_9] 45 (0, 0)) (bup BK314.out) hb); have n8_ := Aside0.mk (blk_below (g := gb347) (o := .cells #[.int .i64 t333, .int .i64 t334, .int .i64 t335, .int .i64 t336, .float .f64 t337, .slice Ao31 t368.length co31, .int .i64 t341, .int .i64 t342, .float .f64 t343, .slice Ao32 t369.length co32] 49 (0, 0)) (bup BK347.out) hb); have n9_ := Aside0.mk (below_step (by with_reducible repeat (first | exact HB.out | refine h4 ?_ GE314.out | refine h4 ?_ GE347.out | apply h1 | apply h2 | apply h3)) hb); clear HO_4; clear HO_6; clear HO_348005; clear HO_348009; clear HO381; clear HO387; clear BK314; clear BK347; clear HB; have HO_4 := n0_; have HO_6 := n1_; have HO_348005 := n2_; have HO_348009 := n3_; have HO381 := n4_; have HO387 := n5_; have HO390 := n6_; have BK314 := n7_; have BK347 := n8_; have HB := n9_; clear n0_ n1_ n2_ n3_ n4_ n5_ n6_ n7_ n8_ n9_; (try clear hb); (try clear hb2); (try clear hk); (try clear hi); (try clear ho0); obtain ⟨Ao64, co64, eo64⟩ := Kd.R_slice HO390.out; subst eo64) | ((with_reducible refine gate_callee (f := 13) rfl ?_); refine goesL_ (some 59) rfl rfl Try.func13 (by kernel_rfl) rfl #[.slice Ao64 t388.length co64, .slice Ao35 t330.length co35] rfl (by (try simp only [List.map_toArray, List.map_cons, List.map_nil]); first | done | rfl) ?_; (with_reducible refine (laws_eqByteS.calls kj16 _ _ t388 _ _ t330 true _ ?side1 ?side2 ?side3 ?side4 A52.out).mono ?_); (case side1 => repeat (first | exact (Kd.R_reads' HO390.out).2.2 | (with_reducible refine Kd.C_alloc ?_ _) | (with_reducible refine Kd.C_drewN ?_ _) | (with_reducible refine Kd.C_drew ?_))); (case side2 => exact (Kd.R_reads' HO390.out).2.1); (case side3 => repeat (first | exact (Kd.R_reads' HO_4.out).2.2 | (with_reducible refine Kd.C_alloc ?_ _) | (with_reducible refine Kd.C_drewN ?_ _) | (with_reducible refine Kd.C_drew ?_))); (case side4 => exact (Kd.R_reads' HO_4.out).2.1); rintro e w' ⟨rfl, ⟨nd, rfl⟩⟩; refine ⟨_, rfl, ?_⟩) | ((with_reducible refine gate_callee (f := 37) rfl ?_); refine goesL_ (some 63) rfl rfl Try.func37 (by kernel_rfl) rfl #[.slice Ao34 t372.length co34, .int .i64 1] rfl (by (try simp only [List.map_toArray, List.map_cons, List.map_nil]); first | done | (rw [show t372.length = t348.length from (Kd.R_reads' HO_6.out).1.symm] <;> rfl) | rfl | (simp only [List.length_drop, List.length_take]; rfl)) ?_; (with_reducible refine (laws_heldByteS.calls kj16 _ _ t372 1 t392 _ ?side1 ?side2 A54.out).mono ?_); (case side1 => repeat (first | exact (Kd.R_reads' HO_6.out).2.2 | (with_reducible refine Kd.C_alloc ?_ _) | (with_reducible refine Kd.C_drewN ?_ _) | (with_reducible refine Kd.C_drew ?_))); (case side2 => rw [show t372.length = t348.length from (Kd.R_reads' HO_6.out).1.symm]; exact (Kd.R_reads' HO_6.out).2.1); rintro e w' ⟨rfl, ⟨nd, rfl⟩⟩; refine ⟨_, rfl, ?_⟩))
            go_ret
            exact ⟨by first | rfl | (simp [errW_none, errW_some] <;> rfl) | (simp [*, errW_none, errW_some] <;> rfl), by with_reducible repeat (first | exact HB.out | refine h4 ?_ GE314.out | refine h4 ?_ GE347.out | apply h1 | apply h2 | apply h3)⟩
           ·rw [if_neg c56] at H
            have c56b0 : (t392 == t371) = false := beq_eq_false_iff_ne.mpr c56
            have c56b1 : (t392 != t371) = true := bne_iff_ne.mpr c56
            cases (Option.some.inj H).trans hT
         ·replace c53 := Bool.eq_false_iff.mpr c53
          subst c53
          have H1 : (some false) = some r := by rw [if_neg (show ¬ (false = true) by decide)] at H; exact H
          clear H
          have H := H1
          clear H1
          cases (Option.some.inj H).trans hT
        ·rw [if_neg c49] at H
         have c49b0 : (t373 == t371) = false := beq_eq_false_iff_ne.mpr c49
         have c49b1 : (t373 != t371) = true := bne_iff_ne.mpr c49
         cases (Option.some.inj H).trans hT
   ·replace c15 := Bool.eq_false_iff.mpr c15
    subst c15
    have H1 : (some false) = some r := by rw [if_neg (show ¬ (false = true) by decide)] at H; exact H
    clear H
    have H := H1
    clear H1
    cases (Option.some.inj H).trans hT
  ·replace c12 := Bool.eq_false_iff.mpr c12
   subst c12
   have H1 : (some false) = some r := by rw [if_neg (show ¬ (false = true) by decide)] at H; exact H
   clear H
   have H := H1
   clear H1
   cases (Option.some.inj H).trans hT

end Go.Proofs.Ytjjkhlphdbmdfaa.PFnExactTupleBytes
