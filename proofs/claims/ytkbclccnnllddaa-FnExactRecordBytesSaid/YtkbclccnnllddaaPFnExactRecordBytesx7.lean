-- By this session's own program (wip/xprint.py), over the kit's print.
import Derived.Test.YtkbclccnnllddaaPFnExactRecordBytesx0
import Derived.Test.YtkbclccnnllddaaPFnExactRecordBytesx1
import Derived.Test.YtkbclccnnllddaaPFnExactRecordBytesx3
import Derived.Test.YtkbclccnnllddaaPFnExactRecordBytesx6
namespace Go.Proofs.Ytkbclccnnllddaa.PFnExactRecordBytes
open Go.RowKit Go.Proofs.YtkbclccnnllddaaW.PrintWords Go.Proofs.YtkbclccnnllddaaW.PrintLast Go.Proofs.YtkbclccnnllddaaW.PrintMore
attribute [local go_sem] max2_int min2_int max_two min_two max_three min_three max_four min_four   -- for this text's walks alone
attribute [local go_sem high] fl_eql fl_neq fl_lss fl_leq fl_gtr fl_geq fl_add fl_sub fl_mul fl_quo fl_neg fl_ofInt fl_toInt fl_store
set_option linter.unusedVariables false
set_option linter.unusedSimpArgs false

/-! ### laws_FnExactRecordBytes: function 7 -/
def laws_FnExactRecordBytes.j0 : Nat → List Int → List Int → Bool → Int → Int → Int → Int → Int → List Int → Option (Bool)
  | 0, _, _, _, _, _, _, _, _, _ => none
  | k + 1, x4, x6, x42, x256000, x256001, x256002, x256003, x256004, x256005 => if x42 = true then (some false) else ((laws_markByteS.f k x6 1).bind fun bt293 => ((laws_heldByteS.f k bt293.2 1).bind fun t295 => (if t295 < 0 then (some false) else (if t295 = bt293.1 then ((laws_toRecord.f k x256000 x256001 x256002 x256003 x256004 x256005).bind fun bt296 => ((impl_RecordBytes.f k bt296.1 bt296.2.1 bt296.2.2.1 bt296.2.2.2.1 bt296.2.2.2.2.1 bt296.2.2.2.2.2).bind fun t304 => ((laws_eqByteS.f k t304 x4).bind fun t307 => (if t307 = true then ((laws_heldByteS.f k bt293.2 1).bind fun t308 => (if t308 < 0 then (some false) else (if t308 = bt293.1 then (some true) else (some false)))) else (some false))))) else (some false)))))
def laws_FnExactRecordBytes.f (k : Nat) (a0_0 : Int) (a0_1 : Int) (a0_2 : Int) (a0_3 : Int) (a0_4 : Int) (l0_5 : List Int) : Option (Bool) := (laws_szRecord.f a0_0 a0_1 a0_2 a0_3 a0_4 l0_5 1048576).bind fun t256 => (if t256 < 0 then (some true) else ((laws_toRecord.f k a0_0 a0_1 a0_2 a0_3 a0_4 l0_5).bind fun bt257 => ((spec_RecordBytes.f k bt257.1 bt257.2.1 bt257.2.2.1 bt257.2.2.2.1 bt257.2.2.2.2.1 bt257.2.2.2.2.2).bind fun t265 => ((laws_toRecord.f k a0_0 a0_1 a0_2 a0_3 a0_4 l0_5).bind fun bt268 => ((impl_RecordBytes.f k bt268.1 bt268.2.1 bt268.2.2.1 bt268.2.2.2.1 bt268.2.2.2.2.1 bt268.2.2.2.2.2).bind fun t277 => ((laws_eqByteS.f k t277 t265).bind fun t280 => (if t280 = true then ((laws_toRecord.f k a0_0 a0_1 a0_2 a0_3 a0_4 l0_5).bind fun bt281 => ((laws_eqRecord.f k bt268.1 bt268.2.1 bt268.2.2.1 bt268.2.2.2.1 bt268.2.2.2.2.1 bt268.2.2.2.2.2 bt281.1 bt281.2.1 bt281.2.2.1 bt281.2.2.2.1 bt281.2.2.2.2.1 bt281.2.2.2.2.2).bind fun t289 => (if t289 = true then ((laws_markRecord.f k bt268.1 bt268.2.1 bt268.2.2.1 bt268.2.2.2.1 bt268.2.2.2.2.1 bt268.2.2.2.2.2 1).bind fun bt290 => (if bt290.1 < 0 then (laws_FnExactRecordBytes.j0 k t265 t277 true a0_0 a0_1 a0_2 a0_3 a0_4 l0_5) else ((laws_eqByteS.f k t277 t265).bind fun t292 => (laws_FnExactRecordBytes.j0 k t265 t277 (!t292) a0_0 a0_1 a0_2 a0_3 a0_4 l0_5)))) else (some false)))) else (some false))))))))
theorem laws_FnExactRecordBytes.mono_l : ∀ k, (∀ y0 y1 y2 y3 y4 y5 y6 y7 y8, LeO (laws_FnExactRecordBytes.j0 k y0 y1 y2 y3 y4 y5 y6 y7 y8) (laws_FnExactRecordBytes.j0 (k + 1) y0 y1 y2 y3 y4 y5 y6 y7 y8))
  | 0 => fun _ _ _ _ _ _ _ _ _ r h => by simp [laws_FnExactRecordBytes.j0] at h
  | k + 1 => by
    have ih0 := laws_FnExactRecordBytes.mono_l k
    · intro y0 y1 y2 y3 y4 y5 y6 y7 y8
      unfold laws_FnExactRecordBytes.j0
      repeat' first
      | (with_reducible exact ih0 _ _ _ _ _ _ _ _ _)
      | (with_reducible exact impl_RecordBytes.mono _ _ _ _ _ _ _)
      | (with_reducible exact laws_eqByteS.mono _ _ _)
      | (with_reducible exact laws_eqRecord.mono _ _ _ _ _ _ _ _ _ _ _ _ _)
      | (with_reducible exact laws_heldByteS.mono _ _ _)
      | (with_reducible exact laws_markByteS.mono _ _ _)
      | (with_reducible exact laws_markRecord.mono _ _ _ _ _ _ _ _)
      | (with_reducible exact laws_toRecord.mono _ _ _ _ _ _ _)
      | (with_reducible exact spec_RecordBytes.mono _ _ _ _ _ _ _)
      | (with_reducible exact LeO.refl _)
      | (with_reducible exact LeO.none _)
      | (with_reducible refine LeO.ite ?_ ?_)
      | (with_reducible refine LeO.bind ?_ (fun _ => ?_))
      | exact ih0 _ _ _ _ _ _ _ _ _
      | exact impl_RecordBytes.mono _ _ _ _ _ _ _
      | exact laws_eqByteS.mono _ _ _
      | exact laws_eqRecord.mono _ _ _ _ _ _ _ _ _ _ _ _ _
      | exact laws_heldByteS.mono _ _ _
      | exact laws_markByteS.mono _ _ _
      | exact laws_markRecord.mono _ _ _ _ _ _ _ _
      | exact laws_toRecord.mono _ _ _ _ _ _ _
      | exact spec_RecordBytes.mono _ _ _ _ _ _ _
      | exact LeO.none _
      | refine LeO.ite ?_ ?_
      | refine LeO.bind ?_ (fun _ => ?_)
theorem laws_FnExactRecordBytes.mono : ∀ a0 a1 a2 a3 a4 a5 k, LeO (laws_FnExactRecordBytes.f k a0 a1 a2 a3 a4 a5) (laws_FnExactRecordBytes.f (k + 1) a0 a1 a2 a3 a4 a5) := by
  intro a0 a1 a2 a3 a4 a5 k
  have ih0 := laws_FnExactRecordBytes.mono_l k
  unfold laws_FnExactRecordBytes.f
  repeat' first
      | (with_reducible exact ih0 _ _ _ _ _ _ _ _ _)
      | (with_reducible exact impl_RecordBytes.mono _ _ _ _ _ _ _)
      | (with_reducible exact laws_eqByteS.mono _ _ _)
      | (with_reducible exact laws_eqRecord.mono _ _ _ _ _ _ _ _ _ _ _ _ _)
      | (with_reducible exact laws_heldByteS.mono _ _ _)
      | (with_reducible exact laws_markByteS.mono _ _ _)
      | (with_reducible exact laws_markRecord.mono _ _ _ _ _ _ _ _)
      | (with_reducible exact laws_toRecord.mono _ _ _ _ _ _ _)
      | (with_reducible exact spec_RecordBytes.mono _ _ _ _ _ _ _)
      | (with_reducible exact LeO.refl _)
      | (with_reducible exact LeO.none _)
      | (with_reducible refine LeO.ite ?_ ?_)
      | (with_reducible refine LeO.bind ?_ (fun _ => ?_))
      | exact ih0 _ _ _ _ _ _ _ _ _
      | exact impl_RecordBytes.mono _ _ _ _ _ _ _
      | exact laws_eqByteS.mono _ _ _
      | exact laws_eqRecord.mono _ _ _ _ _ _ _ _ _ _ _ _ _
      | exact laws_heldByteS.mono _ _ _
      | exact laws_markByteS.mono _ _ _
      | exact laws_markRecord.mono _ _ _ _ _ _ _ _
      | exact laws_toRecord.mono _ _ _ _ _ _ _
      | exact spec_RecordBytes.mono _ _ _ _ _ _ _
      | exact LeO.none _
      | refine LeO.ite ?_ ?_
      | refine LeO.bind ?_ (fun _ => ?_)
set_option maxHeartbeats 8000000 in
set_option maxRecDepth 100000 in
theorem laws_FnExactRecordBytes.calls (k : Nat) (a0_0 : Int) (a0_1 : Int) (a0_2 : Int) (a0_3 : Int) (a0_4 : Int) (A0_5 : Option Addr) (c0_5 : Nat) (l0_5 : List Int) (r : Bool) (w : World) (hr0_5 : Kd.C (Kd.int .u8) w A0_5 l0_5.length l0_5) (hc0_5 : l0_5.length ≤ c0_5) (h : laws_FnExactRecordBytes.f k a0_0 a0_1 a0_2 a0_3 a0_4 l0_5 = some r) (hT : r = true := by rfl) :
    Calls Try.prog 7 #[.agg #[.int .i64 a0_0, .int .i64 a0_1, .int .i64 a0_2, .int .i64 a0_3, .int .i64 a0_4, .slice A0_5 l0_5.length c0_5]] w fun e w' => e = .returned (.bool r) ∧ Below w.heap.size w w' := by
  have hu34 := Try.underlying34
  have hu37 := Try.underlying37
  have HR0_5 := Aside0.mk hr0_5
  have HC0_5 := Aside0.mk hc0_5
  clear hr0_5 hc0_5
  have HB := Aside0.mk (Below.refl w.heap.size w)
  have H : ((laws_szRecord.f a0_0 a0_1 a0_2 a0_3 a0_4 l0_5 1048576).bind fun t256 => (if t256 < 0 then (some true) else ((laws_toRecord.f k a0_0 a0_1 a0_2 a0_3 a0_4 l0_5).bind fun bt257 => ((spec_RecordBytes.f k bt257.1 bt257.2.1 bt257.2.2.1 bt257.2.2.2.1 bt257.2.2.2.2.1 bt257.2.2.2.2.2).bind fun t265 => ((laws_toRecord.f k a0_0 a0_1 a0_2 a0_3 a0_4 l0_5).bind fun bt268 => ((impl_RecordBytes.f k bt268.1 bt268.2.1 bt268.2.2.1 bt268.2.2.2.1 bt268.2.2.2.2.1 bt268.2.2.2.2.2).bind fun t277 => ((laws_eqByteS.f k t277 t265).bind fun t280 => (if t280 = true then ((laws_toRecord.f k a0_0 a0_1 a0_2 a0_3 a0_4 l0_5).bind fun bt281 => ((laws_eqRecord.f k bt268.1 bt268.2.1 bt268.2.2.1 bt268.2.2.2.1 bt268.2.2.2.2.1 bt268.2.2.2.2.2 bt281.1 bt281.2.1 bt281.2.2.1 bt281.2.2.2.1 bt281.2.2.2.2.1 bt281.2.2.2.2.2).bind fun t289 => (if t289 = true then ((laws_markRecord.f k bt268.1 bt268.2.1 bt268.2.2.1 bt268.2.2.2.1 bt268.2.2.2.2.1 bt268.2.2.2.2.2 1).bind fun bt290 => (if bt290.1 < 0 then (laws_FnExactRecordBytes.j0 k t265 t277 true a0_0 a0_1 a0_2 a0_3 a0_4 l0_5) else ((laws_eqByteS.f k t277 t265).bind fun t292 => (laws_FnExactRecordBytes.j0 k t265 t277 (!t292) a0_0 a0_1 a0_2 a0_3 a0_4 l0_5)))) else (some false)))) else (some false))))))))) = some r := h
  clear h
  replace H := Option.bind_eq_some_iff.mp H
  obtain ⟨t256, A20, H⟩ := H
  replace H : (if t256 < 0 then (some true) else ((laws_toRecord.f k a0_0 a0_1 a0_2 a0_3 a0_4 l0_5).bind fun bt257 => ((spec_RecordBytes.f k bt257.1 bt257.2.1 bt257.2.2.1 bt257.2.2.2.1 bt257.2.2.2.2.1 bt257.2.2.2.2.2).bind fun t265 => ((laws_toRecord.f k a0_0 a0_1 a0_2 a0_3 a0_4 l0_5).bind fun bt268 => ((impl_RecordBytes.f k bt268.1 bt268.2.1 bt268.2.2.1 bt268.2.2.2.1 bt268.2.2.2.2.1 bt268.2.2.2.2.2).bind fun t277 => ((laws_eqByteS.f k t277 t265).bind fun t280 => (if t280 = true then ((laws_toRecord.f k a0_0 a0_1 a0_2 a0_3 a0_4 l0_5).bind fun bt281 => ((laws_eqRecord.f k bt268.1 bt268.2.1 bt268.2.2.1 bt268.2.2.2.1 bt268.2.2.2.2.1 bt268.2.2.2.2.2 bt281.1 bt281.2.1 bt281.2.2.1 bt281.2.2.2.1 bt281.2.2.2.2.1 bt281.2.2.2.2.2).bind fun t289 => (if t289 = true then ((laws_markRecord.f k bt268.1 bt268.2.1 bt268.2.2.1 bt268.2.2.2.1 bt268.2.2.2.2.1 bt268.2.2.2.2.2 1).bind fun bt290 => (if bt290.1 < 0 then (laws_FnExactRecordBytes.j0 k t265 t277 true a0_0 a0_1 a0_2 a0_3 a0_4 l0_5) else ((laws_eqByteS.f k t277 t265).bind fun t292 => (laws_FnExactRecordBytes.j0 k t265 t277 (!t292) a0_0 a0_1 a0_2 a0_3 a0_4 l0_5)))) else (some false)))) else (some false)))))))) = some r := H
  have A2 := Aside0.mk A20
  clear A20
  by_cases c3 : t256 < 0
  · rw [if_pos c3] at H
    have c3b0 : decide (t256 < 0) = true := decide_eq_true c3
    clear c3
    obtain rfl := Option.some.inj H
    go_enter Try.func7, Try.ntmps7
    go_wp2_with (first | ((with_reducible refine gate_dst (N := 1) rfl ?_); refine box_event ?hg (N := 1) ?hd (cs := #[.int .i64 a0_0, .int .i64 a0_1, .int .i64 a0_2, .int .i64 a0_3, .int .i64 a0_4, .slice A0_5 l0_5.length c0_5]) (t := 34) ?hr ?_; (case hd => rfl); (case hg => rfl); (case hr => first | (go_simp; done) | (go_simp; rfl)); intro gb255 hg w4 hbox hb; have n0_ := Aside0.mk (below_step (by repeat (first | (with_reducible first | exact HB.out | apply below_alloc | apply pw_below_drewN | apply below_drew1) | exact HB.out)) hb); have n1_ := Aside0.mk (hbox); have n2_ := Aside0.mk ((by rw [hg]; exact (below_size (by repeat (first | (with_reducible first | exact HB.out | apply below_alloc | apply pw_below_drewN | apply below_drew1) | exact HB.out))) : w.heap.size ≤ gb255)); have n3_ := Aside0.mk ((by rw [hg]; exact (below_size (by repeat (first | (with_reducible first | exact HB.out | apply below_alloc | apply pw_below_drewN | apply below_drew1) | exact HB.out))) : w.heap.size ≤ gb255)); clear HB; have HB := n0_; have BK255 := n1_; have GW255 := n2_; have GE255 := n3_; clear n0_ n1_ n2_ n3_; clear hb hbox hg; have hcz5_0 : w4.cell? ⟨gb255, 0, none⟩ = some (.int .i64 a0_0) := (blk_cell BK255.out 0).trans rfl; have hcz5_1 : w4.cell? ⟨gb255, 1, none⟩ = some (.int .i64 a0_1) := (blk_cell BK255.out 1).trans rfl; have hcz5_2 : w4.cell? ⟨gb255, 2, none⟩ = some (.int .i64 a0_2) := (blk_cell BK255.out 2).trans rfl; have hcz5_3 : w4.cell? ⟨gb255, 3, none⟩ = some (.int .i64 a0_3) := (blk_cell BK255.out 3).trans rfl; have hcz5_4 : w4.cell? ⟨gb255, 4, none⟩ = some (.int .i64 a0_4) := (blk_cell BK255.out 4).trans rfl; have hcz5_5 : w4.cell? ⟨gb255, 5, none⟩ = some (.slice A0_5 l0_5.length c0_5) := (blk_cell BK255.out 5).trans rfl; have hfz5_0 := blk_frozen BK255.out 0; have hfz5_1 := blk_frozen BK255.out 1; have hfz5_2 := blk_frozen BK255.out 2; have hfz5_3 := blk_frozen BK255.out 3; have hfz5_4 := blk_frozen BK255.out 4; have hfz5_5 := blk_frozen BK255.out 5) | ((with_reducible refine gate_callee (f := 21) rfl ?_); refine goesL_ (some 13) rfl rfl Try.func21 (by kernel_rfl) rfl #[.agg #[.int .i64 a0_0, .int .i64 a0_1, .int .i64 a0_2, .int .i64 a0_3, .int .i64 a0_4, .slice A0_5 l0_5.length c0_5], .int .i64 1048576] rfl (by (try simp only [List.map_toArray, List.map_cons, List.map_nil]); first | done | rfl | (simp only [List.length_drop, List.length_take]; rfl)) ?_; (with_reducible refine (laws_szRecord.calls a0_0 a0_1 a0_2 a0_3 a0_4 _ _ l0_5 1048576 t256 _ ?side1 ?side2 A2.out).mono ?_); (case side1 => repeat (first | exact (Kd.C_below HR0_5.out HB.out) | (with_reducible refine Kd.C_alloc ?_ _) | (with_reducible refine Kd.C_drewN ?_ _) | (with_reducible refine Kd.C_drew ?_))); (case side2 => exact HC0_5.out); rintro e w6 ⟨rfl, hb⟩; refine ⟨_, rfl, ?_⟩; have n0_ := Aside0.mk (blk_below (g := gb255) (o := .cells #[.int .i64 a0_0, .int .i64 a0_1, .int .i64 a0_2, .int .i64 a0_3, .int .i64 a0_4, .slice A0_5 l0_5.length c0_5] 34 (0, 0)) (by (with_reducible repeat (first | refine blk_drewN ?_ _ | refine blk_drew ?_ | refine blk_alloc ?_ _)); exact BK255.out) hb); have n1_ := Aside0.mk (below_step (by repeat (first | (with_reducible first | exact HB.out | apply below_alloc | apply pw_below_drewN | apply below_drew1 | refine below_set ?_ GE255.out) | exact HB.out)) hb); clear BK255; clear HB; have BK255 := n0_; have HB := n1_; clear n0_ n1_; (try clear hb); (try clear hb2); (try clear hk); (try clear hi)))
    go_ret
    exact ⟨by first | rfl | (simp [errW_none, errW_some] <;> rfl) | (simp [*, errW_none, errW_some] <;> rfl), by repeat (first | (with_reducible first | exact HB.out | apply below_alloc | apply pw_below_drewN | apply below_drew1 | refine below_set ?_ GE255.out) | exact HB.out)⟩
  · rw [if_neg c3] at H
    have c3b0 : decide (t256 < 0) = false := decide_eq_false c3
    clear c3
    replace H := Option.bind_eq_some_iff.mp H
    obtain ⟨⟨t257, t258, t259, t260, t261, t262⟩, A70, H⟩ := H
    replace H : ((spec_RecordBytes.f k t257 t258 t259 t260 t261 t262).bind fun t265 => ((laws_toRecord.f k a0_0 a0_1 a0_2 a0_3 a0_4 l0_5).bind fun bt268 => ((impl_RecordBytes.f k bt268.1 bt268.2.1 bt268.2.2.1 bt268.2.2.2.1 bt268.2.2.2.2.1 bt268.2.2.2.2.2).bind fun t277 => ((laws_eqByteS.f k t277 t265).bind fun t280 => (if t280 = true then ((laws_toRecord.f k a0_0 a0_1 a0_2 a0_3 a0_4 l0_5).bind fun bt281 => ((laws_eqRecord.f k bt268.1 bt268.2.1 bt268.2.2.1 bt268.2.2.2.1 bt268.2.2.2.2.1 bt268.2.2.2.2.2 bt281.1 bt281.2.1 bt281.2.2.1 bt281.2.2.2.1 bt281.2.2.2.2.1 bt281.2.2.2.2.2).bind fun t289 => (if t289 = true then ((laws_markRecord.f k bt268.1 bt268.2.1 bt268.2.2.1 bt268.2.2.2.1 bt268.2.2.2.2.1 bt268.2.2.2.2.2 1).bind fun bt290 => (if bt290.1 < 0 then (laws_FnExactRecordBytes.j0 k t265 t277 true a0_0 a0_1 a0_2 a0_3 a0_4 l0_5) else ((laws_eqByteS.f k t277 t265).bind fun t292 => (laws_FnExactRecordBytes.j0 k t265 t277 (!t292) a0_0 a0_1 a0_2 a0_3 a0_4 l0_5)))) else (some false)))) else (some false)))))) = some r := H
    have A7 := Aside0.mk A70
    clear A70
    replace H := Option.bind_eq_some_iff.mp H
    obtain ⟨t265, A80, H⟩ := H
    replace H : ((laws_toRecord.f k a0_0 a0_1 a0_2 a0_3 a0_4 l0_5).bind fun bt268 => ((impl_RecordBytes.f k bt268.1 bt268.2.1 bt268.2.2.1 bt268.2.2.2.1 bt268.2.2.2.2.1 bt268.2.2.2.2.2).bind fun t277 => ((laws_eqByteS.f k t277 t265).bind fun t280 => (if t280 = true then ((laws_toRecord.f k a0_0 a0_1 a0_2 a0_3 a0_4 l0_5).bind fun bt281 => ((laws_eqRecord.f k bt268.1 bt268.2.1 bt268.2.2.1 bt268.2.2.2.1 bt268.2.2.2.2.1 bt268.2.2.2.2.2 bt281.1 bt281.2.1 bt281.2.2.1 bt281.2.2.2.1 bt281.2.2.2.2.1 bt281.2.2.2.2.2).bind fun t289 => (if t289 = true then ((laws_markRecord.f k bt268.1 bt268.2.1 bt268.2.2.1 bt268.2.2.2.1 bt268.2.2.2.2.1 bt268.2.2.2.2.2 1).bind fun bt290 => (if bt290.1 < 0 then (laws_FnExactRecordBytes.j0 k t265 t277 true a0_0 a0_1 a0_2 a0_3 a0_4 l0_5) else ((laws_eqByteS.f k t277 t265).bind fun t292 => (laws_FnExactRecordBytes.j0 k t265 t277 (!t292) a0_0 a0_1 a0_2 a0_3 a0_4 l0_5)))) else (some false)))) else (some false))))) = some r := H
    have A8 := Aside0.mk A80
    clear A80
    replace H := Option.bind_eq_some_iff.mp H
    obtain ⟨⟨t268, t269, t270, t271, t272, t273⟩, A90, H⟩ := H
    replace H : ((impl_RecordBytes.f k t268 t269 t270 t271 t272 t273).bind fun t277 => ((laws_eqByteS.f k t277 t265).bind fun t280 => (if t280 = true then ((laws_toRecord.f k a0_0 a0_1 a0_2 a0_3 a0_4 l0_5).bind fun bt281 => ((laws_eqRecord.f k t268 t269 t270 t271 t272 t273 bt281.1 bt281.2.1 bt281.2.2.1 bt281.2.2.2.1 bt281.2.2.2.2.1 bt281.2.2.2.2.2).bind fun t289 => (if t289 = true then ((laws_markRecord.f k t268 t269 t270 t271 t272 t273 1).bind fun bt290 => (if bt290.1 < 0 then (laws_FnExactRecordBytes.j0 k t265 t277 true a0_0 a0_1 a0_2 a0_3 a0_4 l0_5) else ((laws_eqByteS.f k t277 t265).bind fun t292 => (laws_FnExactRecordBytes.j0 k t265 t277 (!t292) a0_0 a0_1 a0_2 a0_3 a0_4 l0_5)))) else (some false)))) else (some false)))) = some r := H
    have A9 := Aside0.mk A90
    clear A90
    replace H := Option.bind_eq_some_iff.mp H
    obtain ⟨t277, A100, H⟩ := H
    replace H : ((laws_eqByteS.f k t277 t265).bind fun t280 => (if t280 = true then ((laws_toRecord.f k a0_0 a0_1 a0_2 a0_3 a0_4 l0_5).bind fun bt281 => ((laws_eqRecord.f k t268 t269 t270 t271 t272 t273 bt281.1 bt281.2.1 bt281.2.2.1 bt281.2.2.2.1 bt281.2.2.2.2.1 bt281.2.2.2.2.2).bind fun t289 => (if t289 = true then ((laws_markRecord.f k t268 t269 t270 t271 t272 t273 1).bind fun bt290 => (if bt290.1 < 0 then (laws_FnExactRecordBytes.j0 k t265 t277 true a0_0 a0_1 a0_2 a0_3 a0_4 l0_5) else ((laws_eqByteS.f k t277 t265).bind fun t292 => (laws_FnExactRecordBytes.j0 k t265 t277 (!t292) a0_0 a0_1 a0_2 a0_3 a0_4 l0_5)))) else (some false)))) else (some false))) = some r := H
    have A10 := Aside0.mk A100
    clear A100
    replace H := Option.bind_eq_some_iff.mp H
    obtain ⟨t280, A110, H⟩ := H
    replace H : (if t280 = true then ((laws_toRecord.f k a0_0 a0_1 a0_2 a0_3 a0_4 l0_5).bind fun bt281 => ((laws_eqRecord.f k t268 t269 t270 t271 t272 t273 bt281.1 bt281.2.1 bt281.2.2.1 bt281.2.2.2.1 bt281.2.2.2.2.1 bt281.2.2.2.2.2).bind fun t289 => (if t289 = true then ((laws_markRecord.f k t268 t269 t270 t271 t272 t273 1).bind fun bt290 => (if bt290.1 < 0 then (laws_FnExactRecordBytes.j0 k t265 t277 true a0_0 a0_1 a0_2 a0_3 a0_4 l0_5) else ((laws_eqByteS.f k t277 t265).bind fun t292 => (laws_FnExactRecordBytes.j0 k t265 t277 (!t292) a0_0 a0_1 a0_2 a0_3 a0_4 l0_5)))) else (some false)))) else (some false)) = some r := H
    have A11 := Aside0.mk A110
    clear A110
    by_cases c12 : t280 = true
    · subst c12
      have H1 : ((laws_toRecord.f k a0_0 a0_1 a0_2 a0_3 a0_4 l0_5).bind fun bt281 => ((laws_eqRecord.f k t268 t269 t270 t271 t272 t273 bt281.1 bt281.2.1 bt281.2.2.1 bt281.2.2.2.1 bt281.2.2.2.2.1 bt281.2.2.2.2.2).bind fun t289 => (if t289 = true then ((laws_markRecord.f k t268 t269 t270 t271 t272 t273 1).bind fun bt290 => (if bt290.1 < 0 then (laws_FnExactRecordBytes.j0 k t265 t277 true a0_0 a0_1 a0_2 a0_3 a0_4 l0_5) else ((laws_eqByteS.f k t277 t265).bind fun t292 => (laws_FnExactRecordBytes.j0 k t265 t277 (!t292) a0_0 a0_1 a0_2 a0_3 a0_4 l0_5)))) else (some false)))) = some r := by rw [if_pos rfl] at H; exact H
      clear H
      have H := H1
      clear H1
      replace H := Option.bind_eq_some_iff.mp H
      obtain ⟨⟨t281, t282, t283, t284, t285, t286⟩, A130, H⟩ := H
      replace H : ((laws_eqRecord.f k t268 t269 t270 t271 t272 t273 t281 t282 t283 t284 t285 t286).bind fun t289 => (if t289 = true then ((laws_markRecord.f k t268 t269 t270 t271 t272 t273 1).bind fun bt290 => (if bt290.1 < 0 then (laws_FnExactRecordBytes.j0 k t265 t277 true a0_0 a0_1 a0_2 a0_3 a0_4 l0_5) else ((laws_eqByteS.f k t277 t265).bind fun t292 => (laws_FnExactRecordBytes.j0 k t265 t277 (!t292) a0_0 a0_1 a0_2 a0_3 a0_4 l0_5)))) else (some false))) = some r := H
      have A13 := Aside0.mk A130
      clear A130
      replace H := Option.bind_eq_some_iff.mp H
      obtain ⟨t289, A140, H⟩ := H
      replace H : (if t289 = true then ((laws_markRecord.f k t268 t269 t270 t271 t272 t273 1).bind fun bt290 => (if bt290.1 < 0 then (laws_FnExactRecordBytes.j0 k t265 t277 true a0_0 a0_1 a0_2 a0_3 a0_4 l0_5) else ((laws_eqByteS.f k t277 t265).bind fun t292 => (laws_FnExactRecordBytes.j0 k t265 t277 (!t292) a0_0 a0_1 a0_2 a0_3 a0_4 l0_5)))) else (some false)) = some r := H
      have A14 := Aside0.mk A140
      clear A140
      by_cases c15 : t289 = true
      · subst c15
        have H1 : ((laws_markRecord.f k t268 t269 t270 t271 t272 t273 1).bind fun bt290 => (if bt290.1 < 0 then (laws_FnExactRecordBytes.j0 k t265 t277 true a0_0 a0_1 a0_2 a0_3 a0_4 l0_5) else ((laws_eqByteS.f k t277 t265).bind fun t292 => (laws_FnExactRecordBytes.j0 k t265 t277 (!t292) a0_0 a0_1 a0_2 a0_3 a0_4 l0_5)))) = some r := by rw [if_pos rfl] at H; exact H
        clear H
        have H := H1
        clear H1
        replace H := Option.bind_eq_some_iff.mp H
        obtain ⟨⟨t290, t291⟩, A160, H⟩ := H
        replace H : (if t290 < 0 then (laws_FnExactRecordBytes.j0 k t265 t277 true a0_0 a0_1 a0_2 a0_3 a0_4 l0_5) else ((laws_eqByteS.f k t277 t265).bind fun t292 => (laws_FnExactRecordBytes.j0 k t265 t277 (!t292) a0_0 a0_1 a0_2 a0_3 a0_4 l0_5))) = some r := H
        have A16 := Aside0.mk A160
        clear A160
        have HC17 := Aside0.mk H
        clear H
        go_enter Try.func7, Try.ntmps7
        try go_wp2_with (first | ((with_reducible refine gate_dst (N := 1) rfl ?_); refine box_event ?hg (N := 1) ?hd (cs := #[.int .i64 a0_0, .int .i64 a0_1, .int .i64 a0_2, .int .i64 a0_3, .int .i64 a0_4, .slice A0_5 l0_5.length c0_5]) (t := 34) ?hr ?_; (case hd => rfl); (case hg => rfl); (case hr => first | (go_simp; done) | (go_simp; rfl)); intro gb255 hg w18 hbox hb; have n0_ := Aside0.mk (below_step (by repeat (first | (with_reducible first | exact HB.out | apply below_alloc | apply pw_below_drewN | apply below_drew1) | exact HB.out)) hb); have n1_ := Aside0.mk (hbox); have n2_ := Aside0.mk ((by rw [hg]; exact (below_size (by repeat (first | (with_reducible first | exact HB.out | apply below_alloc | apply pw_below_drewN | apply below_drew1) | exact HB.out))) : w.heap.size ≤ gb255)); have n3_ := Aside0.mk ((by rw [hg]; exact (below_size (by repeat (first | (with_reducible first | exact HB.out | apply below_alloc | apply pw_below_drewN | apply below_drew1) | exact HB.out))) : w.heap.size ≤ gb255)); clear HB; have HB := n0_; have BK255 := n1_; have GW255 := n2_; have GE255 := n3_; clear n0_ n1_ n2_ n3_; clear hb hbox hg; have hcz19_0 : w18.cell? ⟨gb255, 0, none⟩ = some (.int .i64 a0_0) := (blk_cell BK255.out 0).trans rfl; have hcz19_1 : w18.cell? ⟨gb255, 1, none⟩ = some (.int .i64 a0_1) := (blk_cell BK255.out 1).trans rfl; have hcz19_2 : w18.cell? ⟨gb255, 2, none⟩ = some (.int .i64 a0_2) := (blk_cell BK255.out 2).trans rfl; have hcz19_3 : w18.cell? ⟨gb255, 3, none⟩ = some (.int .i64 a0_3) := (blk_cell BK255.out 3).trans rfl; have hcz19_4 : w18.cell? ⟨gb255, 4, none⟩ = some (.int .i64 a0_4) := (blk_cell BK255.out 4).trans rfl; have hcz19_5 : w18.cell? ⟨gb255, 5, none⟩ = some (.slice A0_5 l0_5.length c0_5) := (blk_cell BK255.out 5).trans rfl; have hfz19_0 := blk_frozen BK255.out 0; have hfz19_1 := blk_frozen BK255.out 1; have hfz19_2 := blk_frozen BK255.out 2; have hfz19_3 := blk_frozen BK255.out 3; have hfz19_4 := blk_frozen BK255.out 4; have hfz19_5 := blk_frozen BK255.out 5) | ((with_reducible refine gate_callee (f := 21) rfl ?_); refine goesL_ (some 13) rfl rfl Try.func21 (by kernel_rfl) rfl #[.agg #[.int .i64 a0_0, .int .i64 a0_1, .int .i64 a0_2, .int .i64 a0_3, .int .i64 a0_4, .slice A0_5 l0_5.length c0_5], .int .i64 1048576] rfl (by (try simp only [List.map_toArray, List.map_cons, List.map_nil]); first | done | rfl | (simp only [List.length_drop, List.length_take]; rfl)) ?_; (with_reducible refine (laws_szRecord.calls a0_0 a0_1 a0_2 a0_3 a0_4 _ _ l0_5 1048576 t256 _ ?side1 ?side2 A2.out).mono ?_); (case side1 => repeat (first | exact (Kd.C_below HR0_5.out HB.out) | (with_reducible refine Kd.C_alloc ?_ _) | (with_reducible refine Kd.C_drewN ?_ _) | (with_reducible refine Kd.C_drew ?_))); (case side2 => exact HC0_5.out); rintro e w20 ⟨rfl, hb⟩; refine ⟨_, rfl, ?_⟩; have n0_ := Aside0.mk (blk_below (g := gb255) (o := .cells #[.int .i64 a0_0, .int .i64 a0_1, .int .i64 a0_2, .int .i64 a0_3, .int .i64 a0_4, .slice A0_5 l0_5.length c0_5] 34 (0, 0)) (by (with_reducible repeat (first | refine blk_drewN ?_ _ | refine blk_drew ?_ | refine blk_alloc ?_ _)); exact BK255.out) hb); have n1_ := Aside0.mk (below_step (by repeat (first | (with_reducible first | exact HB.out | apply below_alloc | apply pw_below_drewN | apply below_drew1 | refine below_set ?_ GE255.out) | exact HB.out)) hb); clear BK255; clear HB; have BK255 := n0_; have HB := n1_; clear n0_ n1_; (try clear hb); (try clear hb2); (try clear hk); (try clear hi); have hcz21_0 : w20.cell? ⟨gb255, 0, none⟩ = some (.int .i64 a0_0) := (blk_cell BK255.out 0).trans rfl; have hcz21_1 : w20.cell? ⟨gb255, 1, none⟩ = some (.int .i64 a0_1) := (blk_cell BK255.out 1).trans rfl; have hcz21_2 : w20.cell? ⟨gb255, 2, none⟩ = some (.int .i64 a0_2) := (blk_cell BK255.out 2).trans rfl; have hcz21_3 : w20.cell? ⟨gb255, 3, none⟩ = some (.int .i64 a0_3) := (blk_cell BK255.out 3).trans rfl; have hcz21_4 : w20.cell? ⟨gb255, 4, none⟩ = some (.int .i64 a0_4) := (blk_cell BK255.out 4).trans rfl; have hcz21_5 : w20.cell? ⟨gb255, 5, none⟩ = some (.slice A0_5 l0_5.length c0_5) := (blk_cell BK255.out 5).trans rfl; have hfz21_0 := blk_frozen BK255.out 0; have hfz21_1 := blk_frozen BK255.out 1; have hfz21_2 := blk_frozen BK255.out 2; have hfz21_3 := blk_frozen BK255.out 3; have hfz21_4 := blk_frozen BK255.out 4; have hfz21_5 := blk_frozen BK255.out 5) | ((with_reducible refine gate_callee (f := 23) rfl ?_); refine goesL_ (some 17) rfl rfl Try.func23 (by kernel_rfl) rfl #[.agg #[.int .i64 a0_0, .int .i64 a0_1, .int .i64 a0_2, .int .i64 a0_3, .int .i64 a0_4, .slice A0_5 l0_5.length c0_5]] rfl (by (try simp only [List.map_toArray, List.map_cons, List.map_nil]); first | done | rfl | (simp only [List.length_drop, List.length_take]; rfl)) ?_; (with_reducible refine (laws_toRecord.calls k a0_0 a0_1 a0_2 a0_3 a0_4 _ _ l0_5 t257 t258 t259 t260 t261 t262 _ ?side1 ?side2 A7.out).mono ?_); (case side1 => repeat (first | exact (Kd.C_below HR0_5.out HB.out) | (with_reducible refine Kd.C_alloc ?_ _) | (with_reducible refine Kd.C_drewN ?_ _) | (with_reducible refine Kd.C_drew ?_))); (case side2 => exact HC0_5.out); rintro e w22 ⟨v263, rfl, ho0, hb⟩; refine ⟨_, rfl, ?_⟩; have n0_ := Aside0.mk (Kd.R_lower ho0 (below_size (by repeat (first | (with_reducible first | exact HB.out | apply below_alloc | apply pw_below_drewN | apply below_drew1 | refine below_set ?_ GE255.out) | exact HB.out)))); have n1_ := Aside0.mk (blk_below (g := gb255) (o := .cells #[.int .i64 a0_0, .int .i64 a0_1, .int .i64 a0_2, .int .i64 a0_3, .int .i64 a0_4, .slice A0_5 l0_5.length c0_5] 34 (0, 0)) (by (with_reducible repeat (first | refine blk_drewN ?_ _ | refine blk_drew ?_ | refine blk_alloc ?_ _)); exact BK255.out) hb); have n2_ := Aside0.mk (below_step (by repeat (first | (with_reducible first | exact HB.out | apply below_alloc | apply pw_below_drewN | apply below_drew1 | refine below_set ?_ GE255.out) | exact HB.out)) hb); clear BK255; clear HB; have HO264 := n0_; have BK255 := n1_; have HB := n2_; clear n0_ n1_ n2_; (try clear hb); (try clear hb2); (try clear hk); (try clear hi); (try clear ho0); obtain ⟨Ao23, co23, eo23⟩ := Kd.R_slice HO264.out; subst eo23) | ((with_reducible refine gate_callee (f := 26) rfl ?_); refine goesL_ (some 18) rfl rfl Try.func26 (by kernel_rfl) rfl #[.agg #[.int .i64 t257, .int .i64 t258, .int .i64 t259, .int .i64 t260, .int .i64 t261, .slice Ao23 t262.length co23]] rfl (by (try simp only [List.map_toArray, List.map_cons, List.map_nil]); first | done | rfl | (simp only [List.length_drop, List.length_take]; rfl)) ?_; (with_reducible refine (spec_RecordBytes.calls k t257 t258 t259 t260 t261 _ _ t262 t265 _ ?side1 ?side2 A8.out).mono ?_); (case side1 => repeat (first | exact (Kd.R_reads' HO264.out).2.2 | (with_reducible refine Kd.C_alloc ?_ _) | (with_reducible refine Kd.C_drewN ?_ _) | (with_reducible refine Kd.C_drew ?_))); (case side2 => exact (Kd.R_reads' HO264.out).2.1); rintro e w24 ⟨v266, rfl, ho0, hb⟩; refine ⟨_, rfl, ?_⟩; have n0_ := Aside0.mk (Kd.R_elder' (by (with_reducible repeat (first | apply Kd.R_alloc | apply Kd.R_drewN | apply Kd.R_drew)); exact HO264.out) (Kd.R_base ho0) hb); have n1_ := Aside0.mk (Kd.R_lower (Kd.R_new' ho0 (Kd.R_lt (by (with_reducible repeat (first | apply Kd.R_alloc | apply Kd.R_drewN | apply Kd.R_drew)); exact HO264.out))) (below_size (by repeat (first | (with_reducible first | exact HB.out | apply below_alloc | apply pw_below_drewN | apply below_drew1 | refine below_set ?_ GE255.out) | exact HB.out)))); have n2_ := Aside0.mk (blk_below (g := gb255) (o := .cells #[.int .i64 a0_0, .int .i64 a0_1, .int .i64 a0_2, .int .i64 a0_3, .int .i64 a0_4, .slice A0_5 l0_5.length c0_5] 34 (0, 0)) (by (with_reducible repeat (first | refine blk_drewN ?_ _ | refine blk_drew ?_ | refine blk_alloc ?_ _)); exact BK255.out) hb); have n3_ := Aside0.mk (below_step (by repeat (first | (with_reducible first | exact HB.out | apply below_alloc | apply pw_below_drewN | apply below_drew1 | refine below_set ?_ GE255.out) | exact HB.out)) hb); clear HO264; clear BK255; clear HB; have HO264 := n0_; have HO267 := n1_; have BK255 := n2_; have HB := n3_; clear n0_ n1_ n2_ n3_; (try clear hb); (try clear hb2); (try clear hk); (try clear hi); (try clear ho0); have hcz25_0 : w24.cell? ⟨gb255, 0, none⟩ = some (.int .i64 a0_0) := (blk_cell BK255.out 0).trans rfl; have hcz25_1 : w24.cell? ⟨gb255, 1, none⟩ = some (.int .i64 a0_1) := (blk_cell BK255.out 1).trans rfl; have hcz25_2 : w24.cell? ⟨gb255, 2, none⟩ = some (.int .i64 a0_2) := (blk_cell BK255.out 2).trans rfl; have hcz25_3 : w24.cell? ⟨gb255, 3, none⟩ = some (.int .i64 a0_3) := (blk_cell BK255.out 3).trans rfl; have hcz25_4 : w24.cell? ⟨gb255, 4, none⟩ = some (.int .i64 a0_4) := (blk_cell BK255.out 4).trans rfl; have hcz25_5 : w24.cell? ⟨gb255, 5, none⟩ = some (.slice A0_5 l0_5.length c0_5) := (blk_cell BK255.out 5).trans rfl; have hfz25_0 := blk_frozen BK255.out 0; have hfz25_1 := blk_frozen BK255.out 1; have hfz25_2 := blk_frozen BK255.out 2; have hfz25_3 := blk_frozen BK255.out 3; have hfz25_4 := blk_frozen BK255.out 4; have hfz25_5 := blk_frozen BK255.out 5) | ((with_reducible refine gate_callee (f := 23) rfl ?_); refine goesL_ (some 20) rfl rfl Try.func23 (by kernel_rfl) rfl #[.agg #[.int .i64 a0_0, .int .i64 a0_1, .int .i64 a0_2, .int .i64 a0_3, .int .i64 a0_4, .slice A0_5 l0_5.length c0_5]] rfl (by (try simp only [List.map_toArray, List.map_cons, List.map_nil]); first | done | rfl | (simp only [List.length_drop, List.length_take]; rfl)) ?_; (with_reducible refine (laws_toRecord.calls k a0_0 a0_1 a0_2 a0_3 a0_4 _ _ l0_5 t268 t269 t270 t271 t272 t273 _ ?side1 ?side2 A9.out).mono ?_); (case side1 => repeat (first | exact (Kd.C_below HR0_5.out HB.out) | (with_reducible refine Kd.C_alloc ?_ _) | (with_reducible refine Kd.C_drewN ?_ _) | (with_reducible refine Kd.C_drew ?_))); (case side2 => exact HC0_5.out); rintro e w26 ⟨v274, rfl, ho0, hb⟩; refine ⟨_, rfl, ?_⟩; have n0_ := Aside0.mk (Kd.R_elder' (by (with_reducible repeat (first | apply Kd.R_alloc | apply Kd.R_drewN | apply Kd.R_drew)); exact HO264.out) (Kd.R_base ho0) hb); have n1_ := Aside0.mk (Kd.R_elder' (by (with_reducible repeat (first | apply Kd.R_alloc | apply Kd.R_drewN | apply Kd.R_drew)); exact HO267.out) (Kd.R_base ho0) hb); have n2_ := Aside0.mk (Kd.R_lower (Kd.R_new' (Kd.R_new' ho0 (Kd.R_lt (by (with_reducible repeat (first | apply Kd.R_alloc | apply Kd.R_drewN | apply Kd.R_drew)); exact HO264.out))) (Kd.R_lt (by (with_reducible repeat (first | apply Kd.R_alloc | apply Kd.R_drewN | apply Kd.R_drew)); exact HO267.out))) (below_size (by repeat (first | (with_reducible first | exact HB.out | apply below_alloc | apply pw_below_drewN | apply below_drew1 | refine below_set ?_ GE255.out) | exact HB.out)))); have n3_ := Aside0.mk (blk_below (g := gb255) (o := .cells #[.int .i64 a0_0, .int .i64 a0_1, .int .i64 a0_2, .int .i64 a0_3, .int .i64 a0_4, .slice A0_5 l0_5.length c0_5] 34 (0, 0)) (by (with_reducible repeat (first | refine blk_drewN ?_ _ | refine blk_drew ?_ | refine blk_alloc ?_ _)); exact BK255.out) hb); have n4_ := Aside0.mk (below_step (by repeat (first | (with_reducible first | exact HB.out | apply below_alloc | apply pw_below_drewN | apply below_drew1 | refine below_set ?_ GE255.out) | exact HB.out)) hb); clear HO264; clear HO267; clear BK255; clear HB; have HO264 := n0_; have HO267 := n1_; have HO275 := n2_; have BK255 := n3_; have HB := n4_; clear n0_ n1_ n2_ n3_ n4_; (try clear hb); (try clear hb2); (try clear hk); (try clear hi); (try clear ho0)) | ((with_reducible refine gate_dst (N := 5) rfl ?_); refine box_event ?hg (N := 5) ?hd (cs := #[.int .i64 0, .int .i64 0, .int .i64 0, .int .i64 0, .int .i64 0, .slice none 0 0]) (t := 37) ?hr ?_; (case hd => rfl); (case hg => rfl); (case hr => first | (go_simp; done) | (go_simp; rfl)); intro gb276 hg w27 hbox hb; have n0_ := Aside0.mk (Kd.R_below (by (with_reducible repeat (first | apply Kd.R_alloc | apply Kd.R_drewN | apply Kd.R_drew)); exact HO264.out) hb); have n1_ := Aside0.mk (Kd.R_below (by (with_reducible repeat (first | apply Kd.R_alloc | apply Kd.R_drewN | apply Kd.R_drew)); exact HO267.out) hb); have n2_ := Aside0.mk (Kd.R_below (by (with_reducible repeat (first | apply Kd.R_alloc | apply Kd.R_drewN | apply Kd.R_drew)); exact HO275.out) hb); have n3_ := Aside0.mk (blk_below (g := gb255) (o := .cells #[.int .i64 a0_0, .int .i64 a0_1, .int .i64 a0_2, .int .i64 a0_3, .int .i64 a0_4, .slice A0_5 l0_5.length c0_5] 34 (0, 0)) (by (with_reducible repeat (first | refine blk_drewN ?_ _ | refine blk_drew ?_ | refine blk_alloc ?_ _)); exact BK255.out) hb); have n4_ := Aside0.mk (below_step (by repeat (first | (with_reducible first | exact HB.out | apply below_alloc | apply pw_below_drewN | apply below_drew1 | refine below_set ?_ GE255.out) | exact HB.out)) hb); have n5_ := Aside0.mk (hbox); have n6_ := Aside0.mk ((by rw [hg]; exact (below_size (by repeat (first | (with_reducible first | exact HB.out | apply below_alloc | apply pw_below_drewN | apply below_drew1 | refine below_set ?_ GE255.out) | exact HB.out))) : w.heap.size ≤ gb276)); have n7_ := Aside0.mk ((by rw [hg]; exact (below_size (by repeat (first | (with_reducible first | exact HB.out | apply below_alloc | apply pw_below_drewN | apply below_drew1 | refine below_set ?_ GE255.out) | exact HB.out))) : w.heap.size ≤ gb276)); have n8_ := Aside0.mk ((by rw [hg]; exact Nat.ne_of_lt (blk_lt (g := gb255) (o := .cells #[.int .i64 a0_0, .int .i64 a0_1, .int .i64 a0_2, .int .i64 a0_3, .int .i64 a0_4, .slice A0_5 l0_5.length c0_5] 34 (0, 0)) (by (with_reducible repeat (first | refine blk_drewN ?_ _ | refine blk_drew ?_ | refine blk_alloc ?_ _)); exact BK255.out)) : gb255 ≠ gb276)); have n9_ := Aside0.mk ((by rw [hg]; exact Nat.ne_of_gt (blk_lt (g := gb255) (o := .cells #[.int .i64 a0_0, .int .i64 a0_1, .int .i64 a0_2, .int .i64 a0_3, .int .i64 a0_4, .slice A0_5 l0_5.length c0_5] 34 (0, 0)) (by (with_reducible repeat (first | refine blk_drewN ?_ _ | refine blk_drew ?_ | refine blk_alloc ?_ _)); exact BK255.out)) : gb276 ≠ gb255)); clear HO264; clear HO267; clear HO275; clear BK255; clear HB; have HO264 := n0_; have HO267 := n1_; have HO275 := n2_; have BK255 := n3_; have HB := n4_; have BK276 := n5_; have GW276 := n6_; have GE276 := n7_; have NB255_276 := n8_; have NB276_255 := n9_; clear n0_ n1_ n2_ n3_ n4_ n5_ n6_ n7_ n8_ n9_; clear hb hbox hg; have hnb28 := NB276_255.out; have hnc28 := NB255_276.out; have hcz29_0 : w27.cell? ⟨gb276, 0, none⟩ = some (.int .i64 0) := (blk_cell BK276.out 0).trans rfl; have hcz29_1 : w27.cell? ⟨gb276, 1, none⟩ = some (.int .i64 0) := (blk_cell BK276.out 1).trans rfl; have hcz29_2 : w27.cell? ⟨gb276, 2, none⟩ = some (.int .i64 0) := (blk_cell BK276.out 2).trans rfl; have hcz29_3 : w27.cell? ⟨gb276, 3, none⟩ = some (.int .i64 0) := (blk_cell BK276.out 3).trans rfl; have hcz29_4 : w27.cell? ⟨gb276, 4, none⟩ = some (.int .i64 0) := (blk_cell BK276.out 4).trans rfl; have hcz29_5 : w27.cell? ⟨gb276, 5, none⟩ = some (.slice none 0 0) := (blk_cell BK276.out 5).trans rfl; have hfz29_0 := blk_frozen BK276.out 0; have hfz29_1 := blk_frozen BK276.out 1; have hfz29_2 := blk_frozen BK276.out 2; have hfz29_3 := blk_frozen BK276.out 3; have hfz29_4 := blk_frozen BK276.out 4; have hfz29_5 := blk_frozen BK276.out 5; obtain ⟨Ao30, co30, eo30⟩ := Kd.R_slice HO275.out; subst eo30) | ((with_reducible refine gate_store (t := 37) (p := 5) rfl ?_); refine store_event (t := 37) (p := 5) (v := ?vo_w31) (w1 := ((((((w27.setCell ⟨gb276, 0, none⟩ (.int .i64 t268)).setCell ⟨gb276, 1, none⟩ (.int .i64 t269)).setCell ⟨gb276, 2, none⟩ (.int .i64 t270)).setCell ⟨gb276, 3, none⟩ (.int .i64 t271)).setCell ⟨gb276, 4, none⟩ (.int .i64 t272)).setCell ⟨gb276, 5, none⟩ (.slice Ao30 t273.length co30))) ?hg ?ho ?hn ?hr ?_; (case ho => rfl); (case hg => rfl); (case hn => rfl); (case hr => first | (go_simp; done) | (go_simp; rfl)); intro w31 hw; have n0_ : Aside0 (Kd.R (Kd.int .u8) 5 w31 w.heap.size (fun k_ => some k_ ≠ (v266 : Value).ownBlock ∧ some k_ ≠ (.slice Ao30 t273.length co30 : Value).ownBlock) (.slice Ao23 t262.length co23) t262) := ⟨(by rw [hw]; exact (by (with_reducible repeat (first | apply Kd.R_alloc | apply Kd.R_drewN | apply Kd.R_drew)); exact Kd.R_mono (Kd.R_far (p := ⟨gb276, 5, none⟩) (Kd.R_far (p := ⟨gb276, 4, none⟩) (Kd.R_far (p := ⟨gb276, 3, none⟩) (Kd.R_far (p := ⟨gb276, 2, none⟩) (Kd.R_far (p := ⟨gb276, 1, none⟩) (Kd.R_far (p := ⟨gb276, 0, none⟩) (Kd.R_types HO264.out BK276.out (by decide)) (fun _ hk => hk.2) (.int .i64 t268)) (fun _ hk => hk.2) (.int .i64 t269)) (fun _ hk => hk.2) (.int .i64 t270)) (fun _ hk => hk.2) (.int .i64 t271)) (fun _ hk => hk.2) (.int .i64 t272)) (fun _ hk => hk.2) (.slice Ao30 t273.length co30)) (fun _ hk => ⟨hk.1.1.2, hk.1.2⟩)))⟩; have n1_ : Aside0 (Kd.R (Kd.int .u8) 5 w31 w.heap.size (fun k_ => some k_ ≠ (.slice Ao23 t262.length co23 : Value).ownBlock ∧ some k_ ≠ (.slice Ao30 t273.length co30 : Value).ownBlock) v266 t265) := ⟨(by rw [hw]; exact (by (with_reducible repeat (first | apply Kd.R_alloc | apply Kd.R_drewN | apply Kd.R_drew)); exact Kd.R_mono (Kd.R_far (p := ⟨gb276, 5, none⟩) (Kd.R_far (p := ⟨gb276, 4, none⟩) (Kd.R_far (p := ⟨gb276, 3, none⟩) (Kd.R_far (p := ⟨gb276, 2, none⟩) (Kd.R_far (p := ⟨gb276, 1, none⟩) (Kd.R_far (p := ⟨gb276, 0, none⟩) (Kd.R_types HO267.out BK276.out (by decide)) (fun _ hk => hk.2) (.int .i64 t268)) (fun _ hk => hk.2) (.int .i64 t269)) (fun _ hk => hk.2) (.int .i64 t270)) (fun _ hk => hk.2) (.int .i64 t271)) (fun _ hk => hk.2) (.int .i64 t272)) (fun _ hk => hk.2) (.slice Ao30 t273.length co30)) (fun _ hk => ⟨hk.1.1.2, hk.1.2⟩)))⟩; have n2_ : Aside0 (Kd.R (Kd.int .u8) 5 w31 w.heap.size (fun k_ => some k_ ≠ (.slice Ao23 t262.length co23 : Value).ownBlock ∧ some k_ ≠ (v266 : Value).ownBlock) (.slice Ao30 t273.length co30) t273) := ⟨(by rw [hw]; exact (by (with_reducible repeat (first | apply Kd.R_alloc | apply Kd.R_drewN | apply Kd.R_drew)); exact Kd.R_mono (Kd.R_far (p := ⟨gb276, 5, none⟩) (Kd.R_far (p := ⟨gb276, 4, none⟩) (Kd.R_far (p := ⟨gb276, 3, none⟩) (Kd.R_far (p := ⟨gb276, 2, none⟩) (Kd.R_far (p := ⟨gb276, 1, none⟩) (Kd.R_far (p := ⟨gb276, 0, none⟩) (Kd.R_types HO275.out BK276.out (by decide)) (fun _ hk => hk.2) (.int .i64 t268)) (fun _ hk => hk.2) (.int .i64 t269)) (fun _ hk => hk.2) (.int .i64 t270)) (fun _ hk => hk.2) (.int .i64 t271)) (fun _ hk => hk.2) (.int .i64 t272)) (fun _ hk => hk.2) (.slice Ao30 t273.length co30)) (fun _ hk => ⟨hk.1.1.2, hk.1.2⟩)))⟩; have n3_ : Aside0 (w31.heap[gb255]? = some (.cells #[.int .i64 a0_0, .int .i64 a0_1, .int .i64 a0_2, .int .i64 a0_3, .int .i64 a0_4, .slice A0_5 l0_5.length c0_5] 34 (0, 0))) := ⟨(by rw [hw]; exact (by (with_reducible repeat (first | refine blk_drewN ?_ _ | refine blk_drew ?_ | refine blk_alloc ?_ _)); refine blk_far ?_ NB255_276.out _; (with_reducible repeat (first | refine blk_drewN ?_ _ | refine blk_drew ?_ | refine blk_alloc ?_ _)); refine blk_far ?_ NB255_276.out _; (with_reducible repeat (first | refine blk_drewN ?_ _ | refine blk_drew ?_ | refine blk_alloc ?_ _)); refine blk_far ?_ NB255_276.out _; (with_reducible repeat (first | refine blk_drewN ?_ _ | refine blk_drew ?_ | refine blk_alloc ?_ _)); refine blk_far ?_ NB255_276.out _; (with_reducible repeat (first | refine blk_drewN ?_ _ | refine blk_drew ?_ | refine blk_alloc ?_ _)); refine blk_far ?_ NB255_276.out _; (with_reducible repeat (first | refine blk_drewN ?_ _ | refine blk_drew ?_ | refine blk_alloc ?_ _)); refine blk_far ?_ NB255_276.out _; (with_reducible repeat (first | refine blk_drewN ?_ _ | refine blk_drew ?_ | refine blk_alloc ?_ _)); exact BK255.out))⟩; have n4_ : Aside0 (w31.heap[gb276]? = some (.cells #[.int .i64 t268, .int .i64 t269, .int .i64 t270, .int .i64 t271, .int .i64 t272, .slice Ao30 t273.length co30] 37 (0, 0))) := ⟨(by rw [hw]; exact (by (with_reducible repeat (first | refine blk_drewN ?_ _ | refine blk_drew ?_ | refine blk_alloc ?_ _)); refine blk_put (cs := #[.int .i64 t268, .int .i64 t269, .int .i64 t270, .int .i64 t271, .int .i64 t272, .slice none 0 0]) ?_ 5 _ rfl; (with_reducible repeat (first | refine blk_drewN ?_ _ | refine blk_drew ?_ | refine blk_alloc ?_ _)); refine blk_put (cs := #[.int .i64 t268, .int .i64 t269, .int .i64 t270, .int .i64 t271, .int .i64 0, .slice none 0 0]) ?_ 4 _ rfl; (with_reducible repeat (first | refine blk_drewN ?_ _ | refine blk_drew ?_ | refine blk_alloc ?_ _)); refine blk_put (cs := #[.int .i64 t268, .int .i64 t269, .int .i64 t270, .int .i64 0, .int .i64 0, .slice none 0 0]) ?_ 3 _ rfl; (with_reducible repeat (first | refine blk_drewN ?_ _ | refine blk_drew ?_ | refine blk_alloc ?_ _)); refine blk_put (cs := #[.int .i64 t268, .int .i64 t269, .int .i64 0, .int .i64 0, .int .i64 0, .slice none 0 0]) ?_ 2 _ rfl; (with_reducible repeat (first | refine blk_drewN ?_ _ | refine blk_drew ?_ | refine blk_alloc ?_ _)); refine blk_put (cs := #[.int .i64 t268, .int .i64 0, .int .i64 0, .int .i64 0, .int .i64 0, .slice none 0 0]) ?_ 1 _ rfl; (with_reducible repeat (first | refine blk_drewN ?_ _ | refine blk_drew ?_ | refine blk_alloc ?_ _)); refine blk_put (cs := #[.int .i64 0, .int .i64 0, .int .i64 0, .int .i64 0, .int .i64 0, .slice none 0 0]) ?_ 0 _ rfl; (with_reducible repeat (first | refine blk_drewN ?_ _ | refine blk_drew ?_ | refine blk_alloc ?_ _)); exact BK276.out))⟩; have n5_ : Aside0 (Below w.heap.size w w31) := ⟨(by rw [hw]; exact (by repeat (first | (with_reducible first | exact HB.out | apply below_alloc | apply pw_below_drewN | apply below_drew1 | refine below_set ?_ GE255.out | refine below_set ?_ GE276.out) | exact HB.out)))⟩; clear hw; clear HO264; clear HO267; clear HO275; clear BK255; clear BK276; clear HB; have HO264 := n0_; have HO267 := n1_; have HO275 := n2_; have BK255 := n3_; have BK276 := n4_; have HB := n5_; clear n0_ n1_ n2_ n3_ n4_ n5_; have hcz32_0 : w31.cell? ⟨gb276, 0, none⟩ = some (.int .i64 t268) := (blk_cell BK276.out 0).trans rfl; have hcz32_1 : w31.cell? ⟨gb276, 1, none⟩ = some (.int .i64 t269) := (blk_cell BK276.out 1).trans rfl; have hcz32_2 : w31.cell? ⟨gb276, 2, none⟩ = some (.int .i64 t270) := (blk_cell BK276.out 2).trans rfl; have hcz32_3 : w31.cell? ⟨gb276, 3, none⟩ = some (.int .i64 t271) := (blk_cell BK276.out 3).trans rfl; have hcz32_4 : w31.cell? ⟨gb276, 4, none⟩ = some (.int .i64 t272) := (blk_cell BK276.out 4).trans rfl; have hcz32_5 : w31.cell? ⟨gb276, 5, none⟩ = some (.slice Ao30 t273.length co30) := (blk_cell BK276.out 5).trans rfl; have hfz32_0 := blk_frozen BK276.out 0; have hfz32_1 := blk_frozen BK276.out 1; have hfz32_2 := blk_frozen BK276.out 2; have hfz32_3 := blk_frozen BK276.out 3; have hfz32_4 := blk_frozen BK276.out 4; have hfz32_5 := blk_frozen BK276.out 5) | ((with_reducible refine gate_callee (f := 27) rfl ?_); refine goesL_ (some 22) rfl rfl Try.func27 (by kernel_rfl) rfl #[.agg #[.int .i64 t268, .int .i64 t269, .int .i64 t270, .int .i64 t271, .int .i64 t272, .slice Ao30 t273.length co30]] rfl (by (try simp only [List.map_toArray, List.map_cons, List.map_nil]); first | done | rfl | (simp only [List.length_drop, List.length_take]; rfl)) ?_; (with_reducible refine (impl_RecordBytes.calls k t268 t269 t270 t271 t272 (fun k_ => some k_ = (.slice Ao30 t273.length co30 : Value).ownBlock) _ _ t273 t277 _ ?side1 A10.out).mono ?_); (case side1 => exact Kd.R_V (Kd.R_tight rfl (Kd.R_types (Kd.R_types (HO275.out) BK255.out (by decide)) BK276.out (by decide)))); rintro e w33 ⟨v278, rfl, ho0, hb⟩; refine ⟨_, rfl, ?_⟩; have n0_ := Aside0.mk (Kd.R_elder' (by (with_reducible repeat (first | apply Kd.R_alloc | apply Kd.R_drewN | apply Kd.R_drew)); exact HO264.out) (Kd.R_base ho0) hb); have n1_ := Aside0.mk (Kd.R_elder' (by (with_reducible repeat (first | apply Kd.R_alloc | apply Kd.R_drewN | apply Kd.R_drew)); exact HO267.out) (Kd.R_base ho0) hb); have n2_ := Aside0.mk (Kd.R_elder' (by (with_reducible repeat (first | apply Kd.R_alloc | apply Kd.R_drewN | apply Kd.R_drew)); exact HO275.out) (Kd.R_base ho0) hb); have n3_ := Aside0.mk (Kd.R_lower (Kd.R_new' (Kd.R_new' (Kd.R_new' (Kd.R_mono (ok' := fun k_ => True) ho0 (fun _ hk_ => trivial)) (Kd.R_lt (by (with_reducible repeat (first | apply Kd.R_alloc | apply Kd.R_drewN | apply Kd.R_drew)); exact HO264.out))) (Kd.R_lt (by (with_reducible repeat (first | apply Kd.R_alloc | apply Kd.R_drewN | apply Kd.R_drew)); exact HO267.out))) (Kd.R_lt (by (with_reducible repeat (first | apply Kd.R_alloc | apply Kd.R_drewN | apply Kd.R_drew)); exact HO275.out))) (below_size (by repeat (first | (with_reducible first | exact HB.out | apply below_alloc | apply pw_below_drewN | apply below_drew1 | refine below_set ?_ GE255.out | refine below_set ?_ GE276.out) | exact HB.out)))); have n4_ := Aside0.mk (blk_below (g := gb255) (o := .cells #[.int .i64 a0_0, .int .i64 a0_1, .int .i64 a0_2, .int .i64 a0_3, .int .i64 a0_4, .slice A0_5 l0_5.length c0_5] 34 (0, 0)) (by (with_reducible repeat (first | refine blk_drewN ?_ _ | refine blk_drew ?_ | refine blk_alloc ?_ _)); exact BK255.out) hb); have n5_ := Aside0.mk (blk_below (g := gb276) (o := .cells #[.int .i64 t268, .int .i64 t269, .int .i64 t270, .int .i64 t271, .int .i64 t272, .slice Ao30 t273.length co30] 37 (0, 0)) (by (with_reducible repeat (first | refine blk_drewN ?_ _ | refine blk_drew ?_ | refine blk_alloc ?_ _)); exact BK276.out) hb); have n6_ := Aside0.mk (below_step (by repeat (first | (with_reducible first | exact HB.out | apply below_alloc | apply pw_below_drewN | apply below_drew1 | refine below_set ?_ GE255.out | refine below_set ?_ GE276.out) | exact HB.out)) hb); clear HO264; clear HO267; clear HO275; clear BK255; clear BK276; clear HB; have HO264 := n0_; have HO267 := n1_; have HO275 := n2_; have HO279 := n3_; have BK255 := n4_; have BK276 := n5_; have HB := n6_; clear n0_ n1_ n2_ n3_ n4_ n5_ n6_; (try clear hb); (try clear hb2); (try clear hk); (try clear hi); (try clear ho0); obtain ⟨Ao34, co34, eo34⟩ := Kd.R_slice HO279.out; subst eo34; obtain ⟨Ao35, co35, eo35⟩ := Kd.R_slice HO267.out; subst eo35) | ((with_reducible refine gate_callee (f := 14) rfl ?_); refine goesL_ (some 25) rfl rfl Try.func14 (by kernel_rfl) rfl #[.slice Ao34 t277.length co34, .slice Ao35 t265.length co35] rfl (by (try simp only [List.map_toArray, List.map_cons, List.map_nil]); first | done | rfl | (simp only [List.length_drop, List.length_take]; rfl)) ?_; (with_reducible refine (laws_eqByteS.calls k _ _ t277 _ _ t265 true _ ?side1 ?side2 ?side3 ?side4 A11.out).mono ?_); (case side1 => repeat (first | exact (Kd.R_reads' HO279.out).2.2 | (with_reducible refine Kd.C_alloc ?_ _) | (with_reducible refine Kd.C_drewN ?_ _) | (with_reducible refine Kd.C_drew ?_))); (case side2 => exact (Kd.R_reads' HO279.out).2.1); (case side3 => repeat (first | exact (Kd.R_reads' HO267.out).2.2 | (with_reducible refine Kd.C_alloc ?_ _) | (with_reducible refine Kd.C_drewN ?_ _) | (with_reducible refine Kd.C_drew ?_))); (case side4 => exact (Kd.R_reads' HO267.out).2.1); rintro e w' ⟨rfl, ⟨nd, rfl⟩⟩; refine ⟨_, rfl, ?_⟩))
        (try (rw [drewN_self w33]; generalize hq_ : World.drewN w33 _ = w33; have n0_ : Aside0 (Kd.R (Kd.int .u8) 5 w33 w.heap.size (fun k_ => ((some k_ ≠ (.slice Ao35 t265.length co35 : Value).ownBlock ∧ some k_ ≠ (.slice Ao30 t273.length co30 : Value).ownBlock) ∧ some k_ ≠ (.slice Ao34 t277.length co34 : Value).ownBlock)) (.slice Ao23 t262.length co23) t262) := ⟨by rw [← hq_]; exact (by (with_reducible repeat (first | apply Kd.R_alloc | apply Kd.R_drewN | apply Kd.R_drew)); exact HO264.out)⟩; have n1_ : Aside0 (Kd.R (Kd.int .u8) 5 w33 w.heap.size (fun k_ => ((some k_ ≠ (.slice Ao23 t262.length co23 : Value).ownBlock ∧ some k_ ≠ (.slice Ao30 t273.length co30 : Value).ownBlock) ∧ some k_ ≠ (.slice Ao34 t277.length co34 : Value).ownBlock)) (.slice Ao35 t265.length co35) t265) := ⟨by rw [← hq_]; exact (by (with_reducible repeat (first | apply Kd.R_alloc | apply Kd.R_drewN | apply Kd.R_drew)); exact HO267.out)⟩; have n2_ : Aside0 (Kd.R (Kd.int .u8) 5 w33 w.heap.size (fun k_ => ((some k_ ≠ (.slice Ao23 t262.length co23 : Value).ownBlock ∧ some k_ ≠ (.slice Ao35 t265.length co35 : Value).ownBlock) ∧ some k_ ≠ (.slice Ao34 t277.length co34 : Value).ownBlock)) (.slice Ao30 t273.length co30) t273) := ⟨by rw [← hq_]; exact (by (with_reducible repeat (first | apply Kd.R_alloc | apply Kd.R_drewN | apply Kd.R_drew)); exact HO275.out)⟩; have n3_ : Aside0 (Kd.R (Kd.int .u8) 5 w33 w.heap.size (fun k_ => (((True ∧ some k_ ≠ (.slice Ao23 t262.length co23 : Value).ownBlock) ∧ some k_ ≠ (.slice Ao35 t265.length co35 : Value).ownBlock) ∧ some k_ ≠ (.slice Ao30 t273.length co30 : Value).ownBlock)) (.slice Ao34 t277.length co34) t277) := ⟨by rw [← hq_]; exact (by (with_reducible repeat (first | apply Kd.R_alloc | apply Kd.R_drewN | apply Kd.R_drew)); exact HO279.out)⟩; have n4_ : Aside0 (w33.heap[gb255]? = some (.cells #[.int .i64 a0_0, .int .i64 a0_1, .int .i64 a0_2, .int .i64 a0_3, .int .i64 a0_4, .slice A0_5 l0_5.length c0_5] 34 (0, 0))) := ⟨by rw [← hq_]; exact (by (with_reducible repeat (first | refine blk_drewN ?_ _ | refine blk_drew ?_ | refine blk_alloc ?_ _)); exact BK255.out)⟩; have n5_ : Aside0 (w33.heap[gb276]? = some (.cells #[.int .i64 t268, .int .i64 t269, .int .i64 t270, .int .i64 t271, .int .i64 t272, .slice Ao30 t273.length co30] 37 (0, 0))) := ⟨by rw [← hq_]; exact (by (with_reducible repeat (first | refine blk_drewN ?_ _ | refine blk_drew ?_ | refine blk_alloc ?_ _)); exact BK276.out)⟩; have n6_ : Aside0 (Below w.heap.size w w33) := ⟨by rw [← hq_]; exact (by repeat (first | (with_reducible first | exact HB.out | apply below_alloc | apply pw_below_drewN | apply below_drew1 | refine below_set ?_ GE255.out | refine below_set ?_ GE276.out) | exact HB.out))⟩; clear HO264 HO267 HO275 HO279 BK255 BK276 HB hq_; have HO264 := n0_; have HO267 := n1_; have HO275 := n2_; have HO279 := n3_; have BK255 := n4_; have BK276 := n5_; have HB := n6_; clear n0_ n1_ n2_ n3_ n4_ n5_ n6_))
        have n0_ := Aside0.mk (Kd.R_drew HO264.out)
        have n1_ := Aside0.mk (Kd.R_drew HO267.out)
        have n2_ := Aside0.mk (Kd.R_drew HO275.out)
        have n3_ := Aside0.mk (Kd.R_drew HO279.out)
        have n4_ := Aside0.mk (blk_drew BK255.out)
        have n5_ := Aside0.mk (blk_drew BK276.out)
        have n6_ := Aside0.mk (below_drew1 HB.out)
        clear HO264
        clear HO267
        clear HO275
        clear HO279
        clear BK255
        clear BK276
        clear HB
        have HO264 := n0_
        have HO267 := n1_
        have HO275 := n2_
        have HO279 := n3_
        have BK255 := n4_
        have BK276 := n5_
        have HB := n6_
        clear n0_ n1_ n2_ n3_ n4_ n5_ n6_
        refine start_ (n := 5) (S := fun w' => w'.cell? ⟨gb276, 0, none⟩ = some (.int .i64 t268) ∧ w'.cell? ⟨gb276, 1, none⟩ = some (.int .i64 t269) ∧ w'.cell? ⟨gb276, 2, none⟩ = some (.int .i64 t270) ∧ w'.cell? ⟨gb276, 3, none⟩ = some (.int .i64 t271) ∧ w'.cell? ⟨gb276, 4, none⟩ = some (.int .i64 t272) ∧ w'.cell? ⟨gb276, 5, none⟩ = some (.slice Ao30 t273.length co30) ∧ w'.cell? ⟨gb255, 0, none⟩ = some (.int .i64 a0_0) ∧ w'.cell? ⟨gb255, 1, none⟩ = some (.int .i64 a0_1) ∧ w'.cell? ⟨gb255, 2, none⟩ = some (.int .i64 a0_2) ∧ w'.cell? ⟨gb255, 3, none⟩ = some (.int .i64 a0_3) ∧ w'.cell? ⟨gb255, 4, none⟩ = some (.int .i64 a0_4) ∧ w'.cell? ⟨gb255, 5, none⟩ = some (.slice A0_5 l0_5.length c0_5)) (ds := []) #[false, false, false, false, false] (by kernel_rfl) rfl rfl ⟨(blk_cell BK276.out 0).trans rfl, (blk_cell BK276.out 1).trans rfl, (blk_cell BK276.out 2).trans rfl, (blk_cell BK276.out 3).trans rfl, (blk_cell BK276.out 4).trans rfl, (blk_cell BK276.out 5).trans rfl, (blk_cell BK255.out 0).trans rfl, (blk_cell BK255.out 1).trans rfl, (blk_cell BK255.out 2).trans rfl, (blk_cell BK255.out 3).trans rfl, (blk_cell BK255.out 4).trans rfl, (blk_cell BK255.out 5).trans rfl⟩ (fun hHeld => ?_)
        generalize w33.drew = w36 at HO264 HO267 HO275 HO279 BK255 BK276 HB hHeld ⊢
        refine take_ (i := 0) (N := some 27) (v := ?_) (a' := ?_) #[true, false, false, false, false] rfl rfl (by kernel_rfl) (fun _ _ _ h => h) (Or.inl ⟨by rfl, ?_⟩) hHeld ?_ ?_
        rotate_left
        · rintro w' ⟨s0, s1, s2, s3, s4, s5, s6, s7, s8, s9, s10, s11⟩
          go_simp
          with_reducible rfl
        rotate_left
        · simp only [Act.put, List.setIfInBounds_toArray, List.set_cons_zero, List.set_cons_succ, i64_w, i32_w]
          rfl
        refine take_ (i := 1) (N := some 28) (v := ?_) (a' := ?_) #[true, true, false, false, false] rfl rfl (by kernel_rfl) (fun _ _ _ h => h) (Or.inl ⟨by rfl, ?_⟩) hHeld ?_ ?_
        rotate_left
        · rintro w' ⟨s0, s1, s2, s3, s4, s5, s6, s7, s8, s9, s10, s11⟩
          go_simp
          with_reducible rfl
        rotate_left
        · simp only [Act.put, List.setIfInBounds_toArray, List.set_cons_zero, List.set_cons_succ, i64_w, i32_w]
          rfl
        refine one_ (i := 2) (N := some 29) #[true, true, true, false, false] rfl rfl (by kernel_rfl) (by decide) (fun K hK => ?_)
        refine goes_ Try.func23 (by kernel_rfl) rfl #[.agg #[.int .i64 a0_0, .int .i64 a0_1, .int .i64 a0_2, .int .i64 a0_3, .int .i64 a0_4, .slice A0_5 l0_5.length c0_5]] (by rfl) rfl rfl (by (try simp only [List.map_toArray, List.map_cons, List.map_nil]); first | done | rfl | (simp only [List.length_drop, List.length_take]; rfl)) ?_
        with_reducible refine (laws_toRecord.calls k a0_0 a0_1 a0_2 a0_3 a0_4 _ _ l0_5 t281 t282 t283 t284 t285 t286 _ ?side1 ?side2 A13.out).mono ?_
        (case side1 => repeat (first | exact (Kd.C_below HR0_5.out HB.out) | (with_reducible refine Kd.C_alloc ?_ _) | (with_reducible refine Kd.C_drewN ?_ _) | (with_reducible refine Kd.C_drew ?_)))
        (case side2 => exact HC0_5.out)
        rintro e w37 ⟨v287, rfl, ho0, hb⟩
        refine ⟨_, rfl, ?_⟩
        have n0_ := Aside0.mk (Kd.R_elder' (by (with_reducible repeat (first | apply Kd.R_alloc | apply Kd.R_drewN | apply Kd.R_drew)); exact HO264.out) (Kd.R_base ho0) hb)
        have n1_ := Aside0.mk (Kd.R_elder' (by (with_reducible repeat (first | apply Kd.R_alloc | apply Kd.R_drewN | apply Kd.R_drew)); exact HO267.out) (Kd.R_base ho0) hb)
        have n2_ := Aside0.mk (Kd.R_elder' (by (with_reducible repeat (first | apply Kd.R_alloc | apply Kd.R_drewN | apply Kd.R_drew)); exact HO275.out) (Kd.R_base ho0) hb)
        have n3_ := Aside0.mk (Kd.R_elder' (by (with_reducible repeat (first | apply Kd.R_alloc | apply Kd.R_drewN | apply Kd.R_drew)); exact HO279.out) (Kd.R_base ho0) hb)
        have n4_ := Aside0.mk (Kd.R_lower (Kd.R_new' (Kd.R_new' (Kd.R_new' (Kd.R_new' ho0 (Kd.R_lt (by (with_reducible repeat (first | apply Kd.R_alloc | apply Kd.R_drewN | apply Kd.R_drew)); exact HO264.out))) (Kd.R_lt (by (with_reducible repeat (first | apply Kd.R_alloc | apply Kd.R_drewN | apply Kd.R_drew)); exact HO267.out))) (Kd.R_lt (by (with_reducible repeat (first | apply Kd.R_alloc | apply Kd.R_drewN | apply Kd.R_drew)); exact HO275.out))) (Kd.R_lt (by (with_reducible repeat (first | apply Kd.R_alloc | apply Kd.R_drewN | apply Kd.R_drew)); exact HO279.out))) (below_size (by repeat (first | (with_reducible first | exact HB.out | apply below_alloc | apply pw_below_drewN | apply below_drew1 | refine below_set ?_ GE255.out | refine below_set ?_ GE276.out) | exact HB.out))))
        have n5_ := Aside0.mk (blk_below (g := gb255) (o := .cells #[.int .i64 a0_0, .int .i64 a0_1, .int .i64 a0_2, .int .i64 a0_3, .int .i64 a0_4, .slice A0_5 l0_5.length c0_5] 34 (0, 0)) (by (with_reducible repeat (first | refine blk_drewN ?_ _ | refine blk_drew ?_ | refine blk_alloc ?_ _)); exact BK255.out) hb)
        have n6_ := Aside0.mk (blk_below (g := gb276) (o := .cells #[.int .i64 t268, .int .i64 t269, .int .i64 t270, .int .i64 t271, .int .i64 t272, .slice Ao30 t273.length co30] 37 (0, 0)) (by (with_reducible repeat (first | refine blk_drewN ?_ _ | refine blk_drew ?_ | refine blk_alloc ?_ _)); exact BK276.out) hb)
        have n7_ := Aside0.mk (below_step (by repeat (first | (with_reducible first | exact HB.out | apply below_alloc | apply pw_below_drewN | apply below_drew1 | refine below_set ?_ GE255.out | refine below_set ?_ GE276.out) | exact HB.out)) hb)
        clear HO264
        clear HO267
        clear HO275
        clear HO279
        clear BK255
        clear BK276
        clear HB
        have HO264 := n0_
        have HO267 := n1_
        have HO275 := n2_
        have HO279 := n3_
        have HO288 := n4_
        have BK255 := n5_
        have BK276 := n6_
        have HB := n7_
        clear n0_ n1_ n2_ n3_ n4_ n5_ n6_ n7_
        (try clear hb)
        (try clear hb2)
        (try clear hk)
        (try clear hi)
        (try clear ho0)
        obtain ⟨Ao38, co38, eo38⟩ := Kd.R_slice HO288.out
        (first | subst eo38 | (injection eo38 with f1_ f2_ f3_; have f4_ := f1_.symm; have f5_ := f3_.symm; clear f1_ f2_ f3_; subst f4_; subst f5_))
        refine hK.out _ _ ⟨(blk_cell BK276.out 0).trans rfl, (blk_cell BK276.out 1).trans rfl, (blk_cell BK276.out 2).trans rfl, (blk_cell BK276.out 3).trans rfl, (blk_cell BK276.out 4).trans rfl, (blk_cell BK276.out 5).trans rfl, (blk_cell BK255.out 0).trans rfl, (blk_cell BK255.out 1).trans rfl, (blk_cell BK255.out 2).trans rfl, (blk_cell BK255.out 3).trans rfl, (blk_cell BK255.out 4).trans rfl, (blk_cell BK255.out 5).trans rfl⟩ (fun hHeld => ?_)
        clear hK K
        refine norm_ (a' := ?_) ?_ ?_
        rotate_left
        · show Act.put _ (some 29) _ = _
          simp only [Act.put, List.setIfInBounds_toArray, List.set_cons_zero, List.set_cons_succ, i64_w, i32_w]
          rfl
        refine one_ (i := 3) (N := some 30) #[true, true, true, true, false] rfl rfl (by kernel_rfl) (by decide) (fun K hK => ?_)
        refine goes_ Try.func25 (by kernel_rfl) rfl #[.agg #[.int .i64 t268, .int .i64 t269, .int .i64 t270, .int .i64 t271, .int .i64 t272, .slice Ao30 t273.length co30], .agg #[.int .i64 t281, .int .i64 t282, .int .i64 t283, .int .i64 t284, .int .i64 t285, .slice Ao38 t286.length co38]] (by rfl) rfl rfl (by (try simp only [List.map_toArray, List.map_cons, List.map_nil]); first | done | rfl | (simp only [List.length_drop, List.length_take]; rfl)) ?_
        with_reducible refine (laws_eqRecord.calls k t268 t269 t270 t271 t272 _ _ t273 t281 t282 t283 t284 t285 _ _ t286 true _ ?side1 ?side2 ?side3 ?side4 A14.out).mono ?_
        (case side1 => repeat (first | exact (Kd.R_reads' HO275.out).2.2 | (with_reducible refine Kd.C_alloc ?_ _) | (with_reducible refine Kd.C_drewN ?_ _) | (with_reducible refine Kd.C_drew ?_)))
        (case side2 => exact (Kd.R_reads' HO275.out).2.1)
        (case side3 => repeat (first | exact (Kd.R_reads' HO288.out).2.2 | (with_reducible refine Kd.C_alloc ?_ _) | (with_reducible refine Kd.C_drewN ?_ _) | (with_reducible refine Kd.C_drew ?_)))
        (case side4 => exact (Kd.R_reads' HO288.out).2.1)
        rintro e w39 ⟨rfl, hb⟩
        refine ⟨_, rfl, ?_⟩
        have n0_ := Aside0.mk (Kd.R_below (by (with_reducible repeat (first | apply Kd.R_alloc | apply Kd.R_drewN | apply Kd.R_drew)); exact HO264.out) hb)
        have n1_ := Aside0.mk (Kd.R_below (by (with_reducible repeat (first | apply Kd.R_alloc | apply Kd.R_drewN | apply Kd.R_drew)); exact HO267.out) hb)
        have n2_ := Aside0.mk (Kd.R_below (by (with_reducible repeat (first | apply Kd.R_alloc | apply Kd.R_drewN | apply Kd.R_drew)); exact HO275.out) hb)
        have n3_ := Aside0.mk (Kd.R_below (by (with_reducible repeat (first | apply Kd.R_alloc | apply Kd.R_drewN | apply Kd.R_drew)); exact HO279.out) hb)
        have n4_ := Aside0.mk (Kd.R_below (by (with_reducible repeat (first | apply Kd.R_alloc | apply Kd.R_drewN | apply Kd.R_drew)); exact HO288.out) hb)
        have n5_ := Aside0.mk (blk_below (g := gb255) (o := .cells #[.int .i64 a0_0, .int .i64 a0_1, .int .i64 a0_2, .int .i64 a0_3, .int .i64 a0_4, .slice A0_5 l0_5.length c0_5] 34 (0, 0)) (by (with_reducible repeat (first | refine blk_drewN ?_ _ | refine blk_drew ?_ | refine blk_alloc ?_ _)); exact BK255.out) hb)
        have n6_ := Aside0.mk (blk_below (g := gb276) (o := .cells #[.int .i64 t268, .int .i64 t269, .int .i64 t270, .int .i64 t271, .int .i64 t272, .slice Ao30 t273.length co30] 37 (0, 0)) (by (with_reducible repeat (first | refine blk_drewN ?_ _ | refine blk_drew ?_ | refine blk_alloc ?_ _)); exact BK276.out) hb)
        have n7_ := Aside0.mk (below_step (by repeat (first | (with_reducible first | exact HB.out | apply below_alloc | apply pw_below_drewN | apply below_drew1 | refine below_set ?_ GE255.out | refine below_set ?_ GE276.out) | exact HB.out)) hb)
        clear HO264
        clear HO267
        clear HO275
        clear HO279
        clear HO288
        clear BK255
        clear BK276
        clear HB
        have HO264 := n0_
        have HO267 := n1_
        have HO275 := n2_
        have HO279 := n3_
        have HO288 := n4_
        have BK255 := n5_
        have BK276 := n6_
        have HB := n7_
        clear n0_ n1_ n2_ n3_ n4_ n5_ n6_ n7_
        (try clear hb)
        (try clear hb2)
        (try clear hk)
        (try clear hi)
        refine hK.out _ _ ⟨(blk_cell BK276.out 0).trans rfl, (blk_cell BK276.out 1).trans rfl, (blk_cell BK276.out 2).trans rfl, (blk_cell BK276.out 3).trans rfl, (blk_cell BK276.out 4).trans rfl, (blk_cell BK276.out 5).trans rfl, (blk_cell BK255.out 0).trans rfl, (blk_cell BK255.out 1).trans rfl, (blk_cell BK255.out 2).trans rfl, (blk_cell BK255.out 3).trans rfl, (blk_cell BK255.out 4).trans rfl, (blk_cell BK255.out 5).trans rfl⟩ (fun hHeld => ?_)
        clear hK K
        refine norm_ (a' := ?_) ?_ ?_
        rotate_left
        · show Act.put _ (some 30) _ = _
          simp only [Act.put, List.setIfInBounds_toArray, List.set_cons_zero, List.set_cons_succ, i64_w, i32_w]
          rfl
        refine pure_ (i := 4) (N := some 31) (v := ?_) (a' := ?_) #[true, true, true, true, true] rfl rfl (by kernel_rfl) (fun _ _ _ h => h) (Or.inl ⟨by rfl, ?_⟩) ?_ ?_
        rotate_left
        · intro w'
          go_simp
          with_reducible rfl
        rotate_left
        · simp only [Act.put, List.setIfInBounds_toArray, List.set_cons_zero, List.set_cons_succ, i64_w, i32_w]
          rfl
        refine done_ (by kernel_rfl) ?_
        have hcz40_0 : w39.cell? ⟨gb276, 0, none⟩ = some (.int .i64 t268) := (blk_cell BK276.out 0).trans rfl
        have hcz40_1 : w39.cell? ⟨gb276, 1, none⟩ = some (.int .i64 t269) := (blk_cell BK276.out 1).trans rfl
        have hcz40_2 : w39.cell? ⟨gb276, 2, none⟩ = some (.int .i64 t270) := (blk_cell BK276.out 2).trans rfl
        have hcz40_3 : w39.cell? ⟨gb276, 3, none⟩ = some (.int .i64 t271) := (blk_cell BK276.out 3).trans rfl
        have hcz40_4 : w39.cell? ⟨gb276, 4, none⟩ = some (.int .i64 t272) := (blk_cell BK276.out 4).trans rfl
        have hcz40_5 : w39.cell? ⟨gb276, 5, none⟩ = some (.slice Ao30 t273.length co30) := (blk_cell BK276.out 5).trans rfl
        have hfz40_0 := blk_frozen BK276.out 0
        have hfz40_1 := blk_frozen BK276.out 1
        have hfz40_2 := blk_frozen BK276.out 2
        have hfz40_3 := blk_frozen BK276.out 3
        have hfz40_4 := blk_frozen BK276.out 4
        have hfz40_5 := blk_frozen BK276.out 5
        go_upto_region 14 with (first | ((with_reducible refine gate_callee (f := 28) rfl ?_); refine goesL_ (some 34) rfl rfl Try.func28 (by kernel_rfl) rfl #[.agg #[.int .i64 t268, .int .i64 t269, .int .i64 t270, .int .i64 t271, .int .i64 t272, .slice Ao30 t273.length co30], .int .i64 1] rfl (by (try simp only [List.map_toArray, List.map_cons, List.map_nil]); first | done | rfl | (simp only [List.length_drop, List.length_take]; rfl)) ?_; (with_reducible refine (laws_markRecord.calls k t268 t269 t270 t271 t272 (fun k_ => some k_ = (.slice Ao30 t273.length co30 : Value).ownBlock) (.slice Ao30 t273.length co30) t273 1 t290 t291 w _ ?side1 ?side2 A16.out).mono ?_); (case side1 => repeat (first | (with_reducible first | exact HB.out | apply below_alloc | apply pw_below_drewN | apply below_drew1 | refine below_set ?_ GE255.out | refine below_set ?_ GE276.out) | exact HB.out)); (case side2 => exact Kd.R_tight rfl HO275.out); rintro e w41 ⟨rfl, hy0, hb, hkp⟩; refine ⟨_, rfl, ?_⟩; have n0_ := Aside0.mk (blk_kept (by (with_reducible repeat (first | refine blk_drewN ?_ _ | refine blk_drew ?_ | refine blk_alloc ?_ _)); exact BK255.out) hkp (fun hs_ => (fun e_ => (Kd.R_ne HO275.out BK255.out (by decide)) e_) hs_)); have n1_ := Aside0.mk (Kd.R_mono (ok' := fun k_ => some k_ ≠ (.slice Ao35 t265.length co35 : Value).ownBlock ∧ some k_ ≠ (.slice Ao30 t273.length co30 : Value).ownBlock ∧ some k_ ≠ (.slice Ao34 t277.length co34 : Value).ownBlock ∧ some k_ ≠ (.slice Ao38 t286.length co38 : Value).ownBlock) (Kd.R_keptB (HO264.out) hkp (fun k_ hk_ hs_ => (hk_.1.1.2) hs_)) (fun k_ hk_ => ⟨hk_.1.1.1.1, hk_.1.1.1.2, hk_.1.1.2, hk_.1.2⟩)); have n2_ := Aside0.mk (Kd.R_mono (ok' := fun k_ => some k_ ≠ (.slice Ao23 t262.length co23 : Value).ownBlock ∧ some k_ ≠ (.slice Ao30 t273.length co30 : Value).ownBlock ∧ some k_ ≠ (.slice Ao34 t277.length co34 : Value).ownBlock ∧ some k_ ≠ (.slice Ao38 t286.length co38 : Value).ownBlock) (Kd.R_keptB (HO267.out) hkp (fun k_ hk_ hs_ => (hk_.1.1.2) hs_)) (fun k_ hk_ => ⟨hk_.1.1.1.1, hk_.1.1.1.2, hk_.1.1.2, hk_.1.2⟩)); have n3_ := Aside0.mk (Kd.R_reok rfl hy0 (fun k_ e_ => HO275.out.1 k_ e_)); have n4_ := Aside0.mk (blk_kept (by (with_reducible repeat (first | refine blk_drewN ?_ _ | refine blk_drew ?_ | refine blk_alloc ?_ _)); exact BK276.out) hkp (fun hs_ => (fun e_ => (Kd.R_ne HO275.out BK276.out (by decide)) e_) hs_)); have n5_ := Aside0.mk (Kd.R_mono (ok' := fun k_ => some k_ ≠ (.slice Ao23 t262.length co23 : Value).ownBlock ∧ some k_ ≠ (.slice Ao35 t265.length co35 : Value).ownBlock ∧ some k_ ≠ (.slice Ao30 t273.length co30 : Value).ownBlock ∧ some k_ ≠ (.slice Ao38 t286.length co38 : Value).ownBlock) (Kd.R_keptB (HO279.out) hkp (fun k_ hk_ hs_ => (hk_.1.2) hs_)) (fun k_ hk_ => ⟨hk_.1.1.1.1.2, hk_.1.1.1.2, hk_.1.1.2, hk_.1.2⟩)); have n6_ := Aside0.mk (Kd.R_mono (ok' := fun k_ => some k_ ≠ (.slice Ao23 t262.length co23 : Value).ownBlock ∧ some k_ ≠ (.slice Ao35 t265.length co35 : Value).ownBlock ∧ some k_ ≠ (.slice Ao30 t273.length co30 : Value).ownBlock ∧ some k_ ≠ (.slice Ao34 t277.length co34 : Value).ownBlock) (Kd.R_keptB (HO288.out) hkp (fun k_ hk_ hs_ => (hk_.1.2) hs_)) (fun k_ hk_ => ⟨hk_.1.1.1.1.2, hk_.1.1.1.2, hk_.1.1.2, hk_.1.2⟩)); have n7_ := Aside0.mk (hb); clear BK255; clear HO264; clear HO267; clear HO275; clear BK276; clear HO279; clear HO288; clear HB; have BK255 := n0_; have HO264 := n1_; have HO267 := n2_; have HO275 := n3_; have BK276 := n4_; have HO279 := n5_; have HO288 := n6_; have HB := n7_; clear n0_ n1_ n2_ n3_ n4_ n5_ n6_ n7_; (try clear hb); (try clear hkp); (try clear hy0)))
        (try simp only [Act.put, List.setIfInBounds_toArray, List.set_cons_zero, List.set_cons_succ])
        go_cut [42] (fun v42 wc => ∃ (kq : Nat) (x42_16 : Bool), v42 = .bool x42_16 ∧ Aside0 (laws_FnExactRecordBytes.j0 kq t265 t277 x42_16 a0_0 a0_1 a0_2 a0_3 a0_4 l0_5 = some r) ∧ Aside0 (kq ≤ k) ∧ Aside0 (Kd.R (Kd.int .u8) 5 wc w.heap.size (fun k_ => some k_ ≠ ((.slice Ao34 t277.length co34) : Value).ownBlock ∧ some k_ ≠ ((.slice Ao30 t273.length co30) : Value).ownBlock) (.slice Ao35 t265.length co35) t265) ∧ Aside0 (Kd.R (Kd.int .u8) 5 wc w.heap.size (fun k_ => some k_ ≠ ((.slice Ao35 t265.length co35) : Value).ownBlock ∧ some k_ ≠ ((.slice Ao30 t273.length co30) : Value).ownBlock) (.slice Ao34 t277.length co34) t277) ∧ Aside0 (Kd.R (Kd.int .u8) 5 wc w.heap.size (fun k_ => some k_ ≠ ((.slice Ao35 t265.length co35) : Value).ownBlock ∧ some k_ ≠ ((.slice Ao34 t277.length co34) : Value).ownBlock) (.slice Ao30 t273.length co30) t291) ∧ Aside0 (wc.heap[gb255]? = some (.cells #[.int .i64 a0_0, .int .i64 a0_1, .int .i64 a0_2, .int .i64 a0_3, .int .i64 a0_4, (.slice A0_5 l0_5.length c0_5)] 34 (0, 0))) ∧ Aside0 (wc.heap[gb276]? = some (.cells #[.int .i64 t268, .int .i64 t269, .int .i64 t270, .int .i64 t271, .int .i64 t272, (.slice Ao30 t273.length co30)] 37 (0, 0))) ∧ Aside0 (Below w.heap.size w wc))
        case first =>
          have H := HC17.out
          clear HC17
          by_cases c42 : t290 < 0
          · rw [if_pos c42] at H
            have c42b0 : decide (t290 < 0) = true := decide_eq_true c42
            clear c42
            (first | rw [c42b0] | (simp only [i64_w, i32_w]; rw [c42b0]) | skip)
            have H' := Aside0.mk H
            clear H
            go_wp2
            go_meet
            case rel => exact ⟨_, (true), (by first | rfl | (simp; done) | (simp [*]; done)), H', ⟨by first | omega | exact Nat.le_refl _⟩, ⟨by (with_reducible repeat (first | apply Kd.R_alloc | apply Kd.R_drewN | apply Kd.R_drew)); exact Kd.R_mono HO267.out (fun _ hk => ⟨hk.2.2.1, hk.2.1⟩)⟩, ⟨by (with_reducible repeat (first | apply Kd.R_alloc | apply Kd.R_drewN | apply Kd.R_drew)); exact Kd.R_mono HO279.out (fun _ hk => ⟨hk.2.1, hk.2.2.1⟩)⟩, ⟨by (with_reducible repeat (first | apply Kd.R_alloc | apply Kd.R_drewN | apply Kd.R_drew)); exact Kd.R_mono HO275.out (fun _ hk => ⟨hk.1.1.2, hk.1.2⟩)⟩, ⟨by (with_reducible repeat (first | refine blk_drewN ?_ _ | refine blk_drew ?_ | refine blk_alloc ?_ _)); exact BK255.out⟩, ⟨by (with_reducible repeat (first | refine blk_drewN ?_ _ | refine blk_drew ?_ | refine blk_alloc ?_ _)); exact BK276.out⟩, ⟨by repeat (first | (with_reducible first | exact HB.out | apply below_alloc | apply pw_below_drewN | apply below_drew1 | refine below_set ?_ GE255.out | refine below_set ?_ GE276.out) | exact HB.out)⟩⟩
          · rw [if_neg c42] at H
            have c42b0 : decide (t290 < 0) = false := decide_eq_false c42
            clear c42
            (first | rw [c42b0] | (simp only [i64_w, i32_w]; rw [c42b0]) | skip)
            replace H := Option.bind_eq_some_iff.mp H
            obtain ⟨t292, A430, H⟩ := H
            replace H : (laws_FnExactRecordBytes.j0 k t265 t277 (!t292) a0_0 a0_1 a0_2 a0_3 a0_4 l0_5) = some r := H
            have A43 := Aside0.mk A430
            clear A430
            have H' := Aside0.mk H
            clear H
            go_wp2_with (first | (go_at_call 14; (with_reducible refine (laws_eqByteS.calls k _ _ t277 _ _ t265 t292 _ ?side1 ?side2 ?side3 ?side4 A43.out).mono ?_); (case side1 => repeat (first | exact (Kd.R_reads' HO279.out).2.2 | (with_reducible refine Kd.C_alloc ?_ _) | (with_reducible refine Kd.C_drewN ?_ _) | (with_reducible refine Kd.C_drew ?_))); (case side2 => exact (Kd.R_reads' HO279.out).2.1); (case side3 => repeat (first | exact (Kd.R_reads' HO267.out).2.2 | (with_reducible refine Kd.C_alloc ?_ _) | (with_reducible refine Kd.C_drewN ?_ _) | (with_reducible refine Kd.C_drew ?_))); (case side4 => exact (Kd.R_reads' HO267.out).2.1); rintro e w' ⟨rfl, ⟨nd, rfl⟩⟩))
            go_meet
            case rel => exact ⟨_, (!t292), (by first | rfl | (simp; done) | (simp [*]; done)), H', ⟨by first | omega | exact Nat.le_refl _⟩, ⟨by (with_reducible repeat (first | apply Kd.R_alloc | apply Kd.R_drewN | apply Kd.R_drew)); exact Kd.R_mono HO267.out (fun _ hk => ⟨hk.2.2.1, hk.2.1⟩)⟩, ⟨by (with_reducible repeat (first | apply Kd.R_alloc | apply Kd.R_drewN | apply Kd.R_drew)); exact Kd.R_mono HO279.out (fun _ hk => ⟨hk.2.1, hk.2.2.1⟩)⟩, ⟨by (with_reducible repeat (first | apply Kd.R_alloc | apply Kd.R_drewN | apply Kd.R_drew)); exact Kd.R_mono HO275.out (fun _ hk => ⟨hk.1.1.2, hk.1.2⟩)⟩, ⟨by (with_reducible repeat (first | refine blk_drewN ?_ _ | refine blk_drew ?_ | refine blk_alloc ?_ _)); exact BK255.out⟩, ⟨by (with_reducible repeat (first | refine blk_drewN ?_ _ | refine blk_drew ?_ | refine blk_alloc ?_ _)); exact BK276.out⟩, ⟨by repeat (first | (with_reducible first | exact HB.out | apply below_alloc | apply pw_below_drewN | apply below_drew1 | refine below_set ?_ GE255.out | refine below_set ?_ GE276.out) | exact HB.out)⟩⟩
        case rest =>
          clear HC17
          try clear c1
          try clear c2
          try clear p2
          try clear c3
          try clear c3b0
          try clear c4
          try clear c7
          try clear c12
          try clear c14
          try clear c15
          try clear c21
          try clear c23
          try clear c25
          try clear c26
          try clear c27
          try clear c28
          try clear c42
          try clear c42b0
          try clear hcz19_0
          try clear hcz19_1
          try clear hcz19_2
          try clear hcz19_3
          try clear hcz19_4
          try clear hcz19_5
          try clear hcz21_0
          try clear hcz21_1
          try clear hcz21_2
          try clear hcz21_3
          try clear hcz21_4
          try clear hcz21_5
          try clear hcz25_0
          try clear hcz25_1
          try clear hcz25_2
          try clear hcz25_3
          try clear hcz25_4
          try clear hcz25_5
          try clear hcz29_0
          try clear hcz29_1
          try clear hcz29_2
          try clear hcz29_3
          try clear hcz29_4
          try clear hcz29_5
          try clear hcz32_0
          try clear hcz32_1
          try clear hcz32_2
          try clear hcz32_3
          try clear hcz32_4
          try clear hcz32_5
          try clear hcz40_0
          try clear hcz40_1
          try clear hcz40_2
          try clear hcz40_3
          try clear hcz40_4
          try clear hcz40_5
          try clear hcz5_0
          try clear hcz5_1
          try clear hcz5_2
          try clear hcz5_3
          try clear hcz5_4
          try clear hcz5_5
          try clear hfz19_0
          try clear hfz19_1
          try clear hfz19_2
          try clear hfz19_3
          try clear hfz19_4
          try clear hfz19_5
          try clear hfz21_0
          try clear hfz21_1
          try clear hfz21_2
          try clear hfz21_3
          try clear hfz21_4
          try clear hfz21_5
          try clear hfz25_0
          try clear hfz25_1
          try clear hfz25_2
          try clear hfz25_3
          try clear hfz25_4
          try clear hfz25_5
          try clear hfz29_0
          try clear hfz29_1
          try clear hfz29_2
          try clear hfz29_3
          try clear hfz29_4
          try clear hfz29_5
          try clear hfz32_0
          try clear hfz32_1
          try clear hfz32_2
          try clear hfz32_3
          try clear hfz32_4
          try clear hfz32_5
          try clear hfz40_0
          try clear hfz40_1
          try clear hfz40_2
          try clear hfz40_3
          try clear hfz40_4
          try clear hfz40_5
          try clear hfz5_0
          try clear hfz5_1
          try clear hfz5_2
          try clear hfz5_3
          try clear hfz5_4
          try clear hfz5_5
          obtain ⟨kq, x42_16, rfl, HA, HJ16, HO_4, HO_6, HO_277005, BK255, BK276, HB⟩ := hcut
          have hl277005_16 := (Kd.R_reads' HO_277005.out).1
          rw [hl277005_16] at HO_277005
          (try simp only [hl277005_16])
          (try simp only [hl277005_16] at BK255)
          (try simp only [hl277005_16] at BK276)
          (try simp only [hl277005_16] at HO_4)
          (try simp only [hl277005_16] at HO_6)
          cases kq with
          | zero => exact absurd HA.out (by simp [laws_FnExactRecordBytes.j0])
          | succ kj16 =>
            have H := HA.out
            clear HA
            simp only [laws_FnExactRecordBytes.j0] at H
            by_cases c44 : x42_16 = true
            · subst c44
              have H1 : (some false) = some r := by rw [if_pos rfl] at H; exact H
              clear H
              have H := H1
              clear H1
              cases (Option.some.inj H).trans hT
            · replace c44 := Bool.eq_false_iff.mpr c44
              subst c44
              have H1 : ((laws_markByteS.f kj16 t277 1).bind fun bt293 => ((laws_heldByteS.f kj16 bt293.2 1).bind fun t295 => (if t295 < 0 then (some false) else (if t295 = bt293.1 then ((laws_toRecord.f kj16 a0_0 a0_1 a0_2 a0_3 a0_4 l0_5).bind fun bt296 => ((impl_RecordBytes.f kj16 bt296.1 bt296.2.1 bt296.2.2.1 bt296.2.2.2.1 bt296.2.2.2.2.1 bt296.2.2.2.2.2).bind fun t304 => ((laws_eqByteS.f kj16 t304 t265).bind fun t307 => (if t307 = true then ((laws_heldByteS.f kj16 bt293.2 1).bind fun t308 => (if t308 < 0 then (some false) else (if t308 = bt293.1 then (some true) else (some false)))) else (some false))))) else (some false))))) = some r := by rw [if_neg (show ¬ (false = true) by decide)] at H; exact H
              clear H
              have H := H1
              clear H1
              replace H := Option.bind_eq_some_iff.mp H
              obtain ⟨⟨t293, t294⟩, A450, H⟩ := H
              replace H : ((laws_heldByteS.f kj16 t294 1).bind fun t295 => (if t295 < 0 then (some false) else (if t295 = t293 then ((laws_toRecord.f kj16 a0_0 a0_1 a0_2 a0_3 a0_4 l0_5).bind fun bt296 => ((impl_RecordBytes.f kj16 bt296.1 bt296.2.1 bt296.2.2.1 bt296.2.2.2.1 bt296.2.2.2.2.1 bt296.2.2.2.2.2).bind fun t304 => ((laws_eqByteS.f kj16 t304 t265).bind fun t307 => (if t307 = true then ((laws_heldByteS.f kj16 t294 1).bind fun t308 => (if t308 < 0 then (some false) else (if t308 = t293 then (some true) else (some false)))) else (some false))))) else (some false)))) = some r := H
              have A45 := Aside0.mk A450
              clear A450
              replace H := Option.bind_eq_some_iff.mp H
              obtain ⟨t295, A460, H⟩ := H
              replace H : (if t295 < 0 then (some false) else (if t295 = t293 then ((laws_toRecord.f kj16 a0_0 a0_1 a0_2 a0_3 a0_4 l0_5).bind fun bt296 => ((impl_RecordBytes.f kj16 bt296.1 bt296.2.1 bt296.2.2.1 bt296.2.2.2.1 bt296.2.2.2.2.1 bt296.2.2.2.2.2).bind fun t304 => ((laws_eqByteS.f kj16 t304 t265).bind fun t307 => (if t307 = true then ((laws_heldByteS.f kj16 t294 1).bind fun t308 => (if t308 < 0 then (some false) else (if t308 = t293 then (some true) else (some false)))) else (some false))))) else (some false))) = some r := H
              have A46 := Aside0.mk A460
              clear A460
              by_cases c47 : t295 < 0
              · rw [if_pos c47] at H
                have c47b0 : decide (t295 < 0) = true := decide_eq_true c47
                clear c47
                cases (Option.some.inj H).trans hT
              · rw [if_neg c47] at H
                have c47b0 : decide (t295 < 0) = false := decide_eq_false c47
                clear c47
                by_cases c48 : t295 = t293
                · rw [if_pos c48] at H
                  have c48b0 : (t295 == t293) = true := beq_iff_eq.mpr c48
                  have c48b1 : (t295 != t293) = false := bne_eq_false_iff_eq.mpr c48
                  clear c48
                  replace H := Option.bind_eq_some_iff.mp H
                  obtain ⟨⟨t296, t297, t298, t299, t300, t301⟩, A490, H⟩ := H
                  replace H : ((impl_RecordBytes.f kj16 t296 t297 t298 t299 t300 t301).bind fun t304 => ((laws_eqByteS.f kj16 t304 t265).bind fun t307 => (if t307 = true then ((laws_heldByteS.f kj16 t294 1).bind fun t308 => (if t308 < 0 then (some false) else (if t308 = t293 then (some true) else (some false)))) else (some false)))) = some r := H
                  have A49 := Aside0.mk A490
                  clear A490
                  replace H := Option.bind_eq_some_iff.mp H
                  obtain ⟨t304, A500, H⟩ := H
                  replace H : ((laws_eqByteS.f kj16 t304 t265).bind fun t307 => (if t307 = true then ((laws_heldByteS.f kj16 t294 1).bind fun t308 => (if t308 < 0 then (some false) else (if t308 = t293 then (some true) else (some false)))) else (some false))) = some r := H
                  have A50 := Aside0.mk A500
                  clear A500
                  replace H := Option.bind_eq_some_iff.mp H
                  obtain ⟨t307, A510, H⟩ := H
                  replace H : (if t307 = true then ((laws_heldByteS.f kj16 t294 1).bind fun t308 => (if t308 < 0 then (some false) else (if t308 = t293 then (some true) else (some false)))) else (some false)) = some r := H
                  have A51 := Aside0.mk A510
                  clear A510
                  by_cases c52 : t307 = true
                  · subst c52
                    have H1 : ((laws_heldByteS.f kj16 t294 1).bind fun t308 => (if t308 < 0 then (some false) else (if t308 = t293 then (some true) else (some false)))) = some r := by rw [if_pos rfl] at H; exact H
                    clear H
                    have H := H1
                    clear H1
                    replace H := Option.bind_eq_some_iff.mp H
                    obtain ⟨t308, A530, H⟩ := H
                    replace H : (if t308 < 0 then (some false) else (if t308 = t293 then (some true) else (some false))) = some r := H
                    have A53 := Aside0.mk A530
                    clear A530
                    by_cases c54 : t308 < 0
                    · rw [if_pos c54] at H
                      have c54b0 : decide (t308 < 0) = true := decide_eq_true c54
                      clear c54
                      cases (Option.some.inj H).trans hT
                    · rw [if_neg c54] at H
                      have c54b0 : decide (t308 < 0) = false := decide_eq_false c54
                      clear c54
                      by_cases c55 : t308 = t293
                      · rw [if_pos c55] at H
                        have c55b0 : (t308 == t293) = true := beq_iff_eq.mpr c55
                        have c55b1 : (t308 != t293) = false := bne_eq_false_iff_eq.mpr c55
                        clear c55
                        obtain rfl := Option.some.inj H
                        go_wp2_with (first | ((with_reducible refine gate_callee (f := 17) rfl ?_); refine goesL_ (some 45) rfl rfl Try.func17 (by kernel_rfl) rfl #[.slice Ao34 t277.length co34, .int .i64 1] rfl (by (try simp only [List.map_toArray, List.map_cons, List.map_nil]); first | done | rfl | (simp only [List.length_drop, List.length_take]; rfl)) ?_; (with_reducible refine (laws_markByteS.calls kj16 (fun k_ => some k_ = (.slice Ao34 t277.length co34 : Value).ownBlock) (.slice Ao34 t277.length co34) t277 1 t293 t294 w _ ?side1 ?side2 A45.out).mono ?_); (case side1 => repeat (first | (with_reducible first | exact HB.out | apply below_alloc | apply pw_below_drewN | apply below_drew1 | refine below_set ?_ GE255.out | refine below_set ?_ GE276.out) | exact HB.out)); (case side2 => exact Kd.R_tight rfl HO_6.out); rintro e w56 ⟨rfl, hy0, hb, hkp⟩; refine ⟨_, rfl, ?_⟩; have n0_ := Aside0.mk (Kd.R_mono (ok' := fun k_ => some k_ ≠ (.slice Ao34 t277.length co34 : Value).ownBlock ∧ some k_ ≠ (.slice Ao30 t291.length co30 : Value).ownBlock) (Kd.R_keptB (HO_4.out) hkp (fun k_ hk_ hs_ => (hk_.1) hs_)) (fun k_ hk_ => ⟨hk_.1.1, hk_.1.2⟩)); have n1_ := Aside0.mk (Kd.R_reok rfl hy0 (fun k_ e_ => HO_6.out.1 k_ e_)); have n2_ := Aside0.mk (Kd.R_mono (ok' := fun k_ => some k_ ≠ (.slice Ao35 t265.length co35 : Value).ownBlock ∧ some k_ ≠ (.slice Ao34 t277.length co34 : Value).ownBlock) (Kd.R_keptB (HO_277005.out) hkp (fun k_ hk_ hs_ => (hk_.2) hs_)) (fun k_ hk_ => ⟨hk_.1.1, hk_.1.2⟩)); have n3_ := Aside0.mk (blk_kept (by (with_reducible repeat (first | refine blk_drewN ?_ _ | refine blk_drew ?_ | refine blk_alloc ?_ _)); exact BK255.out) hkp (fun hs_ => (fun e_ => (Kd.R_ne HO_6.out BK255.out (by decide)) e_) hs_)); have n4_ := Aside0.mk (blk_kept (by (with_reducible repeat (first | refine blk_drewN ?_ _ | refine blk_drew ?_ | refine blk_alloc ?_ _)); exact BK276.out) hkp (fun hs_ => (fun e_ => (Kd.R_ne HO_6.out BK276.out (by decide)) e_) hs_)); have n5_ := Aside0.mk (hb); clear HO_4; clear HO_6; clear HO_277005; clear BK255; clear BK276; clear HB; have HO_4 := n0_; have HO_6 := n1_; have HO_277005 := n2_; have BK255 := n3_; have BK276 := n4_; have HB := n5_; clear n0_ n1_ n2_ n3_ n4_ n5_; (try clear hb); (try clear hkp); (try clear hy0)) | ((with_reducible refine gate_callee (f := 18) rfl ?_); refine goesL_ (some 48) rfl rfl Try.func18 (by kernel_rfl) rfl #[.slice Ao34 t294.length co34, .int .i64 1] rfl (by (try simp only [List.map_toArray, List.map_cons, List.map_nil]); first | done | (rw [show t294.length = t277.length from (Kd.R_reads' HO_6.out).1.symm] <;> rfl) | rfl | (simp only [List.length_drop, List.length_take]; rfl)) ?_; (with_reducible refine (laws_heldByteS.calls kj16 _ _ t294 1 t295 _ ?side1 ?side2 A46.out).mono ?_); (case side1 => repeat (first | exact (Kd.R_reads' HO_6.out).2.2 | (with_reducible refine Kd.C_alloc ?_ _) | (with_reducible refine Kd.C_drewN ?_ _) | (with_reducible refine Kd.C_drew ?_))); (case side2 => rw [show t294.length = t277.length from (Kd.R_reads' HO_6.out).1.symm]; exact (Kd.R_reads' HO_6.out).2.1); rintro e w' ⟨rfl, ⟨nd, rfl⟩⟩; refine ⟨_, rfl, ?_⟩; have hnb57 := NB255_276.out; have hnc57 := NB276_255.out; have hcz58_0 : w56.cell? ⟨gb255, 0, none⟩ = some (.int .i64 a0_0) := (blk_cell BK255.out 0).trans rfl; have hcz58_1 : w56.cell? ⟨gb255, 1, none⟩ = some (.int .i64 a0_1) := (blk_cell BK255.out 1).trans rfl; have hcz58_2 : w56.cell? ⟨gb255, 2, none⟩ = some (.int .i64 a0_2) := (blk_cell BK255.out 2).trans rfl; have hcz58_3 : w56.cell? ⟨gb255, 3, none⟩ = some (.int .i64 a0_3) := (blk_cell BK255.out 3).trans rfl; have hcz58_4 : w56.cell? ⟨gb255, 4, none⟩ = some (.int .i64 a0_4) := (blk_cell BK255.out 4).trans rfl; have hcz58_5 : w56.cell? ⟨gb255, 5, none⟩ = some (.slice A0_5 l0_5.length c0_5) := (blk_cell BK255.out 5).trans rfl; have hfz58_0 := blk_frozen BK255.out 0; have hfz58_1 := blk_frozen BK255.out 1; have hfz58_2 := blk_frozen BK255.out 2; have hfz58_3 := blk_frozen BK255.out 3; have hfz58_4 := blk_frozen BK255.out 4; have hfz58_5 := blk_frozen BK255.out 5) | ((with_reducible refine gate_callee (f := 23) rfl ?_); refine goesL_ (some 55) rfl rfl Try.func23 (by kernel_rfl) rfl #[.agg #[.int .i64 a0_0, .int .i64 a0_1, .int .i64 a0_2, .int .i64 a0_3, .int .i64 a0_4, .slice A0_5 l0_5.length c0_5]] rfl (by (try simp only [List.map_toArray, List.map_cons, List.map_nil]); first | done | rfl | (simp only [List.length_drop, List.length_take]; rfl)) ?_; (with_reducible refine (laws_toRecord.calls kj16 a0_0 a0_1 a0_2 a0_3 a0_4 _ _ l0_5 t296 t297 t298 t299 t300 t301 _ ?side1 ?side2 A49.out).mono ?_); (case side1 => repeat (first | exact (Kd.C_below HR0_5.out (by repeat (first | (with_reducible first | exact HB.out | apply below_alloc | apply pw_below_drewN | apply below_drew1 | refine below_set ?_ GE255.out | refine below_set ?_ GE276.out) | exact HB.out))) | (with_reducible refine Kd.C_alloc ?_ _) | (with_reducible refine Kd.C_drewN ?_ _) | (with_reducible refine Kd.C_drew ?_))); (case side2 => exact HC0_5.out); rintro e w59 ⟨v302, rfl, ho0, hb⟩; refine ⟨_, rfl, ?_⟩; have n0_ := Aside0.mk (Kd.R_elder' (by (with_reducible repeat (first | apply Kd.R_alloc | apply Kd.R_drewN | apply Kd.R_drew)); exact HO_4.out) (Kd.R_base ho0) hb); have n1_ := Aside0.mk (Kd.R_elder' (by (with_reducible repeat (first | apply Kd.R_alloc | apply Kd.R_drewN | apply Kd.R_drew)); exact HO_6.out) (Kd.R_base ho0) hb); have n2_ := Aside0.mk (Kd.R_elder' (by (with_reducible repeat (first | apply Kd.R_alloc | apply Kd.R_drewN | apply Kd.R_drew)); exact HO_277005.out) (Kd.R_base ho0) hb); have n3_ := Aside0.mk (Kd.R_lower (Kd.R_new' (Kd.R_new' (Kd.R_new' ho0 (Kd.R_lt (by (with_reducible repeat (first | apply Kd.R_alloc | apply Kd.R_drewN | apply Kd.R_drew)); exact HO_4.out))) (Kd.R_lt (by (with_reducible repeat (first | apply Kd.R_alloc | apply Kd.R_drewN | apply Kd.R_drew)); exact HO_6.out))) (Kd.R_lt (by (with_reducible repeat (first | apply Kd.R_alloc | apply Kd.R_drewN | apply Kd.R_drew)); exact HO_277005.out))) (below_size (by repeat (first | (with_reducible first | exact HB.out | apply below_alloc | apply pw_below_drewN | apply below_drew1 | refine below_set ?_ GE255.out | refine below_set ?_ GE276.out) | exact HB.out)))); have n4_ := Aside0.mk (blk_below (g := gb255) (o := .cells #[.int .i64 a0_0, .int .i64 a0_1, .int .i64 a0_2, .int .i64 a0_3, .int .i64 a0_4, .slice A0_5 l0_5.length c0_5] 34 (0, 0)) (by (with_reducible repeat (first | refine blk_drewN ?_ _ | refine blk_drew ?_ | refine blk_alloc ?_ _)); exact BK255.out) hb); have n5_ := Aside0.mk (blk_below (g := gb276) (o := .cells #[.int .i64 t268, .int .i64 t269, .int .i64 t270, .int .i64 t271, .int .i64 t272, .slice Ao30 t291.length co30] 37 (0, 0)) (by (with_reducible repeat (first | refine blk_drewN ?_ _ | refine blk_drew ?_ | refine blk_alloc ?_ _)); exact BK276.out) hb); have n6_ := Aside0.mk (below_step (by repeat (first | (with_reducible first | exact HB.out | apply below_alloc | apply pw_below_drewN | apply below_drew1 | refine below_set ?_ GE255.out | refine below_set ?_ GE276.out) | exact HB.out)) hb); clear HO_4; clear HO_6; clear HO_277005; clear BK255; clear BK276; clear HB; have HO_4 := n0_; have HO_6 := n1_; have HO_277005 := n2_; have HO303 := n3_; have BK255 := n4_; have BK276 := n5_; have HB := n6_; clear n0_ n1_ n2_ n3_ n4_ n5_ n6_; (try clear hb); (try clear hb2); (try clear hk); (try clear hi); (try clear ho0); obtain ⟨Ao60, co60, eo60⟩ := Kd.R_slice HO303.out; subst eo60) | ((with_reducible refine gate_callee (f := 27) rfl ?_); refine goesL_ (some 56) rfl rfl Try.func27 (by kernel_rfl) rfl #[.agg #[.int .i64 t296, .int .i64 t297, .int .i64 t298, .int .i64 t299, .int .i64 t300, .slice Ao60 t301.length co60]] rfl (by (try simp only [List.map_toArray, List.map_cons, List.map_nil]); first | done | rfl | (simp only [List.length_drop, List.length_take]; rfl)) ?_; (with_reducible refine (impl_RecordBytes.calls kj16 t296 t297 t298 t299 t300 (fun k_ => some k_ = (.slice Ao60 t301.length co60 : Value).ownBlock) _ _ t301 t304 _ ?side1 A50.out).mono ?_); (case side1 => exact Kd.R_V (Kd.R_tight rfl (Kd.R_types (Kd.R_types (HO303.out) BK255.out (by decide)) BK276.out (by decide)))); rintro e w61 ⟨v305, rfl, ho0, hb⟩; refine ⟨_, rfl, ?_⟩; have n0_ := Aside0.mk (Kd.R_elder' (by (with_reducible repeat (first | apply Kd.R_alloc | apply Kd.R_drewN | apply Kd.R_drew)); exact HO_4.out) (Kd.R_base ho0) hb); have n1_ := Aside0.mk (Kd.R_elder' (by (with_reducible repeat (first | apply Kd.R_alloc | apply Kd.R_drewN | apply Kd.R_drew)); exact HO_6.out) (Kd.R_base ho0) hb); have n2_ := Aside0.mk (Kd.R_elder' (by (with_reducible repeat (first | apply Kd.R_alloc | apply Kd.R_drewN | apply Kd.R_drew)); exact HO_277005.out) (Kd.R_base ho0) hb); have n3_ := Aside0.mk (Kd.R_elder' (by (with_reducible repeat (first | apply Kd.R_alloc | apply Kd.R_drewN | apply Kd.R_drew)); exact HO303.out) (Kd.R_base ho0) hb); have n4_ := Aside0.mk (Kd.R_lower (Kd.R_new' (Kd.R_new' (Kd.R_new' (Kd.R_new' (Kd.R_mono (ok' := fun k_ => True) ho0 (fun _ hk_ => trivial)) (Kd.R_lt (by (with_reducible repeat (first | apply Kd.R_alloc | apply Kd.R_drewN | apply Kd.R_drew)); exact HO_4.out))) (Kd.R_lt (by (with_reducible repeat (first | apply Kd.R_alloc | apply Kd.R_drewN | apply Kd.R_drew)); exact HO_6.out))) (Kd.R_lt (by (with_reducible repeat (first | apply Kd.R_alloc | apply Kd.R_drewN | apply Kd.R_drew)); exact HO_277005.out))) (Kd.R_lt (by (with_reducible repeat (first | apply Kd.R_alloc | apply Kd.R_drewN | apply Kd.R_drew)); exact HO303.out))) (below_size (by repeat (first | (with_reducible first | exact HB.out | apply below_alloc | apply pw_below_drewN | apply below_drew1 | refine below_set ?_ GE255.out | refine below_set ?_ GE276.out) | exact HB.out)))); have n5_ := Aside0.mk (blk_below (g := gb255) (o := .cells #[.int .i64 a0_0, .int .i64 a0_1, .int .i64 a0_2, .int .i64 a0_3, .int .i64 a0_4, .slice A0_5 l0_5.length c0_5] 34 (0, 0)) (by (with_reducible repeat (first | refine blk_drewN ?_ _ | refine blk_drew ?_ | refine blk_alloc ?_ _)); exact BK255.out) hb); have n6_ := Aside0.mk (blk_below (g := gb276) (o := .cells #[.int .i64 t268, .int .i64 t269, .int .i64 t270, .int .i64 t271, .int .i64 t272, .slice Ao30 t291.length co30] 37 (0, 0)) (by (with_reducible repeat (first | refine blk_drewN ?_ _ | refine blk_drew ?_ | refine blk_alloc ?_ _)); exact BK276.out) hb); have n7_ := Aside0.mk (below_step (by repeat (first | (with_reducible first | exact HB.out | apply below_alloc | apply pw_below_drewN | apply below_drew1 | refine below_set ?_ GE255.out | refine below_set ?_ GE276.out) | exact HB.out)) hb); clear HO_4; clear HO_6; clear HO_277005; clear HO303; clear BK255; clear BK276; clear HB; have HO_4 := n0_; have HO_6 := n1_; have HO_277005 := n2_; have HO303 := n3_; have HO306 := n4_; have BK255 := n5_; have BK276 := n6_; have HB := n7_; clear n0_ n1_ n2_ n3_ n4_ n5_ n6_ n7_; (try clear hb); (try clear hb2); (try clear hk); (try clear hi); (try clear ho0); obtain ⟨Ao62, co62, eo62⟩ := Kd.R_slice HO306.out; subst eo62) | ((with_reducible refine gate_callee (f := 14) rfl ?_); refine goesL_ (some 59) rfl rfl Try.func14 (by kernel_rfl) rfl #[.slice Ao62 t304.length co62, .slice Ao35 t265.length co35] rfl (by (try simp only [List.map_toArray, List.map_cons, List.map_nil]); first | done | rfl | (simp only [List.length_drop, List.length_take]; rfl)) ?_; (with_reducible refine (laws_eqByteS.calls kj16 _ _ t304 _ _ t265 true _ ?side1 ?side2 ?side3 ?side4 A51.out).mono ?_); (case side1 => repeat (first | exact (Kd.R_reads' HO306.out).2.2 | (with_reducible refine Kd.C_alloc ?_ _) | (with_reducible refine Kd.C_drewN ?_ _) | (with_reducible refine Kd.C_drew ?_))); (case side2 => exact (Kd.R_reads' HO306.out).2.1); (case side3 => repeat (first | exact (Kd.R_reads' HO_4.out).2.2 | (with_reducible refine Kd.C_alloc ?_ _) | (with_reducible refine Kd.C_drewN ?_ _) | (with_reducible refine Kd.C_drew ?_))); (case side4 => exact (Kd.R_reads' HO_4.out).2.1); rintro e w' ⟨rfl, ⟨nd, rfl⟩⟩; refine ⟨_, rfl, ?_⟩) | ((with_reducible refine gate_callee (f := 18) rfl ?_); refine goesL_ (some 63) rfl rfl Try.func18 (by kernel_rfl) rfl #[.slice Ao34 t294.length co34, .int .i64 1] rfl (by (try simp only [List.map_toArray, List.map_cons, List.map_nil]); first | done | (rw [show t294.length = t277.length from (Kd.R_reads' HO_6.out).1.symm] <;> rfl) | rfl | (simp only [List.length_drop, List.length_take]; rfl)) ?_; (with_reducible refine (laws_heldByteS.calls kj16 _ _ t294 1 t308 _ ?side1 ?side2 A53.out).mono ?_); (case side1 => repeat (first | exact (Kd.R_reads' HO_6.out).2.2 | (with_reducible refine Kd.C_alloc ?_ _) | (with_reducible refine Kd.C_drewN ?_ _) | (with_reducible refine Kd.C_drew ?_))); (case side2 => rw [show t294.length = t277.length from (Kd.R_reads' HO_6.out).1.symm]; exact (Kd.R_reads' HO_6.out).2.1); rintro e w' ⟨rfl, ⟨nd, rfl⟩⟩; refine ⟨_, rfl, ?_⟩))
                        go_ret
                        exact ⟨by first | rfl | (simp [errW_none, errW_some] <;> rfl) | (simp [*, errW_none, errW_some] <;> rfl), by repeat (first | (with_reducible first | exact HB.out | apply below_alloc | apply pw_below_drewN | apply below_drew1 | refine below_set ?_ GE255.out | refine below_set ?_ GE276.out) | exact HB.out)⟩
                      · rw [if_neg c55] at H
                        have c55b0 : (t308 == t293) = false := beq_eq_false_iff_ne.mpr c55
                        have c55b1 : (t308 != t293) = true := bne_iff_ne.mpr c55
                        cases (Option.some.inj H).trans hT
                  · replace c52 := Bool.eq_false_iff.mpr c52
                    subst c52
                    have H1 : (some false) = some r := by rw [if_neg (show ¬ (false = true) by decide)] at H; exact H
                    clear H
                    have H := H1
                    clear H1
                    cases (Option.some.inj H).trans hT
                · rw [if_neg c48] at H
                  have c48b0 : (t295 == t293) = false := beq_eq_false_iff_ne.mpr c48
                  have c48b1 : (t295 != t293) = true := bne_iff_ne.mpr c48
                  cases (Option.some.inj H).trans hT
      · replace c15 := Bool.eq_false_iff.mpr c15
        subst c15
        have H1 : (some false) = some r := by rw [if_neg (show ¬ (false = true) by decide)] at H; exact H
        clear H
        have H := H1
        clear H1
        cases (Option.some.inj H).trans hT
    · replace c12 := Bool.eq_false_iff.mpr c12
      subst c12
      have H1 : (some false) = some r := by rw [if_neg (show ¬ (false = true) by decide)] at H; exact H
      clear H
      have H := H1
      clear H1
      cases (Option.some.inj H).trans hT

end Go.Proofs.Ytkbclccnnllddaa.PFnExactRecordBytes
