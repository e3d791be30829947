-- By this session's own program (wip/xprint.py), over the kit's print.
import Derived.Test.YtkbclccnnllddaaPFnExactLogBytesx0
import Derived.Test.YtkbclccnnllddaaPFnExactLogBytesx1
import Derived.Test.YtkbclccnnllddaaPFnExactLogBytesx2
import Derived.Test.YtkbclccnnllddaaPFnExactLogBytesx4
import Derived.Test.YtkbclccnnllddaaPFnExactLogBytesx5
import Derived.Test.YtkbclccnnllddaaPFnExactLogBytesx6
import Derived.Test.YtkbclccnnllddaaPFnExactLogBytesx7
namespace Go.Proofs.Ytkbclccnnllddaa.PFnExactLogBytes
open Go.RowKit Go.Proofs.YtkbclccnnllddaaW.PrintWords Go.Proofs.YtkbclccnnllddaaW.PrintLast Go.Proofs.YtkbclccnnllddaaW.PrintMore
attribute [local go_sem] max2_int min2_int max_two min_two max_three min_three max_four min_four   -- for this text's walks alone
attribute [local go_sem high] fl_eql fl_neq fl_lss fl_leq fl_gtr fl_geq fl_add fl_sub fl_mul fl_quo fl_neg fl_ofInt fl_toInt fl_store
set_option linter.unusedVariables false
set_option linter.unusedSimpArgs false

/-! ### impl_RecordBytes: function 27 -/
def impl_RecordBytes.f (k : Nat) (a0_0 : Int) (a0_1 : Int) (a0_2 : Int) (a0_3 : Int) (a0_4 : Int) (l0_5 : List Int) : Option (List Int) := (impl_RecordOk.f k a0_0 a0_1 a0_2 a0_3 a0_4 l0_5).bind fun t255 => (if t255 = true then ((impl_PutNum.f k a0_1 4).bind fun t256 => ((impl_PutNum.f k a0_2 4).bind fun t259 => ((impl_PutNum.f k a0_3 2).bind fun t262 => ((impl_PutNum.f k a0_4 2).bind fun t265 => ((slices_Concat_byte_byte.f k (([t256, t259, t262, t265, l0_5] : List (List Int)))).bind fun t271 => ((impl_Frame.f k a0_0 t271).bind fun t274 => (some t274))))))) else (some ([] : List Int)))
theorem impl_RecordBytes.mono : ∀ a0 a1 a2 a3 a4 a5 k, LeO (impl_RecordBytes.f k a0 a1 a2 a3 a4 a5) (impl_RecordBytes.f (k + 1) a0 a1 a2 a3 a4 a5) := by
  intro a0 a1 a2 a3 a4 a5 k
  unfold impl_RecordBytes.f
  repeat' first
      | (with_reducible exact impl_Frame.mono _ _ _)
      | (with_reducible exact impl_PutNum.mono _ _ _)
      | (with_reducible exact impl_RecordOk.mono _ _ _ _ _ _ _)
      | (with_reducible exact slices_Concat_byte_byte.mono _ _)
      | (with_reducible exact LeO.refl _)
      | (with_reducible exact LeO.none _)
      | (with_reducible refine LeO.ite ?_ ?_)
      | (with_reducible refine LeO.bind ?_ (fun _ => ?_))
      | exact impl_Frame.mono _ _ _
      | exact impl_PutNum.mono _ _ _
      | exact impl_RecordOk.mono _ _ _ _ _ _ _
      | exact slices_Concat_byte_byte.mono _ _
      | exact LeO.none _
      | refine LeO.ite ?_ ?_
      | refine LeO.bind ?_ (fun _ => ?_)
def impl_RecordBytes.T3 : Bool × List (List Nat × List Nat) := (true, [([], []), ([0], [0]), ([], []), ([2], [2]), ([3], [3]), ([], []), ([5], [5]), ([6, 4], [6]), ([], []), ([8], [8]), ([9, 7], [9]), ([], []), ([11], [11]), ([12, 10], [12]), ([], []), ([14], [14]), ([4, 7, 10, 13, 15], [4, 7, 10, 13, 15]), ([16, 13], [16]), ([1, 17, 17], [1, 17]), ([18, 18, 0, 1, 2, 3, 4, 5, 6, 7, 8, 9, 10, 11, 12, 13, 14, 15, 16, 17, 18], [18])])
def impl_RecordBytes.B3 : List Nat := [0, 1, 0, 4, 12, 0, 32, 124, 0, 256, 1020, 0, 2048, 8188, 0, 16384, 65532, 131068, 262143, 524287]
theorem impl_RecordBytes.tab3 : rtab .any (opsOf Try.f27 3) = impl_RecordBytes.T3 := by kernel_rfl
theorem impl_RecordBytes.bits3 : waitsOk impl_RecordBytes.T3.2 impl_RecordBytes.B3 = true := by kernel_rfl
set_option maxHeartbeats 8000000 in
set_option maxRecDepth 100000 in
theorem impl_RecordBytes.calls (k : Nat) (a0_0 : Int) (a0_1 : Int) (a0_2 : Int) (a0_3 : Int) (a0_4 : Int) (P0_5_ : Nat → Prop) (A0_5 : Option Addr) (c0_5 : Nat) (l0_5 : List Int) (r : List Int) (w : World) (hs0_5 : Kd.V (Kd.int .u8) 5 w w.heap.size (fun k_ => P0_5_ k_) (.slice A0_5 l0_5.length c0_5) l0_5) (h : impl_RecordBytes.f k a0_0 a0_1 a0_2 a0_3 a0_4 l0_5 = some r) :
    Calls Try.prog 27 #[.agg #[.int .i64 a0_0, .int .i64 a0_1, .int .i64 a0_2, .int .i64 a0_3, .int .i64 a0_4, .slice A0_5 l0_5.length c0_5]] w fun e w' => ∃ v0_ : Value, e = .returned (v0_) ∧ Kd.R (Kd.int .u8) 5 w' w.heap.size (fun k_ => (w.heap.size ≤ k_)) v0_ r ∧ Below w.heap.size w w' := by
  have hu37 := Try.underlying37
  have HO0_5 := Aside0.mk (show Kd.V (Kd.int .u8) 5 w w.heap.size (fun k_ => (P0_5_ k_ ∨ w.heap.size ≤ k_)) (.slice A0_5 l0_5.length c0_5) l0_5 from Kd.V_mono hs0_5 (fun k_ hk => .inl hk))
  have HB := Aside0.mk (Below.refl w.heap.size w)
  have H : ((impl_RecordOk.f k a0_0 a0_1 a0_2 a0_3 a0_4 l0_5).bind fun t255 => (if t255 = true then ((impl_PutNum.f k a0_1 4).bind fun t256 => ((impl_PutNum.f k a0_2 4).bind fun t259 => ((impl_PutNum.f k a0_3 2).bind fun t262 => ((impl_PutNum.f k a0_4 2).bind fun t265 => ((slices_Concat_byte_byte.f k (([t256, t259, t262, t265, l0_5] : List (List Int)))).bind fun t271 => ((impl_Frame.f k a0_0 t271).bind fun t274 => (some t274))))))) else (some ([] : List Int)))) = some r := h
  clear h
  replace H := Option.bind_eq_some_iff.mp H
  obtain ⟨t255, A20, H⟩ := H
  replace H : (if t255 = true then ((impl_PutNum.f k a0_1 4).bind fun t256 => ((impl_PutNum.f k a0_2 4).bind fun t259 => ((impl_PutNum.f k a0_3 2).bind fun t262 => ((impl_PutNum.f k a0_4 2).bind fun t265 => ((slices_Concat_byte_byte.f k (([t256, t259, t262, t265, l0_5] : List (List Int)))).bind fun t271 => ((impl_Frame.f k a0_0 t271).bind fun t274 => (some t274))))))) else (some ([] : List Int))) = some r := H
  have A2 := Aside0.mk A20
  clear A20
  by_cases c3 : t255 = true
  · subst c3
    have H1 : ((impl_PutNum.f k a0_1 4).bind fun t256 => ((impl_PutNum.f k a0_2 4).bind fun t259 => ((impl_PutNum.f k a0_3 2).bind fun t262 => ((impl_PutNum.f k a0_4 2).bind fun t265 => ((slices_Concat_byte_byte.f k (([t256, t259, t262, t265, l0_5] : List (List Int)))).bind fun t271 => ((impl_Frame.f k a0_0 t271).bind fun t274 => (some t274))))))) = some r := by rw [if_pos rfl] at H; exact H
    clear H
    have H := H1
    clear H1
    replace H := Option.bind_eq_some_iff.mp H
    obtain ⟨t256, A40, H⟩ := H
    replace H : ((impl_PutNum.f k a0_2 4).bind fun t259 => ((impl_PutNum.f k a0_3 2).bind fun t262 => ((impl_PutNum.f k a0_4 2).bind fun t265 => ((slices_Concat_byte_byte.f k (([t256, t259, t262, t265, l0_5] : List (List Int)))).bind fun t271 => ((impl_Frame.f k a0_0 t271).bind fun t274 => (some t274)))))) = some r := H
    have A4 := Aside0.mk A40
    clear A40
    replace H := Option.bind_eq_some_iff.mp H
    obtain ⟨t259, A50, H⟩ := H
    replace H : ((impl_PutNum.f k a0_3 2).bind fun t262 => ((impl_PutNum.f k a0_4 2).bind fun t265 => ((slices_Concat_byte_byte.f k (([t256, t259, t262, t265, l0_5] : List (List Int)))).bind fun t271 => ((impl_Frame.f k a0_0 t271).bind fun t274 => (some t274))))) = some r := H
    have A5 := Aside0.mk A50
    clear A50
    replace H := Option.bind_eq_some_iff.mp H
    obtain ⟨t262, A60, H⟩ := H
    replace H : ((impl_PutNum.f k a0_4 2).bind fun t265 => ((slices_Concat_byte_byte.f k (([t256, t259, t262, t265, l0_5] : List (List Int)))).bind fun t271 => ((impl_Frame.f k a0_0 t271).bind fun t274 => (some t274)))) = some r := H
    have A6 := Aside0.mk A60
    clear A60
    replace H := Option.bind_eq_some_iff.mp H
    obtain ⟨t265, A70, H⟩ := H
    replace H : ((slices_Concat_byte_byte.f k (([t256, t259, t262, t265, l0_5] : List (List Int)))).bind fun t271 => ((impl_Frame.f k a0_0 t271).bind fun t274 => (some t274))) = some r := H
    have A7 := Aside0.mk A70
    clear A70
    obtain ⟨y268, hy268⟩ : ∃ y_ : List (List Int), y_ = (([t256, t259, t262, t265, l0_5] : List (List Int))) := ⟨_, rfl⟩
    replace H : ((slices_Concat_byte_byte.f k y268).bind fun t271 => ((impl_Frame.f k a0_0 t271).bind fun t274 => (some t274))) = some r := by first | (rw [hy268]; with_reducible exact H) | (have H2_ := (Option.bind_some _ _).symm.trans H; rw [hy268]; with_reducible exact H2_) | (have H2_ := (Option.bind_some _ _).symm.trans H; with_reducible exact H2_) | with_reducible exact H | (rw [hy268]; exact H) | exact H
    have Ny268 := Aside0.mk hy268
    clear hy268
    replace H := Option.bind_eq_some_iff.mp H
    obtain ⟨t271, A80, H⟩ := H
    replace H : ((impl_Frame.f k a0_0 t271).bind fun t274 => (some t274)) = some r := H
    have A8 := Aside0.mk A80
    clear A80
    replace H := Option.bind_eq_some_iff.mp H
    obtain ⟨t274, A90, H⟩ := H
    replace H : (some t274) = some r := H
    have A9 := Aside0.mk A90
    clear A90
    obtain rfl := Option.some.inj H
    go_enter Try.func27, Try.ntmps27
    try go_wp2_with (first | ((with_reducible refine gate_dst (N := 1) rfl ?_); refine box_event ?hg (N := 1) ?hd (cs := #[.int .i64 a0_0, .int .i64 a0_1, .int .i64 a0_2, .int .i64 a0_3, .int .i64 a0_4, .slice A0_5 l0_5.length c0_5]) (t := 37) ?hr ?_; (case hd => rfl); (case hg => rfl); (case hr => first | (go_simp; done) | (go_simp; rfl)); intro gb254 hg w10 hbox hb; have n0_ := Aside0.mk (Kd.V_below (Kd.V_elderB (by (with_reducible repeat (first | apply Kd.V_alloc | apply Kd.V_drewN | apply Kd.V_drew)); exact HO0_5.out) gb254 (Nat.le_of_eq hg.symm)) hb); have n1_ := Aside0.mk (below_step (by repeat (first | (with_reducible first | exact HB.out | apply below_alloc | apply pw_below_drewN | apply below_drew1) | exact HB.out)) hb); have n2_ := Aside0.mk (hbox); have n3_ := Aside0.mk ((by rw [hg]; exact (below_size (by repeat (first | (with_reducible first | exact HB.out | apply below_alloc | apply pw_below_drewN | apply below_drew1) | exact HB.out))) : w.heap.size ≤ gb254)); have n4_ := Aside0.mk ((by rw [hg]; exact (below_size (by repeat (first | (with_reducible first | exact HB.out | apply below_alloc | apply pw_below_drewN | apply below_drew1) | exact HB.out))) : w.heap.size ≤ gb254)); clear HO0_5; clear HB; have HO0_5 := n0_; have HB := n1_; have BK254 := n2_; have GW254 := n3_; have GE254 := n4_; clear n0_ n1_ n2_ n3_ n4_; clear hb hbox hg; have hcz11_0 : w10.cell? ⟨gb254, 0, none⟩ = some (.int .i64 a0_0) := (blk_cell BK254.out 0).trans rfl; have hcz11_1 : w10.cell? ⟨gb254, 1, none⟩ = some (.int .i64 a0_1) := (blk_cell BK254.out 1).trans rfl; have hcz11_2 : w10.cell? ⟨gb254, 2, none⟩ = some (.int .i64 a0_2) := (blk_cell BK254.out 2).trans rfl; have hcz11_3 : w10.cell? ⟨gb254, 3, none⟩ = some (.int .i64 a0_3) := (blk_cell BK254.out 3).trans rfl; have hcz11_4 : w10.cell? ⟨gb254, 4, none⟩ = some (.int .i64 a0_4) := (blk_cell BK254.out 4).trans rfl; have hcz11_5 : w10.cell? ⟨gb254, 5, none⟩ = some (.slice A0_5 l0_5.length c0_5) := (blk_cell BK254.out 5).trans rfl; have hfz11_0 := blk_frozen BK254.out 0; have hfz11_1 := blk_frozen BK254.out 1; have hfz11_2 := blk_frozen BK254.out 2; have hfz11_3 := blk_frozen BK254.out 3; have hfz11_4 := blk_frozen BK254.out 4; have hfz11_5 := blk_frozen BK254.out 5) | ((with_reducible refine gate_callee (f := 24) rfl ?_); refine goesL_ (some 4) rfl rfl Try.func24 (by kernel_rfl) rfl #[.agg #[.int .i64 a0_0, .int .i64 a0_1, .int .i64 a0_2, .int .i64 a0_3, .int .i64 a0_4, .slice A0_5 l0_5.length c0_5]] rfl (by (try simp only [List.map_toArray, List.map_cons, List.map_nil]); first | done | rfl | (simp only [List.length_drop, List.length_take]; rfl)) ?_; (with_reducible refine (impl_RecordOk.calls k a0_0 a0_1 a0_2 a0_3 a0_4 _ _ l0_5 true _ ?side1 ?side2 A2.out).mono ?_); (case side1 => repeat (first | exact (Kd.V_reads' HO0_5.out).2.2 | (with_reducible refine Kd.C_alloc ?_ _) | (with_reducible refine Kd.C_drewN ?_ _) | (with_reducible refine Kd.C_drew ?_))); (case side2 => exact (Kd.V_reads' HO0_5.out).2.1); rintro e w12 ⟨rfl, hb⟩; refine ⟨_, rfl, ?_⟩; have n0_ := Aside0.mk (Kd.V_below (by (with_reducible repeat (first | apply Kd.V_alloc | apply Kd.V_drewN | apply Kd.V_drew)); exact HO0_5.out) hb); have n1_ := Aside0.mk (blk_below (g := gb254) (o := .cells #[.int .i64 a0_0, .int .i64 a0_1, .int .i64 a0_2, .int .i64 a0_3, .int .i64 a0_4, .slice A0_5 l0_5.length c0_5] 37 (0, 0)) (by (with_reducible repeat (first | refine blk_drewN ?_ _ | refine blk_drew ?_ | refine blk_alloc ?_ _)); exact BK254.out) hb); have n2_ := Aside0.mk (below_step (by repeat (first | (with_reducible first | exact HB.out | apply below_alloc | apply pw_below_drewN | apply below_drew1 | refine below_set ?_ GE254.out) | exact HB.out)) hb); clear HO0_5; clear BK254; clear HB; have HO0_5 := n0_; have BK254 := n1_; have HB := n2_; clear n0_ n1_ n2_; (try clear hb); (try clear hb2); (try clear hk); (try clear hi)))
    have n0_ := Aside0.mk (Kd.V_drew HO0_5.out)
    have n1_ := Aside0.mk (blk_drew BK254.out)
    have n2_ := Aside0.mk (below_drew1 HB.out)
    clear HO0_5
    clear BK254
    clear HB
    have HO0_5 := n0_
    have BK254 := n1_
    have HB := n2_
    clear n0_ n1_ n2_
    refine start_ (n := 20) (S := fun w' => w'.cell? ⟨gb254, 0, none⟩ = some (.int .i64 a0_0) ∧ w'.cell? ⟨gb254, 1, none⟩ = some (.int .i64 a0_1) ∧ w'.cell? ⟨gb254, 2, none⟩ = some (.int .i64 a0_2) ∧ w'.cell? ⟨gb254, 3, none⟩ = some (.int .i64 a0_3) ∧ w'.cell? ⟨gb254, 4, none⟩ = some (.int .i64 a0_4) ∧ w'.cell? ⟨gb254, 5, none⟩ = some (.slice A0_5 l0_5.length c0_5)) (ds := []) #[false, false, false, false, false, false, false, false, false, false, false, false, false, false, false, false, false, false, false, false] (by kernel_rfl) rfl rfl ⟨(blk_cell BK254.out 0).trans rfl, (blk_cell BK254.out 1).trans rfl, (blk_cell BK254.out 2).trans rfl, (blk_cell BK254.out 3).trans rfl, (blk_cell BK254.out 4).trans rfl, (blk_cell BK254.out 5).trans rfl⟩ (fun hHeld => ?_); refine with_tabW impl_RecordBytes.tab3 impl_RecordBytes.bits3 (fun HT_ HW_ => ?_)
    generalize w12.drew = w13 at HO0_5 BK254 HB hHeld ⊢
    refine pure_ (i := 0) (N := some 6) (v := ?_) (a' := ?_) #[true, false, false, false, false, false, false, false, false, false, false, false, false, false, false, false, false, false, false, false] rfl rfl (any_of HT_.out (by kernel_rfl)) (fun _ _ _ h => h) (Or.inl ⟨by rfl, ?_⟩) ?_ ?_
    rotate_left
    · intro w'
      go_simp
      with_reducible rfl
    rotate_left
    · simp only [Act.put, List.setIfInBounds_toArray, List.set_cons_zero, List.set_cons_succ, i64_w, i32_w]
      rfl
    refine pure_ (i := 2) (N := some 8) (v := ?_) (a' := ?_) #[true, false, true, false, false, false, false, false, false, false, false, false, false, false, false, false, false, false, false, false] rfl rfl (any_of HT_.out (by kernel_rfl)) (fun _ _ _ h => h) (Or.inl ⟨by rfl, ?_⟩) ?_ ?_
    rotate_left
    · intro w'
      go_simp
      with_reducible rfl
    rotate_left
    · simp only [Act.put, List.setIfInBounds_toArray, List.set_cons_zero, List.set_cons_succ, i64_w, i32_w]
      rfl
    refine pure_ (i := 5) (N := some 11) (v := ?_) (a' := ?_) #[true, false, true, false, false, true, false, false, false, false, false, false, false, false, false, false, false, false, false, false] rfl rfl (any_of HT_.out (by kernel_rfl)) (fun _ _ _ h => h) (Or.inl ⟨by rfl, ?_⟩) ?_ ?_
    rotate_left
    · intro w'
      go_simp
      with_reducible rfl
    rotate_left
    · simp only [Act.put, List.setIfInBounds_toArray, List.set_cons_zero, List.set_cons_succ, i64_w, i32_w]
      rfl
    refine pure_ (i := 8) (N := some 14) (v := ?_) (a' := ?_) #[true, false, true, false, false, true, false, false, true, false, false, false, false, false, false, false, false, false, false, false] rfl rfl (any_of HT_.out (by kernel_rfl)) (fun _ _ _ h => h) (Or.inl ⟨by rfl, ?_⟩) ?_ ?_
    rotate_left
    · intro w'
      go_simp
      with_reducible rfl
    rotate_left
    · simp only [Act.put, List.setIfInBounds_toArray, List.set_cons_zero, List.set_cons_succ, i64_w, i32_w]
      rfl
    refine pure_ (i := 11) (N := some 17) (v := ?_) (a' := ?_) #[true, false, true, false, false, true, false, false, true, false, false, true, false, false, false, false, false, false, false, false] rfl rfl (any_of HT_.out (by kernel_rfl)) (fun _ _ _ h => h) (Or.inl ⟨by rfl, ?_⟩) ?_ ?_
    rotate_left
    · intro w'
      go_simp
      with_reducible rfl
    rotate_left
    · simp only [Act.put, List.setIfInBounds_toArray, List.set_cons_zero, List.set_cons_succ, i64_w, i32_w]
      rfl
    refine pure_ (i := 14) (N := some 20) (v := ?_) (a' := ?_) #[true, false, true, false, false, true, false, false, true, false, false, true, false, false, true, false, false, false, false, false] rfl rfl (any_of HT_.out (by kernel_rfl)) (fun _ _ _ h => h) (Or.inl ⟨by rfl, ?_⟩) ?_ ?_
    rotate_left
    · intro w'
      go_simp
      with_reducible rfl
    rotate_left
    · simp only [Act.put, List.setIfInBounds_toArray, List.set_cons_zero, List.set_cons_succ, i64_w, i32_w]
      rfl
    refine take_ (i := 1) (N := some 7) (v := ?_) (a' := ?_) #[true, true, true, false, false, true, false, false, true, false, false, true, false, false, true, false, false, false, false, false] rfl rfl (take_ofW HT_.out HW_.out (by kernel_rfl)) (fun _ _ _ h => h) (Or.inl ⟨by rfl, ?_⟩) hHeld ?_ ?_
    rotate_left
    · rintro w' ⟨s0, s1, s2, s3, s4, s5⟩
      go_simp
      with_reducible rfl
    rotate_left
    · simp only [Act.put, List.setIfInBounds_toArray, List.set_cons_zero, List.set_cons_succ, i64_w, i32_w]
      rfl
    refine take_ (i := 3) (N := some 9) (v := ?_) (a' := ?_) #[true, true, true, true, false, true, false, false, true, false, false, true, false, false, true, false, false, false, false, false] rfl rfl (take_ofW HT_.out HW_.out (by kernel_rfl)) (fun _ _ _ h => h) (Or.inl ⟨by rfl, ?_⟩) hHeld ?_ ?_
    rotate_left
    · rintro w' ⟨s0, s1, s2, s3, s4, s5⟩
      go_simp
      with_reducible rfl
    rotate_left
    · simp only [Act.put, List.setIfInBounds_toArray, List.set_cons_zero, List.set_cons_succ, i64_w, i32_w]
      rfl
    refine take_ (i := 6) (N := some 12) (v := ?_) (a' := ?_) #[true, true, true, true, false, true, true, false, true, false, false, true, false, false, true, false, false, false, false, false] rfl rfl (take_ofW HT_.out HW_.out (by kernel_rfl)) (fun _ _ _ h => h) (Or.inl ⟨by rfl, ?_⟩) hHeld ?_ ?_
    rotate_left
    · rintro w' ⟨s0, s1, s2, s3, s4, s5⟩
      go_simp
      with_reducible rfl
    rotate_left
    · simp only [Act.put, List.setIfInBounds_toArray, List.set_cons_zero, List.set_cons_succ, i64_w, i32_w]
      rfl
    refine take_ (i := 9) (N := some 15) (v := ?_) (a' := ?_) #[true, true, true, true, false, true, true, false, true, true, false, true, false, false, true, false, false, false, false, false] rfl rfl (take_ofW HT_.out HW_.out (by kernel_rfl)) (fun _ _ _ h => h) (Or.inl ⟨by rfl, ?_⟩) hHeld ?_ ?_
    rotate_left
    · rintro w' ⟨s0, s1, s2, s3, s4, s5⟩
      go_simp
      with_reducible rfl
    rotate_left
    · simp only [Act.put, List.setIfInBounds_toArray, List.set_cons_zero, List.set_cons_succ, i64_w, i32_w]
      rfl
    refine take_ (i := 12) (N := some 18) (v := ?_) (a' := ?_) #[true, true, true, true, false, true, true, false, true, true, false, true, true, false, true, false, false, false, false, false] rfl rfl (take_ofW HT_.out HW_.out (by kernel_rfl)) (fun _ _ _ h => h) (Or.inl ⟨by rfl, ?_⟩) hHeld ?_ ?_
    rotate_left
    · rintro w' ⟨s0, s1, s2, s3, s4, s5⟩
      go_simp
      with_reducible rfl
    rotate_left
    · simp only [Act.put, List.setIfInBounds_toArray, List.set_cons_zero, List.set_cons_succ, i64_w, i32_w]
      rfl
    refine take_ (i := 15) (N := some 21) (v := ?_) (a' := ?_) #[true, true, true, true, false, true, true, false, true, true, false, true, true, false, true, true, false, false, false, false] rfl rfl (take_ofW HT_.out HW_.out (by kernel_rfl)) (fun _ _ _ h => h) (Or.inl ⟨by rfl, ?_⟩) hHeld ?_ ?_
    rotate_left
    · rintro w' ⟨s0, s1, s2, s3, s4, s5⟩
      go_simp
      with_reducible rfl
    rotate_left
    · simp only [Act.put, List.setIfInBounds_toArray, List.set_cons_zero, List.set_cons_succ, i64_w, i32_w]
      rfl
    refine one_ (i := 4) (N := some 10) #[true, true, true, true, true, true, true, false, true, true, false, true, true, false, true, true, false, false, false, false] rfl rfl (one_of HT_.out (by kernel_rfl)) (by decide) (fun K hK => ?_)
    refine goes_ Try.func43 (by kernel_rfl) rfl #[.int .i64 a0_1, .int .i64 4] (by rfl) rfl rfl (by (try simp only [List.map_toArray, List.map_cons, List.map_nil]); first | done | rfl | (simp only [List.length_drop, List.length_take]; rfl)) ?_
    with_reducible refine (impl_PutNum.calls k a0_1 4 t256 _ A4.out).mono ?_
    rintro e w14 ⟨v257, rfl, ho0, hb⟩
    refine ⟨_, rfl, ?_⟩
    have n0_ := Aside0.mk (Kd.V_elder' (by (with_reducible repeat (first | apply Kd.V_alloc | apply Kd.V_drewN | apply Kd.V_drew)); exact HO0_5.out) (Kd.R_base ho0) hb)
    have n1_ := Aside0.mk (Kd.R_lower (Kd.R_newM (M := fun k_ => (w.heap.size ≤ k_)) ho0 (below_size (by repeat (first | (with_reducible first | exact HB.out | apply below_alloc | apply pw_below_drewN | apply below_drew1 | refine below_set ?_ GE254.out) | exact HB.out))) (fun k_ h_ => h_)) (below_size (by repeat (first | (with_reducible first | exact HB.out | apply below_alloc | apply pw_below_drewN | apply below_drew1 | refine below_set ?_ GE254.out) | exact HB.out))))
    have n2_ := Aside0.mk (blk_below (g := gb254) (o := .cells #[.int .i64 a0_0, .int .i64 a0_1, .int .i64 a0_2, .int .i64 a0_3, .int .i64 a0_4, .slice A0_5 l0_5.length c0_5] 37 (0, 0)) (by (with_reducible repeat (first | refine blk_drewN ?_ _ | refine blk_drew ?_ | refine blk_alloc ?_ _)); exact BK254.out) hb)
    have n3_ := Aside0.mk (below_step (by repeat (first | (with_reducible first | exact HB.out | apply below_alloc | apply pw_below_drewN | apply below_drew1 | refine below_set ?_ GE254.out) | exact HB.out)) hb)
    clear HO0_5
    clear BK254
    clear HB
    have HO0_5 := n0_
    have HO258 := n1_
    have BK254 := n2_
    have HB := n3_
    clear n0_ n1_ n2_ n3_
    (try clear hb)
    (try clear hb2)
    (try clear hk)
    (try clear hi)
    (try clear ho0)
    refine hK.out _ _ ⟨(blk_cell BK254.out 0).trans rfl, (blk_cell BK254.out 1).trans rfl, (blk_cell BK254.out 2).trans rfl, (blk_cell BK254.out 3).trans rfl, (blk_cell BK254.out 4).trans rfl, (blk_cell BK254.out 5).trans rfl⟩ (fun hHeld => ?_)
    clear hK K
    refine norm_ (a' := ?_) ?_ ?_
    rotate_left
    · show Act.put _ (some 10) _ = _
      simp only [Act.put, List.setIfInBounds_toArray, List.set_cons_zero, List.set_cons_succ, i64_w, i32_w]
      rfl
    refine one_ (i := 7) (N := some 13) #[true, true, true, true, true, true, true, true, true, true, false, true, true, false, true, true, false, false, false, false] rfl rfl (one_of HT_.out (by kernel_rfl)) (by decide) (fun K hK => ?_)
    refine goes_ Try.func43 (by kernel_rfl) rfl #[.int .i64 a0_2, .int .i64 4] (by rfl) rfl rfl (by (try simp only [List.map_toArray, List.map_cons, List.map_nil]); first | done | rfl | (simp only [List.length_drop, List.length_take]; rfl)) ?_
    with_reducible refine (impl_PutNum.calls k a0_2 4 t259 _ A5.out).mono ?_
    rintro e w15 ⟨v260, rfl, ho0, hb⟩
    refine ⟨_, rfl, ?_⟩
    have n0_ := Aside0.mk (Kd.V_elder' (by (with_reducible repeat (first | apply Kd.V_alloc | apply Kd.V_drewN | apply Kd.V_drew)); exact HO0_5.out) (Kd.R_base ho0) hb)
    have n1_ := Aside0.mk (Kd.R_elder' (by (with_reducible repeat (first | apply Kd.R_alloc | apply Kd.R_drewN | apply Kd.R_drew)); exact HO258.out) (Kd.R_base ho0) hb)
    have n2_ := Aside0.mk (Kd.R_lower (Kd.R_new' (Kd.R_newM (M := fun k_ => (w.heap.size ≤ k_)) ho0 (below_size (by repeat (first | (with_reducible first | exact HB.out | apply below_alloc | apply pw_below_drewN | apply below_drew1 | refine below_set ?_ GE254.out) | exact HB.out))) (fun k_ h_ => h_)) (Kd.R_lt (by (with_reducible repeat (first | apply Kd.R_alloc | apply Kd.R_drewN | apply Kd.R_drew)); exact HO258.out))) (below_size (by repeat (first | (with_reducible first | exact HB.out | apply below_alloc | apply pw_below_drewN | apply below_drew1 | refine below_set ?_ GE254.out) | exact HB.out))))
    have n3_ := Aside0.mk (blk_below (g := gb254) (o := .cells #[.int .i64 a0_0, .int .i64 a0_1, .int .i64 a0_2, .int .i64 a0_3, .int .i64 a0_4, .slice A0_5 l0_5.length c0_5] 37 (0, 0)) (by (with_reducible repeat (first | refine blk_drewN ?_ _ | refine blk_drew ?_ | refine blk_alloc ?_ _)); exact BK254.out) hb)
    have n4_ := Aside0.mk (below_step (by repeat (first | (with_reducible first | exact HB.out | apply below_alloc | apply pw_below_drewN | apply below_drew1 | refine below_set ?_ GE254.out) | exact HB.out)) hb)
    clear HO0_5
    clear HO258
    clear BK254
    clear HB
    have HO0_5 := n0_
    have HO258 := n1_
    have HO261 := n2_
    have BK254 := n3_
    have HB := n4_
    clear n0_ n1_ n2_ n3_ n4_
    (try clear hb)
    (try clear hb2)
    (try clear hk)
    (try clear hi)
    (try clear ho0)
    refine hK.out _ _ ⟨(blk_cell BK254.out 0).trans rfl, (blk_cell BK254.out 1).trans rfl, (blk_cell BK254.out 2).trans rfl, (blk_cell BK254.out 3).trans rfl, (blk_cell BK254.out 4).trans rfl, (blk_cell BK254.out 5).trans rfl⟩ (fun hHeld => ?_)
    clear hK K
    refine norm_ (a' := ?_) ?_ ?_
    rotate_left
    · show Act.put _ (some 13) _ = _
      simp only [Act.put, List.setIfInBounds_toArray, List.set_cons_zero, List.set_cons_succ, i64_w, i32_w]
      rfl
    refine one_ (i := 10) (N := some 16) #[true, true, true, true, true, true, true, true, true, true, true, true, true, false, true, true, false, false, false, false] rfl rfl (one_of HT_.out (by kernel_rfl)) (by decide) (fun K hK => ?_)
    refine goes_ Try.func43 (by kernel_rfl) rfl #[.int .i64 a0_3, .int .i64 2] (by rfl) rfl rfl (by (try simp only [List.map_toArray, List.map_cons, List.map_nil]); first | done | rfl | (simp only [List.length_drop, List.length_take]; rfl)) ?_
    with_reducible refine (impl_PutNum.calls k a0_3 2 t262 _ A6.out).mono ?_
    rintro e w16 ⟨v263, rfl, ho0, hb⟩
    refine ⟨_, rfl, ?_⟩
    have n0_ := Aside0.mk (Kd.V_elder' (by (with_reducible repeat (first | apply Kd.V_alloc | apply Kd.V_drewN | apply Kd.V_drew)); exact HO0_5.out) (Kd.R_base ho0) hb)
    have n1_ := Aside0.mk (Kd.R_elder' (by (with_reducible repeat (first | apply Kd.R_alloc | apply Kd.R_drewN | apply Kd.R_drew)); exact HO258.out) (Kd.R_base ho0) hb)
    have n2_ := Aside0.mk (Kd.R_elder' (by (with_reducible repeat (first | apply Kd.R_alloc | apply Kd.R_drewN | apply Kd.R_drew)); exact HO261.out) (Kd.R_base ho0) hb)
    have n3_ := Aside0.mk (Kd.R_lower (Kd.R_new' (Kd.R_new' (Kd.R_newM (M := fun k_ => (w.heap.size ≤ k_)) ho0 (below_size (by repeat (first | (with_reducible first | exact HB.out | apply below_alloc | apply pw_below_drewN | apply below_drew1 | refine below_set ?_ GE254.out) | exact HB.out))) (fun k_ h_ => h_)) (Kd.R_lt (by (with_reducible repeat (first | apply Kd.R_alloc | apply Kd.R_drewN | apply Kd.R_drew)); exact HO258.out))) (Kd.R_lt (by (with_reducible repeat (first | apply Kd.R_alloc | apply Kd.R_drewN | apply Kd.R_drew)); exact HO261.out))) (below_size (by repeat (first | (with_reducible first | exact HB.out | apply below_alloc | apply pw_below_drewN | apply below_drew1 | refine below_set ?_ GE254.out) | exact HB.out))))
    have n4_ := Aside0.mk (blk_below (g := gb254) (o := .cells #[.int .i64 a0_0, .int .i64 a0_1, .int .i64 a0_2, .int .i64 a0_3, .int .i64 a0_4, .slice A0_5 l0_5.length c0_5] 37 (0, 0)) (by (with_reducible repeat (first | refine blk_drewN ?_ _ | refine blk_drew ?_ | refine blk_alloc ?_ _)); exact BK254.out) hb)
    have n5_ := Aside0.mk (below_step (by repeat (first | (with_reducible first | exact HB.out | apply below_alloc | apply pw_below_drewN | apply below_drew1 | refine below_set ?_ GE254.out) | exact HB.out)) hb)
    clear HO0_5
    clear HO258
    clear HO261
    clear BK254
    clear HB
    have HO0_5 := n0_
    have HO258 := n1_
    have HO261 := n2_
    have HO264 := n3_
    have BK254 := n4_
    have HB := n5_
    clear n0_ n1_ n2_ n3_ n4_ n5_
    (try clear hb)
    (try clear hb2)
    (try clear hk)
    (try clear hi)
    (try clear ho0)
    refine hK.out _ _ ⟨(blk_cell BK254.out 0).trans rfl, (blk_cell BK254.out 1).trans rfl, (blk_cell BK254.out 2).trans rfl, (blk_cell BK254.out 3).trans rfl, (blk_cell BK254.out 4).trans rfl, (blk_cell BK254.out 5).trans rfl⟩ (fun hHeld => ?_)
    clear hK K
    refine norm_ (a' := ?_) ?_ ?_
    rotate_left
    · show Act.put _ (some 16) _ = _
      simp only [Act.put, List.setIfInBounds_toArray, List.set_cons_zero, List.set_cons_succ, i64_w, i32_w]
      rfl
    refine one_ (i := 13) (N := some 19) #[true, true, true, true, true, true, true, true, true, true, true, true, true, true, true, true, false, false, false, false] rfl rfl (one_of HT_.out (by kernel_rfl)) (by decide) (fun K hK => ?_)
    refine goes_ Try.func43 (by kernel_rfl) rfl #[.int .i64 a0_4, .int .i64 2] (by rfl) rfl rfl (by (try simp only [List.map_toArray, List.map_cons, List.map_nil]); first | done | rfl | (simp only [List.length_drop, List.length_take]; rfl)) ?_
    with_reducible refine (impl_PutNum.calls k a0_4 2 t265 _ A7.out).mono ?_
    rintro e w17 ⟨v266, rfl, ho0, hb⟩
    refine ⟨_, rfl, ?_⟩
    have n0_ := Aside0.mk (Kd.V_elder' (by (with_reducible repeat (first | apply Kd.V_alloc | apply Kd.V_drewN | apply Kd.V_drew)); exact HO0_5.out) (Kd.R_base ho0) hb)
    have n1_ := Aside0.mk (Kd.R_elder' (by (with_reducible repeat (first | apply Kd.R_alloc | apply Kd.R_drewN | apply Kd.R_drew)); exact HO258.out) (Kd.R_base ho0) hb)
    have n2_ := Aside0.mk (Kd.R_elder' (by (with_reducible repeat (first | apply Kd.R_alloc | apply Kd.R_drewN | apply Kd.R_drew)); exact HO261.out) (Kd.R_base ho0) hb)
    have n3_ := Aside0.mk (Kd.R_elder' (by (with_reducible repeat (first | apply Kd.R_alloc | apply Kd.R_drewN | apply Kd.R_drew)); exact HO264.out) (Kd.R_base ho0) hb)
    have n4_ := Aside0.mk (Kd.R_lower (Kd.R_new' (Kd.R_new' (Kd.R_new' (Kd.R_newM (M := fun k_ => (w.heap.size ≤ k_)) ho0 (below_size (by repeat (first | (with_reducible first | exact HB.out | apply below_alloc | apply pw_below_drewN | apply below_drew1 | refine below_set ?_ GE254.out) | exact HB.out))) (fun k_ h_ => h_)) (Kd.R_lt (by (with_reducible repeat (first | apply Kd.R_alloc | apply Kd.R_drewN | apply Kd.R_drew)); exact HO258.out))) (Kd.R_lt (by (with_reducible repeat (first | apply Kd.R_alloc | apply Kd.R_drewN | apply Kd.R_drew)); exact HO261.out))) (Kd.R_lt (by (with_reducible repeat (first | apply Kd.R_alloc | apply Kd.R_drewN | apply Kd.R_drew)); exact HO264.out))) (below_size (by repeat (first | (with_reducible first | exact HB.out | apply below_alloc | apply pw_below_drewN | apply below_drew1 | refine below_set ?_ GE254.out) | exact HB.out))))
    have n5_ := Aside0.mk (blk_below (g := gb254) (o := .cells #[.int .i64 a0_0, .int .i64 a0_1, .int .i64 a0_2, .int .i64 a0_3, .int .i64 a0_4, .slice A0_5 l0_5.length c0_5] 37 (0, 0)) (by (with_reducible repeat (first | refine blk_drewN ?_ _ | refine blk_drew ?_ | refine blk_alloc ?_ _)); exact BK254.out) hb)
    have n6_ := Aside0.mk (below_step (by repeat (first | (with_reducible first | exact HB.out | apply below_alloc | apply pw_below_drewN | apply below_drew1 | refine below_set ?_ GE254.out) | exact HB.out)) hb)
    clear HO0_5
    clear HO258
    clear HO261
    clear HO264
    clear BK254
    clear HB
    have HO0_5 := n0_
    have HO258 := n1_
    have HO261 := n2_
    have HO264 := n3_
    have HO267 := n4_
    have BK254 := n5_
    have HB := n6_
    clear n0_ n1_ n2_ n3_ n4_ n5_ n6_
    (try clear hb)
    (try clear hb2)
    (try clear hk)
    (try clear hi)
    (try clear ho0)
    obtain ⟨Ao18, co18, eo18⟩ := Kd.R_slice HO258.out
    (first | subst eo18 | (injection eo18 with f1_ f2_ f3_; have f4_ := f1_.symm; have f5_ := f3_.symm; clear f1_ f2_ f3_; subst f4_; subst f5_))
    obtain ⟨Ao19, co19, eo19⟩ := Kd.R_slice HO261.out
    (first | subst eo19 | (injection eo19 with f1_ f2_ f3_; have f4_ := f1_.symm; have f5_ := f3_.symm; clear f1_ f2_ f3_; subst f4_; subst f5_))
    obtain ⟨Ao20, co20, eo20⟩ := Kd.R_slice HO264.out
    (first | subst eo20 | (injection eo20 with f1_ f2_ f3_; have f4_ := f1_.symm; have f5_ := f3_.symm; clear f1_ f2_ f3_; subst f4_; subst f5_))
    obtain ⟨Ao21, co21, eo21⟩ := Kd.R_slice HO267.out
    (first | subst eo21 | (injection eo21 with f1_ f2_ f3_; have f4_ := f1_.symm; have f5_ := f3_.symm; clear f1_ f2_ f3_; subst f4_; subst f5_))
    refine hK.out _ _ ⟨(blk_cell BK254.out 0).trans rfl, (blk_cell BK254.out 1).trans rfl, (blk_cell BK254.out 2).trans rfl, (blk_cell BK254.out 3).trans rfl, (blk_cell BK254.out 4).trans rfl, (blk_cell BK254.out 5).trans rfl⟩ (fun hHeld => ?_)
    clear hK K
    refine norm_ (a' := ?_) ?_ ?_
    rotate_left
    · show Act.put _ (some 19) _ = _
      simp only [Act.put, List.setIfInBounds_toArray, List.set_cons_zero, List.set_cons_succ, i64_w, i32_w]
      rfl
    refine one_ (i := 16) (N := some 22) #[true, true, true, true, true, true, true, true, true, true, true, true, true, true, true, true, true, false, false, false] rfl rfl (one_of HT_.out (by kernel_rfl)) (by decide) (fun K hK => ?_)
    refine Kd.N_lit_step (Kd.slice 5 (Kd.int .u8)) _ 22 ?hg (N' := 22) ?hd (xs := ([t256, t259, t262, t265, l0_5] : List (List Int))) (inner := [.slice Ao18 t256.length co18, .slice Ao19 t259.length co19, .slice Ao20 t262.length co20, .slice Ao21 t265.length co21, .slice A0_5 l0_5.length c0_5]) (ok := (fun k_ => (P0_5_ k_ ∨ w.heap.size ≤ k_) ∧ k_ ≠ gb254)) (okp := (fun k_ => (P0_5_ k_ ∨ w.heap.size ≤ k_) ∧ k_ ≠ gb254)) ?hr ?hp (fun _ hk => hk) ((show ∀ k_, w17.heap.size ≤ k_ → (fun k_ => (P0_5_ k_ ∨ w.heap.size ≤ k_) ∧ k_ ≠ gb254) k_ from fun k_ hk => ⟨(.inr (Nat.le_trans (below_size (by repeat (first | (with_reducible first | exact HB.out | apply below_alloc | apply pw_below_drewN | apply below_drew1 | refine below_set ?_ GE254.out) | exact HB.out))) hk)), Kd.freshB (g := gb254) (o := .cells #[.int .i64 a0_0, .int .i64 a0_1, .int .i64 a0_2, .int .i64 a0_3, .int .i64 a0_4, .slice A0_5 l0_5.length c0_5] 37 (0, 0)) (by (with_reducible repeat (first | refine blk_drewN ?_ _ | refine blk_drew ?_ | refine blk_alloc ?_ _)); exact BK254.out) k_ hk⟩) _ (Nat.le_refl _)) (Below.refl _ _) (Nat.le_refl _) (by simp) ?_; (case hd => rfl); (case hg => rfl); (case hr => first | (go_simp; done) | (go_simp; rfl)); (case hp => exact (Reps.one (show Kd.FK (Kd.slice 5 (Kd.int .u8)) _ _ t256 [.slice Ao18 t256.length co18] from (Kd.FK_slice_mk (Kd.R_reads' (Kd.R_mono (ok' := (fun k_ => (P0_5_ k_ ∨ w.heap.size ≤ k_) ∧ k_ ≠ gb254)) (Kd.R_types (HO258.out) BK254.out (by decide)) (fun k_ hk => ⟨(.inr (hk.1.1.1.1.1)), hk.2⟩))).2.1 (Kd.R_F (Kd.R_mono (ok' := (fun k_ => (P0_5_ k_ ∨ w.heap.size ≤ k_) ∧ k_ ≠ gb254)) (Kd.R_types (HO258.out) BK254.out (by decide)) (fun k_ hk => ⟨(.inr (hk.1.1.1.1.1)), hk.2⟩))))) (Reps.one (show Kd.FK (Kd.slice 5 (Kd.int .u8)) _ _ t259 [.slice Ao19 t259.length co19] from (Kd.FK_slice_mk (Kd.R_reads' (Kd.R_mono (ok' := (fun k_ => (P0_5_ k_ ∨ w.heap.size ≤ k_) ∧ k_ ≠ gb254)) (Kd.R_types (HO261.out) BK254.out (by decide)) (fun k_ hk => ⟨(.inr (hk.1.1.1.1.1)), hk.2⟩))).2.1 (Kd.R_F (Kd.R_mono (ok' := (fun k_ => (P0_5_ k_ ∨ w.heap.size ≤ k_) ∧ k_ ≠ gb254)) (Kd.R_types (HO261.out) BK254.out (by decide)) (fun k_ hk => ⟨(.inr (hk.1.1.1.1.1)), hk.2⟩))))) (Reps.one (show Kd.FK (Kd.slice 5 (Kd.int .u8)) _ _ t262 [.slice Ao20 t262.length co20] from (Kd.FK_slice_mk (Kd.R_reads' (Kd.R_mono (ok' := (fun k_ => (P0_5_ k_ ∨ w.heap.size ≤ k_) ∧ k_ ≠ gb254)) (Kd.R_types (HO264.out) BK254.out (by decide)) (fun k_ hk => ⟨(.inr (hk.1.1.1.1.1)), hk.2⟩))).2.1 (Kd.R_F (Kd.R_mono (ok' := (fun k_ => (P0_5_ k_ ∨ w.heap.size ≤ k_) ∧ k_ ≠ gb254)) (Kd.R_types (HO264.out) BK254.out (by decide)) (fun k_ hk => ⟨(.inr (hk.1.1.1.1.1)), hk.2⟩))))) (Reps.one (show Kd.FK (Kd.slice 5 (Kd.int .u8)) _ _ t265 [.slice Ao21 t265.length co21] from (Kd.FK_slice_mk (Kd.R_reads' (Kd.R_mono (ok' := (fun k_ => (P0_5_ k_ ∨ w.heap.size ≤ k_) ∧ k_ ≠ gb254)) (Kd.R_types (HO267.out) BK254.out (by decide)) (fun k_ hk => ⟨(.inr (hk.1.1.1.1.1)), hk.2⟩))).2.1 (Kd.R_F (Kd.R_mono (ok' := (fun k_ => (P0_5_ k_ ∨ w.heap.size ≤ k_) ∧ k_ ≠ gb254)) (Kd.R_types (HO267.out) BK254.out (by decide)) (fun k_ hk => ⟨(.inr (hk.1.1.1.1.1)), hk.2⟩))))) (Reps.one (show Kd.FK (Kd.slice 5 (Kd.int .u8)) _ _ l0_5 [.slice A0_5 l0_5.length c0_5] from (Kd.FK_slice_mk (Kd.V_reads' (Kd.V_mono (ok' := (fun k_ => (P0_5_ k_ ∨ w.heap.size ≤ k_) ∧ k_ ≠ gb254)) (HO0_5.out) (fun k_ hk => ⟨hk.1.1.1.1.1, hk.1.1.1.1.2⟩))).2.1 (Kd.V_F (Kd.V_mono (ok' := (fun k_ => (P0_5_ k_ ∨ w.heap.size ≤ k_) ∧ k_ ≠ gb254)) (HO0_5.out) (fun k_ hk => ⟨hk.1.1.1.1.1, hk.1.1.1.1.2⟩))))) (Reps.none _ _)))))))
    intro v269 w22 ho23 hb hg_ hnew_
    clear hg_ hnew_
    (first | rw [← Ny268.out] at ho23 | (simp only [Int.reduceToNat] at ho23; rw [← Ny268.out] at ho23))
    have n0_ := Aside0.mk (Kd.V_elder' (by (with_reducible repeat (first | apply Kd.V_alloc | apply Kd.V_drewN | apply Kd.V_drew)); exact HO0_5.out) (Kd.N_base ho23) hb)
    have n1_ := Aside0.mk (Kd.N_lower ho23 (below_size (by repeat (first | (with_reducible first | exact HB.out | apply below_alloc | apply pw_below_drewN | apply below_drew1 | refine below_set ?_ GE254.out) | exact HB.out))))
    have n2_ := Aside0.mk (blk_below (g := gb254) (o := .cells #[.int .i64 a0_0, .int .i64 a0_1, .int .i64 a0_2, .int .i64 a0_3, .int .i64 a0_4, .slice A0_5 l0_5.length c0_5] 37 (0, 0)) (by (with_reducible repeat (first | refine blk_drewN ?_ _ | refine blk_drew ?_ | refine blk_alloc ?_ _)); exact BK254.out) hb)
    have n3_ := Aside0.mk (below_step (by repeat (first | (with_reducible first | exact HB.out | apply below_alloc | apply pw_below_drewN | apply below_drew1 | refine below_set ?_ GE254.out) | exact HB.out)) hb)
    clear HO0_5
    clear BK254
    clear HB
    clear HO258
    clear HO261
    clear HO264
    clear HO267
    have HO0_5 := n0_
    have HO270 := n1_
    have BK254 := n2_
    have HB := n3_
    clear n0_ n1_ n2_ n3_
    clear hb ho23
    obtain ⟨Ao24, co24, eo24⟩ := Kd.N_slice HO270.out
    (first | subst eo24 | (injection eo24 with f1_ f2_ f3_; have f4_ := f1_.symm; have f5_ := f3_.symm; clear f1_ f2_ f3_; subst f4_; subst f5_))
    refine hK.out _ _ ⟨(blk_cell BK254.out 0).trans rfl, (blk_cell BK254.out 1).trans rfl, (blk_cell BK254.out 2).trans rfl, (blk_cell BK254.out 3).trans rfl, (blk_cell BK254.out 4).trans rfl, (blk_cell BK254.out 5).trans rfl⟩ (fun hHeld => ?_)
    clear hK K
    refine norm_ (a' := ?_) ?_ ?_
    rotate_left
    · show Act.put _ (some 22) _ = _
      simp only [Act.put, List.setIfInBounds_toArray, List.set_cons_zero, List.set_cons_succ, i64_w, i32_w]
      rfl
    refine one_ (i := 17) (N := some 23) #[true, true, true, true, true, true, true, true, true, true, true, true, true, true, true, true, true, true, false, false] rfl rfl (one_of HT_.out (by kernel_rfl)) (by decide) (fun K hK => ?_)
    refine goes_ Try.func54 (by kernel_rfl) rfl #[.slice Ao24 y268.length co24] (by rfl) rfl rfl (by (try simp only [List.map_toArray, List.map_cons, List.map_nil]); first | done | rfl | (simp only [List.length_drop, List.length_take]; rfl)) ?_
    with_reducible refine (slices_Concat_byte_byte.calls k _ _ y268 t271 _ ?side1 ?side2 A8.out).mono ?_
    (case side1 => repeat (first | exact (Kd.N_reads' HO270.out).2.2 | (with_reducible refine Kd.C_alloc ?_ _) | (with_reducible refine Kd.C_drewN ?_ _) | (with_reducible refine Kd.C_drew ?_)))
    (case side2 => exact (Kd.N_reads' HO270.out).2.1)
    rintro e w25 ⟨v272, rfl, ho0, hb⟩
    refine ⟨_, rfl, ?_⟩
    have n0_ := Aside0.mk (Kd.V_elder' (by (with_reducible repeat (first | apply Kd.V_alloc | apply Kd.V_drewN | apply Kd.V_drew)); exact HO0_5.out) (Kd.R_base ho0) hb)
    have n1_ := Aside0.mk (Kd.N_elder' (by (with_reducible repeat (first | apply Kd.N_alloc | apply Kd.N_drewN | apply Kd.N_drew)); exact HO270.out) (Kd.R_base ho0) hb)
    have n2_ := Aside0.mk (Kd.R_lower (Kd.R_newM (M := fun k_ => (w.heap.size ≤ k_)) ho0 (below_size (by repeat (first | (with_reducible first | exact HB.out | apply below_alloc | apply pw_below_drewN | apply below_drew1 | refine below_set ?_ GE254.out) | exact HB.out))) (fun k_ h_ => h_)) (below_size (by repeat (first | (with_reducible first | exact HB.out | apply below_alloc | apply pw_below_drewN | apply below_drew1 | refine below_set ?_ GE254.out) | exact HB.out))))
    have n3_ := Aside0.mk (blk_below (g := gb254) (o := .cells #[.int .i64 a0_0, .int .i64 a0_1, .int .i64 a0_2, .int .i64 a0_3, .int .i64 a0_4, .slice A0_5 l0_5.length c0_5] 37 (0, 0)) (by (with_reducible repeat (first | refine blk_drewN ?_ _ | refine blk_drew ?_ | refine blk_alloc ?_ _)); exact BK254.out) hb)
    have n4_ := Aside0.mk (below_step (by repeat (first | (with_reducible first | exact HB.out | apply below_alloc | apply pw_below_drewN | apply below_drew1 | refine below_set ?_ GE254.out) | exact HB.out)) hb)
    clear HO0_5
    clear HO270
    clear BK254
    clear HB
    have HO0_5 := n0_
    have HO270 := n1_
    have HO273 := n2_
    have BK254 := n3_
    have HB := n4_
    clear n0_ n1_ n2_ n3_ n4_
    (try clear hb)
    (try clear hb2)
    (try clear hk)
    (try clear hi)
    (try clear ho0)
    obtain ⟨Ao26, co26, eo26⟩ := Kd.R_slice HO273.out
    (first | subst eo26 | (injection eo26 with f1_ f2_ f3_; have f4_ := f1_.symm; have f5_ := f3_.symm; clear f1_ f2_ f3_; subst f4_; subst f5_))
    refine hK.out _ _ ⟨(blk_cell BK254.out 0).trans rfl, (blk_cell BK254.out 1).trans rfl, (blk_cell BK254.out 2).trans rfl, (blk_cell BK254.out 3).trans rfl, (blk_cell BK254.out 4).trans rfl, (blk_cell BK254.out 5).trans rfl⟩ (fun hHeld => ?_)
    clear hK K
    refine norm_ (a' := ?_) ?_ ?_
    rotate_left
    · show Act.put _ (some 23) _ = _
      simp only [Act.put, List.setIfInBounds_toArray, List.set_cons_zero, List.set_cons_succ, i64_w, i32_w]
      rfl
    refine one_ (i := 18) (N := some 24) #[true, true, true, true, true, true, true, true, true, true, true, true, true, true, true, true, true, true, true, false] rfl rfl (one_of HT_.out (by kernel_rfl)) (by decide) (fun K hK => ?_)
    refine goes_ Try.func16 (by kernel_rfl) rfl #[.int .i64 a0_0, .slice Ao26 t271.length co26] (by rfl) rfl rfl (by (try simp only [List.map_toArray, List.map_cons, List.map_nil]); first | done | rfl | (simp only [List.length_drop, List.length_take]; rfl)) ?_
    with_reducible refine (impl_Frame.calls k a0_0 _ _ t271 t274 _ ?side1 ?side2 A9.out).mono ?_
    (case side1 => repeat (first | exact (Kd.R_reads' HO273.out).2.2 | (with_reducible refine Kd.C_alloc ?_ _) | (with_reducible refine Kd.C_drewN ?_ _) | (with_reducible refine Kd.C_drew ?_)))
    (case side2 => exact (Kd.R_reads' HO273.out).2.1)
    rintro e w27 ⟨v275, rfl, ho0, hb⟩
    refine ⟨_, rfl, ?_⟩
    have n0_ := Aside0.mk (Kd.V_elder' (by (with_reducible repeat (first | apply Kd.V_alloc | apply Kd.V_drewN | apply Kd.V_drew)); exact HO0_5.out) (Kd.R_base ho0) hb)
    have n1_ := Aside0.mk (Kd.N_elder' (by (with_reducible repeat (first | apply Kd.N_alloc | apply Kd.N_drewN | apply Kd.N_drew)); exact HO270.out) (Kd.R_base ho0) hb)
    have n2_ := Aside0.mk (Kd.R_elder' (by (with_reducible repeat (first | apply Kd.R_alloc | apply Kd.R_drewN | apply Kd.R_drew)); exact HO273.out) (Kd.R_base ho0) hb)
    have n3_ := Aside0.mk (Kd.R_lower (Kd.R_new' (Kd.R_newM (M := fun k_ => (w.heap.size ≤ k_)) ho0 (below_size (by repeat (first | (with_reducible first | exact HB.out | apply below_alloc | apply pw_below_drewN | apply below_drew1 | refine below_set ?_ GE254.out) | exact HB.out))) (fun k_ h_ => h_)) (Kd.R_lt (by (with_reducible repeat (first | apply Kd.R_alloc | apply Kd.R_drewN | apply Kd.R_drew)); exact HO273.out))) (below_size (by repeat (first | (with_reducible first | exact HB.out | apply below_alloc | apply pw_below_drewN | apply below_drew1 | refine below_set ?_ GE254.out) | exact HB.out))))
    have n4_ := Aside0.mk (blk_below (g := gb254) (o := .cells #[.int .i64 a0_0, .int .i64 a0_1, .int .i64 a0_2, .int .i64 a0_3, .int .i64 a0_4, .slice A0_5 l0_5.length c0_5] 37 (0, 0)) (by (with_reducible repeat (first | refine blk_drewN ?_ _ | refine blk_drew ?_ | refine blk_alloc ?_ _)); exact BK254.out) hb)
    have n5_ := Aside0.mk (below_step (by repeat (first | (with_reducible first | exact HB.out | apply below_alloc | apply pw_below_drewN | apply below_drew1 | refine below_set ?_ GE254.out) | exact HB.out)) hb)
    clear HO0_5
    clear HO270
    clear HO273
    clear BK254
    clear HB
    have HO0_5 := n0_
    have HO270 := n1_
    have HO273 := n2_
    have HO276 := n3_
    have BK254 := n4_
    have HB := n5_
    clear n0_ n1_ n2_ n3_ n4_ n5_
    (try clear hb)
    (try clear hb2)
    (try clear hk)
    (try clear hi)
    (try clear ho0)
    refine hK.out _ _ ⟨(blk_cell BK254.out 0).trans rfl, (blk_cell BK254.out 1).trans rfl, (blk_cell BK254.out 2).trans rfl, (blk_cell BK254.out 3).trans rfl, (blk_cell BK254.out 4).trans rfl, (blk_cell BK254.out 5).trans rfl⟩ (fun hHeld => ?_)
    clear hK K
    refine norm_ (a' := ?_) ?_ ?_
    rotate_left
    · show Act.put _ (some 24) _ = _
      simp only [Act.put, List.setIfInBounds_toArray, List.set_cons_zero, List.set_cons_succ, i64_w, i32_w]
      rfl
    refine pure_ (i := 19) (N := some 2) (v := ?_) (a' := ?_) #[true, true, true, true, true, true, true, true, true, true, true, true, true, true, true, true, true, true, true, true] rfl rfl (any_of HT_.out (by kernel_rfl)) (fun _ _ _ h => h) (Or.inl ⟨by rfl, ?_⟩) ?_ ?_
    rotate_left
    · intro w'
      go_simp
      with_reducible rfl
    rotate_left
    · simp only [Act.put, List.setIfInBounds_toArray, List.set_cons_zero, List.set_cons_succ, i64_w, i32_w]
      rfl
    refine done_ (done_of HT_.out (by kernel_rfl)) ?_
    try go_wp2
    go_ret
    exact ⟨_, by first | rfl | (simp [errW_none, errW_some] <;> rfl) | (simp [*, errW_none, errW_some] <;> rfl), by (with_reducible repeat (first | apply Kd.R_alloc | apply Kd.R_drewN | apply Kd.R_drew)); exact Kd.R_mono HO276.out (fun _ hk => hk.1.1), by repeat (first | (with_reducible first | exact HB.out | apply below_alloc | apply pw_below_drewN | apply below_drew1 | refine below_set ?_ GE254.out) | exact HB.out)⟩
  · replace c3 := Bool.eq_false_iff.mpr c3
    subst c3
    have H1 : (some ([] : List Int)) = some r := by rw [if_neg (show ¬ (false = true) by decide)] at H; exact H
    clear H
    have H := H1
    clear H1
    obtain rfl := Option.some.inj H
    go_enter Try.func27, Try.ntmps27
    go_wp2_with (first | ((with_reducible refine gate_dst (N := 1) rfl ?_); refine box_event ?hg (N := 1) ?hd (cs := #[.int .i64 a0_0, .int .i64 a0_1, .int .i64 a0_2, .int .i64 a0_3, .int .i64 a0_4, .slice A0_5 l0_5.length c0_5]) (t := 37) ?hr ?_; (case hd => rfl); (case hg => rfl); (case hr => first | (go_simp; done) | (go_simp; rfl)); intro gb254 hg w28 hbox hb; have n0_ := Aside0.mk (Kd.V_below (Kd.V_elderB (by (with_reducible repeat (first | apply Kd.V_alloc | apply Kd.V_drewN | apply Kd.V_drew)); exact HO0_5.out) gb254 (Nat.le_of_eq hg.symm)) hb); have n1_ := Aside0.mk (below_step (by repeat (first | (with_reducible first | exact HB.out | apply below_alloc | apply pw_below_drewN | apply below_drew1) | exact HB.out)) hb); have n2_ := Aside0.mk (hbox); have n3_ := Aside0.mk ((by rw [hg]; exact (below_size (by repeat (first | (with_reducible first | exact HB.out | apply below_alloc | apply pw_below_drewN | apply below_drew1) | exact HB.out))) : w.heap.size ≤ gb254)); have n4_ := Aside0.mk ((by rw [hg]; exact (below_size (by repeat (first | (with_reducible first | exact HB.out | apply below_alloc | apply pw_below_drewN | apply below_drew1) | exact HB.out))) : w.heap.size ≤ gb254)); clear HO0_5; clear HB; have HO0_5 := n0_; have HB := n1_; have BK254 := n2_; have GW254 := n3_; have GE254 := n4_; clear n0_ n1_ n2_ n3_ n4_; clear hb hbox hg; have hcz29_0 : w28.cell? ⟨gb254, 0, none⟩ = some (.int .i64 a0_0) := (blk_cell BK254.out 0).trans rfl; have hcz29_1 : w28.cell? ⟨gb254, 1, none⟩ = some (.int .i64 a0_1) := (blk_cell BK254.out 1).trans rfl; have hcz29_2 : w28.cell? ⟨gb254, 2, none⟩ = some (.int .i64 a0_2) := (blk_cell BK254.out 2).trans rfl; have hcz29_3 : w28.cell? ⟨gb254, 3, none⟩ = some (.int .i64 a0_3) := (blk_cell BK254.out 3).trans rfl; have hcz29_4 : w28.cell? ⟨gb254, 4, none⟩ = some (.int .i64 a0_4) := (blk_cell BK254.out 4).trans rfl; have hcz29_5 : w28.cell? ⟨gb254, 5, none⟩ = some (.slice A0_5 l0_5.length c0_5) := (blk_cell BK254.out 5).trans rfl; have hfz29_0 := blk_frozen BK254.out 0; have hfz29_1 := blk_frozen BK254.out 1; have hfz29_2 := blk_frozen BK254.out 2; have hfz29_3 := blk_frozen BK254.out 3; have hfz29_4 := blk_frozen BK254.out 4; have hfz29_5 := blk_frozen BK254.out 5) | ((with_reducible refine gate_callee (f := 24) rfl ?_); refine goesL_ (some 4) rfl rfl Try.func24 (by kernel_rfl) rfl #[.agg #[.int .i64 a0_0, .int .i64 a0_1, .int .i64 a0_2, .int .i64 a0_3, .int .i64 a0_4, .slice A0_5 l0_5.length c0_5]] rfl (by (try simp only [List.map_toArray, List.map_cons, List.map_nil]); first | done | rfl | (simp only [List.length_drop, List.length_take]; rfl)) ?_; (with_reducible refine (impl_RecordOk.calls k a0_0 a0_1 a0_2 a0_3 a0_4 _ _ l0_5 false _ ?side1 ?side2 A2.out).mono ?_); (case side1 => repeat (first | exact (Kd.V_reads' HO0_5.out).2.2 | (with_reducible refine Kd.C_alloc ?_ _) | (with_reducible refine Kd.C_drewN ?_ _) | (with_reducible refine Kd.C_drew ?_))); (case side2 => exact (Kd.V_reads' HO0_5.out).2.1); rintro e w30 ⟨rfl, hb⟩; refine ⟨_, rfl, ?_⟩; have n0_ := Aside0.mk (Kd.V_below (by (with_reducible repeat (first | apply Kd.V_alloc | apply Kd.V_drewN | apply Kd.V_drew)); exact HO0_5.out) hb); have n1_ := Aside0.mk (blk_below (g := gb254) (o := .cells #[.int .i64 a0_0, .int .i64 a0_1, .int .i64 a0_2, .int .i64 a0_3, .int .i64 a0_4, .slice A0_5 l0_5.length c0_5] 37 (0, 0)) (by (with_reducible repeat (first | refine blk_drewN ?_ _ | refine blk_drew ?_ | refine blk_alloc ?_ _)); exact BK254.out) hb); have n2_ := Aside0.mk (below_step (by repeat (first | (with_reducible first | exact HB.out | apply below_alloc | apply pw_below_drewN | apply below_drew1 | refine below_set ?_ GE254.out) | exact HB.out)) hb); clear HO0_5; clear BK254; clear HB; have HO0_5 := n0_; have BK254 := n1_; have HB := n2_; clear n0_ n1_ n2_; (try clear hb); (try clear hb2); (try clear hk); (try clear hi)))
    go_ret
    exact ⟨_, by first | rfl | (simp [errW_none, errW_some] <;> rfl) | (simp [*, errW_none, errW_some] <;> rfl), by first | exact Kd.R_nil _ _ _ _ _ | exact Kd.N_nil _ _ _ _ _ | exact Kd.V_nil _ _ _ _ _ | exact Kd.Q_nil _ _ _ _ _ | exact Kd.S_nil _ _ _ _ _, by repeat (first | (with_reducible first | exact HB.out | apply below_alloc | apply pw_below_drewN | apply below_drew1 | refine below_set ?_ GE254.out) | exact HB.out)⟩

/-! ### impl_LogBytes: function 40 -/
def impl_LogBytes.l0 : Nat → List Int → List (S37) → Int → Int → Option (List Int × Bool)
  | 0, _, _, _, _ => none
  | k + 1, x4, x7, x8, x9 => if x9 < x8 then (if 0 ≤ x9 then (if x9 < (x7.length : Int) then ((impl_RecordOk.f k ((rd_T37 x7 x9).f0) ((rd_T37 x7 x9).f1) ((rd_T37 x7 x9).f2) ((rd_T37 x7 x9).f3) ((rd_T37 x7 x9).f4) ((rd_T37 x7 x9).f5)).bind fun t279 => (if t279 = true then ((impl_RecordBytes.f k ((rd_T37 x7 x9).f0) ((rd_T37 x7 x9).f1) ((rd_T37 x7 x9).f2) ((rd_T37 x7 x9).f3) ((rd_T37 x7 x9).f4) ((rd_T37 x7 x9).f5)).bind fun t280 => (if x4.length + t280.length < 140737488355328 then ((some (x4 ++ t280 : List Int)).bind fun y283 => (if (y283.length : Int) > 65536 then (some (([] : List Int), false)) else (impl_LogBytes.l0 k y283 x7 x8 (wrap64 (x9 + 1))))) else (none))) else (some (([] : List Int), false)))) else (none)) else (none)) else (some (x4, true))
def impl_LogBytes.f (k : Nat) (l0 : List (S37)) : Option (List Int × Bool) := impl_LogBytes.l0 k ([] : List Int) l0 (l0.length : Int) 0
theorem impl_LogBytes.mono_l : ∀ k, (∀ y0 y1 y2 y3, LeO (impl_LogBytes.l0 k y0 y1 y2 y3) (impl_LogBytes.l0 (k + 1) y0 y1 y2 y3))
  | 0 => fun _ _ _ _ r h => by simp [impl_LogBytes.l0] at h
  | k + 1 => by
    have ih0 := impl_LogBytes.mono_l k
    · intro y0 y1 y2 y3
      unfold impl_LogBytes.l0
      repeat' first
      | (with_reducible exact ih0 _ _ _ _)
      | (with_reducible exact impl_RecordBytes.mono _ _ _ _ _ _ _)
      | (with_reducible exact impl_RecordOk.mono _ _ _ _ _ _ _)
      | (with_reducible exact LeO.refl _)
      | (with_reducible exact LeO.none _)
      | (with_reducible refine LeO.ite ?_ ?_)
      | (with_reducible refine LeO.bind ?_ (fun _ => ?_))
      | exact ih0 _ _ _ _
      | exact impl_RecordBytes.mono _ _ _ _ _ _ _
      | exact impl_RecordOk.mono _ _ _ _ _ _ _
      | exact LeO.none _
      | refine LeO.ite ?_ ?_
      | refine LeO.bind ?_ (fun _ => ?_)
theorem impl_LogBytes.mono : ∀ a0 k, LeO (impl_LogBytes.f k a0) (impl_LogBytes.f (k + 1) a0) := by
  intro a0 k
  have ih0 := impl_LogBytes.mono_l k
  unfold impl_LogBytes.f
  repeat' first
      | (with_reducible exact ih0 _ _ _ _)
      | (with_reducible exact impl_RecordBytes.mono _ _ _ _ _ _ _)
      | (with_reducible exact impl_RecordOk.mono _ _ _ _ _ _ _)
      | (with_reducible exact LeO.refl _)
      | (with_reducible exact LeO.none _)
      | (with_reducible refine LeO.ite ?_ ?_)
      | (with_reducible refine LeO.bind ?_ (fun _ => ?_))
      | exact ih0 _ _ _ _
      | exact impl_RecordBytes.mono _ _ _ _ _ _ _
      | exact impl_RecordOk.mono _ _ _ _ _ _ _
      | exact LeO.none _
      | refine LeO.ite ?_ ?_
      | refine LeO.bind ?_ (fun _ => ?_)
set_option maxHeartbeats 8000000 in
set_option maxRecDepth 100000 in
theorem impl_LogBytes.calls (k : Nat) (A0 : Option Addr) (c0 : Nat) (l0 : List (S37)) (r1 : List Int) (r2 : Bool) (w : World) (hr0 : Kd.C k37 w A0 l0.length l0) (hc0 : l0.length ≤ c0) (h : impl_LogBytes.f k l0 = some (r1, r2)) :
    Calls Try.prog 40 #[.slice A0 l0.length c0] w fun e w' => ∃ v0_ : Value, e = .returned (.tuple #[v0_, .bool r2]) ∧ Kd.R (Kd.int .u8) 5 w' w.heap.size (fun _ => True) v0_ r1 ∧ Below w.heap.size w w' := by
  have hu37 := Try.underlying37
  have HR0 := Aside0.mk hr0
  have HC0 := Aside0.mk hc0
  clear hr0 hc0
  have HB := Aside0.mk (Below.refl w.heap.size w)
  have H : (impl_LogBytes.l0 k ([] : List Int) l0 (l0.length : Int) 0) = some (r1, r2) := h
  clear h
  have H' := Aside0.mk H
  clear H
  go_enter Try.func40, Try.ntmps40
  go_wp2
  go_loopg [4, 9] k (fun kq v4 v9 w' => ∃ (x4_1 : List Int) (x9_1 : Int), v9 = .int .i64 x9_1 ∧ Aside0 (impl_LogBytes.l0 kq x4_1 l0 (l0.length : Int) x9_1 = some (r1, r2)) ∧ Aside0 (kq ≤ k) ∧ Aside0 (Kd.R (Kd.int .u8) 5 w' w.heap.size (fun _ => True) v4 x4_1) ∧ Aside0 (Below w.heap.size w w'))
  case atStart => exact ⟨(([] : List Int)), (0), (by first | rfl | (simp; done) | (simp [*]; done)), H', ⟨Nat.le_refl _⟩, ⟨by first | exact Kd.R_nil _ _ _ _ _ | exact Kd.N_nil _ _ _ _ _ | exact Kd.V_nil _ _ _ _ _ | exact Kd.Q_nil _ _ _ _ _ | exact Kd.S_nil _ _ _ _ _⟩, ⟨by repeat (first | (with_reducible first | exact HB.out | apply below_alloc | apply pw_below_drewN | apply below_drew1) | exact HB.out)⟩⟩
  case round =>
    clear H'
    obtain ⟨x4_1, x9_1, rfl, HA, HK1, HO_4, HB⟩ := hrel
    cases gk with
    | zero => exact absurd HA.out (by simp [impl_LogBytes.l0])
    | succ k1 =>
      have H := HA.out
      clear HA
      simp only [impl_LogBytes.l0] at H
      by_cases c2 : x9_1 < (l0.length : Int)
      · rw [if_pos c2] at H
        have c2b0 : decide (x9_1 < (l0.length : Int)) = true := decide_eq_true c2
        clear c2
        by_cases c3 : 0 ≤ x9_1
        · rw [if_pos c3] at H
          have c3b0 : decide (0 ≤ x9_1) = true := decide_eq_true c3
          clear c3
          by_cases c4 : x9_1 < (l0.length : Int)
          · rw [if_pos c4] at H
            have c4b0 : decide (x9_1 < (l0.length : Int)) = true := decide_eq_true c4
            clear c4
            replace H := Option.bind_eq_some_iff.mp H
            obtain ⟨t279, A50, H⟩ := H
            replace H : (if t279 = true then ((impl_RecordBytes.f k1 ((rd_T37 l0 x9_1).f0) ((rd_T37 l0 x9_1).f1) ((rd_T37 l0 x9_1).f2) ((rd_T37 l0 x9_1).f3) ((rd_T37 l0 x9_1).f4) ((rd_T37 l0 x9_1).f5)).bind fun t280 => (if x4_1.length + t280.length < 140737488355328 then ((some (x4_1 ++ t280 : List Int)).bind fun y283 => (if (y283.length : Int) > 65536 then (some (([] : List Int), false)) else (impl_LogBytes.l0 k1 y283 l0 (l0.length : Int) (wrap64 (x9_1 + 1))))) else (none))) else (some (([] : List Int), false))) = some (r1, r2) := H
            have A5 := Aside0.mk A50
            clear A50
            by_cases c6 : t279 = true
            · subst c6
              have H1 : ((impl_RecordBytes.f k1 ((rd_T37 l0 x9_1).f0) ((rd_T37 l0 x9_1).f1) ((rd_T37 l0 x9_1).f2) ((rd_T37 l0 x9_1).f3) ((rd_T37 l0 x9_1).f4) ((rd_T37 l0 x9_1).f5)).bind fun t280 => (if x4_1.length + t280.length < 140737488355328 then ((some (x4_1 ++ t280 : List Int)).bind fun y283 => (if (y283.length : Int) > 65536 then (some (([] : List Int), false)) else (impl_LogBytes.l0 k1 y283 l0 (l0.length : Int) (wrap64 (x9_1 + 1))))) else (none))) = some (r1, r2) := by rw [if_pos rfl] at H; exact H
              clear H
              have H := H1
              clear H1
              replace H := Option.bind_eq_some_iff.mp H
              obtain ⟨t280, A70, H⟩ := H
              replace H : (if x4_1.length + t280.length < 140737488355328 then ((some (x4_1 ++ t280 : List Int)).bind fun y283 => (if (y283.length : Int) > 65536 then (some (([] : List Int), false)) else (impl_LogBytes.l0 k1 y283 l0 (l0.length : Int) (wrap64 (x9_1 + 1))))) else (none)) = some (r1, r2) := H
              have A7 := Aside0.mk A70
              clear A70
              by_cases c8 : x4_1.length + t280.length < 140737488355328
              · rw [if_pos c8] at H
                have LMc8 := Aside0.mk c8
                clear c8
                obtain ⟨y283, hy283⟩ : ∃ y_ : List Int, y_ = (x4_1 ++ t280) := ⟨_, rfl⟩
                replace H : (if (y283.length : Int) > 65536 then (some (([] : List Int), false)) else (impl_LogBytes.l0 k1 y283 l0 (l0.length : Int) (wrap64 (x9_1 + 1)))) = some (r1, r2) := by first | (rw [hy283]; with_reducible exact H) | (have H2_ := (Option.bind_some _ _).symm.trans H; rw [hy283]; with_reducible exact H2_) | (have H2_ := (Option.bind_some _ _).symm.trans H; with_reducible exact H2_) | with_reducible exact H | (rw [hy283]; exact H) | exact H
                have Ny283 := Aside0.mk hy283
                clear hy283
                by_cases c9 : (y283.length : Int) > 65536
                · rw [if_pos c9] at H
                  have c9b0 : decide (65536 < (y283.length : Int)) = true := decide_eq_true c9
                  have c9b1 : decide (65536 < y283.length) = true := decide_eq_true (by omega)
                  clear c9
                  simp only [Option.some.injEq, Prod.mk.injEq] at H
                  obtain ⟨rfl, rfl⟩ := H
                  have p277 : 0 ≤ (x9_1 : Int) := of_decide_eq_true (by first | (with_reducible assumption) | assumption)
                  have q277 : x9_1 < (l0.length : Int) := of_decide_eq_true (by first | (with_reducible assumption) | assumption)
                  obtain ⟨ad277, A277_5, c277_5, e277, hx277_0, hx277_1, hx277_2, hx277_3, hx277_4, hx277_5, hl277_5, hi277_5⟩ := at_T37 HR0.out x9_1 p277 q277
                  cases e277
                  replace hx277_0 := (HB.out.cell (World.block_lt_of_cell? w _ hx277_0)).trans hx277_0
                  replace hx277_1 := (HB.out.cell (World.block_lt_of_cell? w _ hx277_1)).trans hx277_1
                  replace hx277_2 := (HB.out.cell (World.block_lt_of_cell? w _ hx277_2)).trans hx277_2
                  replace hx277_3 := (HB.out.cell (World.block_lt_of_cell? w _ hx277_3)).trans hx277_3
                  replace hx277_4 := (HB.out.cell (World.block_lt_of_cell? w _ hx277_4)).trans hx277_4
                  replace hx277_5 := (HB.out.cell (World.block_lt_of_cell? w _ hx277_5)).trans hx277_5
                  have HR277_5 := Aside0.mk hi277_5
                  have HC277_5 := Aside0.mk hl277_5
                  clear hi277_5 hl277_5
                  replace p277 := eq_true p277
                  replace q277 := eq_true q277
                  go_wp2_with (first | ((with_reducible refine gate_dst (N := 6) rfl ?_); refine box_event ?hg (N := 6) ?hd (cs := #[.int .i64 0, .int .i64 0, .int .i64 0, .int .i64 0, .int .i64 0, .slice none 0 0]) (t := 37) ?hr ?_; (case hd => rfl); (case hg => rfl); (case hr => first | (go_simp; done) | (go_simp; rfl)); intro gb278 hg w10 hbox hb; have n0_ := Aside0.mk (Kd.R_below (by (with_reducible repeat (first | apply Kd.R_alloc | apply Kd.R_drewN | apply Kd.R_drew)); exact HO_4.out) hb); have n1_ := Aside0.mk (below_step (by repeat (first | (with_reducible first | exact HB.out | apply below_alloc | apply pw_below_drewN | apply below_drew1) | exact HB.out)) hb); have n2_ := Aside0.mk (hbox); have n3_ := Aside0.mk ((by rw [hg]; exact (below_size (by repeat (first | (with_reducible first | exact HB.out | apply below_alloc | apply pw_below_drewN | apply below_drew1) | exact HB.out))) : w.heap.size ≤ gb278)); have n4_ := Aside0.mk ((by rw [hg]; exact (below_size (by repeat (first | (with_reducible first | exact HB.out | apply below_alloc | apply pw_below_drewN | apply below_drew1) | exact HB.out))) : w.heap.size ≤ gb278)); clear HO_4; clear HB; have HO_4 := n0_; have HB := n1_; have BK278 := n2_; have GW278 := n3_; have GE278 := n4_; clear n0_ n1_ n2_ n3_ n4_; clear hb hbox hg; have hcz11_0 : w10.cell? ⟨gb278, 0, none⟩ = some (.int .i64 0) := (blk_cell BK278.out 0).trans rfl; have hcz11_1 : w10.cell? ⟨gb278, 1, none⟩ = some (.int .i64 0) := (blk_cell BK278.out 1).trans rfl; have hcz11_2 : w10.cell? ⟨gb278, 2, none⟩ = some (.int .i64 0) := (blk_cell BK278.out 2).trans rfl; have hcz11_3 : w10.cell? ⟨gb278, 3, none⟩ = some (.int .i64 0) := (blk_cell BK278.out 3).trans rfl; have hcz11_4 : w10.cell? ⟨gb278, 4, none⟩ = some (.int .i64 0) := (blk_cell BK278.out 4).trans rfl; have hcz11_5 : w10.cell? ⟨gb278, 5, none⟩ = some (.slice none 0 0) := (blk_cell BK278.out 5).trans rfl; have hfz11_0 := blk_frozen BK278.out 0; have hfz11_1 := blk_frozen BK278.out 1; have hfz11_2 := blk_frozen BK278.out 2; have hfz11_3 := blk_frozen BK278.out 3; have hfz11_4 := blk_frozen BK278.out 4; have hfz11_5 := blk_frozen BK278.out 5) | ((with_reducible refine gate_callee (f := 24) rfl ?_); refine goesL_ (some 14) rfl rfl Try.func24 (by kernel_rfl) rfl #[.agg #[.int .i64 ((rd_T37 l0 x9_1).f0), .int .i64 ((rd_T37 l0 x9_1).f1), .int .i64 ((rd_T37 l0 x9_1).f2), .int .i64 ((rd_T37 l0 x9_1).f3), .int .i64 ((rd_T37 l0 x9_1).f4), .slice A277_5 ((rd_T37 l0 x9_1).f5).length c277_5]] rfl (by (try simp only [List.map_toArray, List.map_cons, List.map_nil]); first | done | rfl | (simp only [List.length_drop, List.length_take]; rfl)) ?_; (with_reducible refine (impl_RecordOk.calls k1 ((rd_T37 l0 x9_1).f0) ((rd_T37 l0 x9_1).f1) ((rd_T37 l0 x9_1).f2) ((rd_T37 l0 x9_1).f3) ((rd_T37 l0 x9_1).f4) _ _ ((rd_T37 l0 x9_1).f5) true _ ?side1 ?side2 A5.out).mono ?_); (case side1 => exact Kd.C_below HR277_5.out (by repeat (first | (with_reducible first | exact HB.out | apply below_alloc | apply pw_below_drewN | apply below_drew1 | refine below_set ?_ GE278.out) | exact HB.out))); (case side2 => exact HC277_5.out); rintro e w12 ⟨rfl, hb⟩; refine ⟨_, rfl, ?_⟩; have n0_ := Aside0.mk (Kd.R_below (by (with_reducible repeat (first | apply Kd.R_alloc | apply Kd.R_drewN | apply Kd.R_drew)); exact (Kd.R_mono (Kd.R_far (p := ⟨gb278, 5, none⟩) (Kd.R_far (p := ⟨gb278, 4, none⟩) (Kd.R_far (p := ⟨gb278, 3, none⟩) (Kd.R_far (p := ⟨gb278, 2, none⟩) (Kd.R_far (p := ⟨gb278, 1, none⟩) (Kd.R_far (p := ⟨gb278, 0, none⟩) (Kd.R_types HO_4.out BK278.out (by decide)) (fun _ hk => hk.2) (.int .i64 ((rd_T37 l0 x9_1).f0))) (fun _ hk => hk.2) (.int .i64 ((rd_T37 l0 x9_1).f1))) (fun _ hk => hk.2) (.int .i64 ((rd_T37 l0 x9_1).f2))) (fun _ hk => hk.2) (.int .i64 ((rd_T37 l0 x9_1).f3))) (fun _ hk => hk.2) (.int .i64 ((rd_T37 l0 x9_1).f4))) (fun _ hk => hk.2) (.slice A277_5 ((rd_T37 l0 x9_1).f5).length c277_5)) (fun _ h_ => h_.1))) hb); have n1_ := Aside0.mk (blk_below (g := gb278) (o := .cells #[.int .i64 ((rd_T37 l0 x9_1).f0), .int .i64 ((rd_T37 l0 x9_1).f1), .int .i64 ((rd_T37 l0 x9_1).f2), .int .i64 ((rd_T37 l0 x9_1).f3), .int .i64 ((rd_T37 l0 x9_1).f4), .slice A277_5 ((rd_T37 l0 x9_1).f5).length c277_5] 37 (0, 0)) (by (with_reducible repeat (first | refine blk_drewN ?_ _ | refine blk_drew ?_ | refine blk_alloc ?_ _)); refine blk_put (cs := #[.int .i64 ((rd_T37 l0 x9_1).f0), .int .i64 ((rd_T37 l0 x9_1).f1), .int .i64 ((rd_T37 l0 x9_1).f2), .int .i64 ((rd_T37 l0 x9_1).f3), .int .i64 ((rd_T37 l0 x9_1).f4), .slice none 0 0]) ?_ 5 _ rfl; (with_reducible repeat (first | refine blk_drewN ?_ _ | refine blk_drew ?_ | refine blk_alloc ?_ _)); refine blk_put (cs := #[.int .i64 ((rd_T37 l0 x9_1).f0), .int .i64 ((rd_T37 l0 x9_1).f1), .int .i64 ((rd_T37 l0 x9_1).f2), .int .i64 ((rd_T37 l0 x9_1).f3), .int .i64 0, .slice none 0 0]) ?_ 4 _ rfl; (with_reducible repeat (first | refine blk_drewN ?_ _ | refine blk_drew ?_ | refine blk_alloc ?_ _)); refine blk_put (cs := #[.int .i64 ((rd_T37 l0 x9_1).f0), .int .i64 ((rd_T37 l0 x9_1).f1), .int .i64 ((rd_T37 l0 x9_1).f2), .int .i64 0, .int .i64 0, .slice none 0 0]) ?_ 3 _ rfl; (with_reducible repeat (first | refine blk_drewN ?_ _ | refine blk_drew ?_ | refine blk_alloc ?_ _)); refine blk_put (cs := #[.int .i64 ((rd_T37 l0 x9_1).f0), .int .i64 ((rd_T37 l0 x9_1).f1), .int .i64 0, .int .i64 0, .int .i64 0, .slice none 0 0]) ?_ 2 _ rfl; (with_reducible repeat (first | refine blk_drewN ?_ _ | refine blk_drew ?_ | refine blk_alloc ?_ _)); refine blk_put (cs := #[.int .i64 ((rd_T37 l0 x9_1).f0), .int .i64 0, .int .i64 0, .int .i64 0, .int .i64 0, .slice none 0 0]) ?_ 1 _ rfl; (with_reducible repeat (first | refine blk_drewN ?_ _ | refine blk_drew ?_ | refine blk_alloc ?_ _)); refine blk_put (cs := #[.int .i64 0, .int .i64 0, .int .i64 0, .int .i64 0, .int .i64 0, .slice none 0 0]) ?_ 0 _ rfl; (with_reducible repeat (first | refine blk_drewN ?_ _ | refine blk_drew ?_ | refine blk_alloc ?_ _)); exact BK278.out) hb); have n2_ := Aside0.mk (below_step (by repeat (first | (with_reducible first | exact HB.out | apply below_alloc | apply pw_below_drewN | apply below_drew1 | refine below_set ?_ GE278.out) | exact HB.out)) hb); clear HO_4; clear BK278; clear HB; have HO_4 := n0_; have BK278 := n1_; have HB := n2_; clear n0_ n1_ n2_; (try clear hb); (try clear hb2); (try clear hk); (try clear hi); have hcz13_0 : w12.cell? ⟨gb278, 0, none⟩ = some (.int .i64 ((rd_T37 l0 x9_1).f0)) := (blk_cell BK278.out 0).trans rfl; have hcz13_1 : w12.cell? ⟨gb278, 1, none⟩ = some (.int .i64 ((rd_T37 l0 x9_1).f1)) := (blk_cell BK278.out 1).trans rfl; have hcz13_2 : w12.cell? ⟨gb278, 2, none⟩ = some (.int .i64 ((rd_T37 l0 x9_1).f2)) := (blk_cell BK278.out 2).trans rfl; have hcz13_3 : w12.cell? ⟨gb278, 3, none⟩ = some (.int .i64 ((rd_T37 l0 x9_1).f3)) := (blk_cell BK278.out 3).trans rfl; have hcz13_4 : w12.cell? ⟨gb278, 4, none⟩ = some (.int .i64 ((rd_T37 l0 x9_1).f4)) := (blk_cell BK278.out 4).trans rfl; have hcz13_5 : w12.cell? ⟨gb278, 5, none⟩ = some (.slice A277_5 ((rd_T37 l0 x9_1).f5).length c277_5) := (blk_cell BK278.out 5).trans rfl; have hfz13_0 := blk_frozen BK278.out 0; have hfz13_1 := blk_frozen BK278.out 1; have hfz13_2 := blk_frozen BK278.out 2; have hfz13_3 := blk_frozen BK278.out 3; have hfz13_4 := blk_frozen BK278.out 4; have hfz13_5 := blk_frozen BK278.out 5) | ((with_reducible refine gate_callee (f := 27) rfl ?_); refine goesL_ (some 18) rfl rfl Try.func27 (by kernel_rfl) rfl #[.agg #[.int .i64 ((rd_T37 l0 x9_1).f0), .int .i64 ((rd_T37 l0 x9_1).f1), .int .i64 ((rd_T37 l0 x9_1).f2), .int .i64 ((rd_T37 l0 x9_1).f3), .int .i64 ((rd_T37 l0 x9_1).f4), .slice A277_5 ((rd_T37 l0 x9_1).f5).length c277_5]] rfl (by (try simp only [List.map_toArray, List.map_cons, List.map_nil]); first | done | rfl | (simp only [List.length_drop, List.length_take]; rfl)) ?_; (with_reducible refine (impl_RecordBytes.calls k1 ((rd_T37 l0 x9_1).f0) ((rd_T37 l0 x9_1).f1) ((rd_T37 l0 x9_1).f2) ((rd_T37 l0 x9_1).f3) ((rd_T37 l0 x9_1).f4) (fun k_ => k_ < w.heap.size) _ _ ((rd_T37 l0 x9_1).f5) t280 _ ?side1 A7.out).mono ?_); (case side1 => exact Kd.V_mk HC277_5.out (Kd.F_below (Kd.C_F (Kd.heap_int .u8) HR277_5.out) (by repeat (first | (with_reducible first | exact HB.out | apply below_alloc | apply pw_below_drewN | apply below_drew1 | refine below_set ?_ GE278.out) | exact HB.out)))); rintro e w14 ⟨v281, rfl, ho0, hb⟩; refine ⟨_, rfl, ?_⟩; have n0_ := Aside0.mk (Kd.R_elder' (by (with_reducible repeat (first | apply Kd.R_alloc | apply Kd.R_drewN | apply Kd.R_drew)); exact HO_4.out) (Kd.R_base ho0) hb); have n1_ := Aside0.mk (Kd.R_lower (Kd.R_new' (Kd.R_mono (ok' := fun k_ => True) ho0 (fun _ hk_ => trivial)) (Kd.R_lt (by (with_reducible repeat (first | apply Kd.R_alloc | apply Kd.R_drewN | apply Kd.R_drew)); exact HO_4.out))) (below_size (by repeat (first | (with_reducible first | exact HB.out | apply below_alloc | apply pw_below_drewN | apply below_drew1 | refine below_set ?_ GE278.out) | exact HB.out)))); have n2_ := Aside0.mk (blk_below (g := gb278) (o := .cells #[.int .i64 ((rd_T37 l0 x9_1).f0), .int .i64 ((rd_T37 l0 x9_1).f1), .int .i64 ((rd_T37 l0 x9_1).f2), .int .i64 ((rd_T37 l0 x9_1).f3), .int .i64 ((rd_T37 l0 x9_1).f4), .slice A277_5 ((rd_T37 l0 x9_1).f5).length c277_5] 37 (0, 0)) (by (with_reducible repeat (first | refine blk_drewN ?_ _ | refine blk_drew ?_ | refine blk_alloc ?_ _)); exact BK278.out) hb); have n3_ := Aside0.mk (below_step (by repeat (first | (with_reducible first | exact HB.out | apply below_alloc | apply pw_below_drewN | apply below_drew1 | refine below_set ?_ GE278.out) | exact HB.out)) hb); clear HO_4; clear BK278; clear HB; have HO_4 := n0_; have HO282 := n1_; have BK278 := n2_; have HB := n3_; clear n0_ n1_ n2_ n3_; (try clear hb); (try clear hb2); (try clear hk); (try clear hi); (try clear ho0); obtain ⟨Ao16, co16, eo16⟩ := Kd.R_slice HO282.out; subst eo16) | ((with_reducible refine gate_builtin (b := .append) (xs := #[.tmp 16, .tmp 18]) rfl ?_); at_builtin; refine Kd.R_append_rows (Kd.int .u8) (w0 := w) w.heap.size rfl (.tmp 16) (.tmp 18) 22 5 (.int .u8 0) 1 rfl Try.underlying22 info5 rfl (by decide) (by omega) u4 x4_1 t280 _ _ _ (fun k_ => some k_ ≠ (.slice Ao16 t280.length co16 : Value).ownBlock) (fun _ => False) rfl rfl ?aO ?aR (fun _ _ h => h) (fun _ h => h.elim) ?aF ?aB ?aS ?aL ?_; (case aR => repeat (first | exact (Kd.R_reads' HO282.out).2.2 | (with_reducible refine Kd.C_alloc ?_ _) | (with_reducible refine Kd.C_drewN ?_ _) | (with_reducible refine Kd.C_drew ?_))); (case aB => exact (by repeat (first | (with_reducible first | exact HB.out | apply below_alloc | apply pw_below_drewN | apply below_drew1 | refine below_set ?_ GE278.out) | exact HB.out))); (case aF => exact (fun k_ hk => Kd.fresh' (Kd.R_lt (by (with_reducible repeat (first | apply Kd.R_alloc | apply Kd.R_drewN | apply Kd.R_drew)); exact HO282.out)) k_ hk)); (case aO => exact (by (with_reducible repeat (first | apply Kd.R_alloc | apply Kd.R_drewN | apply Kd.R_drew)); exact Kd.R_mono HO_4.out (fun _ hk => hk.2))); (case aS => exact (below_size (by repeat (first | (with_reducible first | exact HB.out | apply below_alloc | apply pw_below_drewN | apply below_drew1 | refine below_set ?_ GE278.out) | exact HB.out)))); (case aL => have := LMc8.out; omega); intro v284 w15 ho hb hg hat; rw [← Ny283.out] at ho; have n0_ := Aside0.mk (blk_grown (g := gb278) (o := .cells #[.int .i64 ((rd_T37 l0 x9_1).f0), .int .i64 ((rd_T37 l0 x9_1).f1), .int .i64 ((rd_T37 l0 x9_1).f2), .int .i64 ((rd_T37 l0 x9_1).f3), .int .i64 ((rd_T37 l0 x9_1).f4), .slice A277_5 ((rd_T37 l0 x9_1).f5).length c277_5] 37 (0, 0)) (by (with_reducible repeat (first | refine blk_drewN ?_ _ | refine blk_drew ?_ | refine blk_alloc ?_ _)); exact BK278.out) hg (Kd.R_ne HO_4.out BK278.out (by decide))); have n1_ := Aside0.mk (Kd.R_after (ok := (fun _ => True)) (by (with_reducible repeat (first | apply Kd.R_alloc | apply Kd.R_drewN | apply Kd.R_drew)); exact HO282.out) hg hat); have n2_ := Aside0.mk (hb); have n3_ := Aside0.mk (ho); clear BK278; clear HO282; clear HB; clear HO_4; have BK278 := n0_; have HO282 := n1_; have HB := n2_; have HO285 := n3_; clear n0_ n1_ n2_ n3_; clear ho hb hg hat; obtain ⟨Ao17, co17, eo17⟩ := Kd.R_slice HO285.out; subst eo17))
                  go_ret2
                  exact ⟨_, by first | rfl | (simp [errW_none, errW_some] <;> rfl) | (simp [*, errW_none, errW_some] <;> rfl), by first | exact Kd.R_nil _ _ _ _ _ | exact Kd.N_nil _ _ _ _ _ | exact Kd.V_nil _ _ _ _ _ | exact Kd.Q_nil _ _ _ _ _ | exact Kd.S_nil _ _ _ _ _, by repeat (first | (with_reducible first | exact HB.out | apply below_alloc | apply pw_below_drewN | apply below_drew1 | refine below_set ?_ GE278.out) | exact HB.out)⟩
                · rw [if_neg c9] at H
                  have c9b0 : decide (65536 < (y283.length : Int)) = false := decide_eq_false c9
                  have c9b1 : decide (65536 < y283.length) = false := decide_eq_false (by omega)
                  clear c9
                  have H' := Aside0.mk H
                  clear H
                  have p277 : 0 ≤ (x9_1 : Int) := of_decide_eq_true (by first | (with_reducible assumption) | assumption)
                  have q277 : x9_1 < (l0.length : Int) := of_decide_eq_true (by first | (with_reducible assumption) | assumption)
                  obtain ⟨ad277, A277_5, c277_5, e277, hx277_0, hx277_1, hx277_2, hx277_3, hx277_4, hx277_5, hl277_5, hi277_5⟩ := at_T37 HR0.out x9_1 p277 q277
                  cases e277
                  replace hx277_0 := (HB.out.cell (World.block_lt_of_cell? w _ hx277_0)).trans hx277_0
                  replace hx277_1 := (HB.out.cell (World.block_lt_of_cell? w _ hx277_1)).trans hx277_1
                  replace hx277_2 := (HB.out.cell (World.block_lt_of_cell? w _ hx277_2)).trans hx277_2
                  replace hx277_3 := (HB.out.cell (World.block_lt_of_cell? w _ hx277_3)).trans hx277_3
                  replace hx277_4 := (HB.out.cell (World.block_lt_of_cell? w _ hx277_4)).trans hx277_4
                  replace hx277_5 := (HB.out.cell (World.block_lt_of_cell? w _ hx277_5)).trans hx277_5
                  have HR277_5 := Aside0.mk hi277_5
                  have HC277_5 := Aside0.mk hl277_5
                  clear hi277_5 hl277_5
                  replace p277 := eq_true p277
                  replace q277 := eq_true q277
                  go_wp2_with (first | ((with_reducible refine gate_dst (N := 6) rfl ?_); refine box_event ?hg (N := 6) ?hd (cs := #[.int .i64 0, .int .i64 0, .int .i64 0, .int .i64 0, .int .i64 0, .slice none 0 0]) (t := 37) ?hr ?_; (case hd => rfl); (case hg => rfl); (case hr => first | (go_simp; done) | (go_simp; rfl)); intro gb278 hg w18 hbox hb; have n0_ := Aside0.mk (Kd.R_below (by (with_reducible repeat (first | apply Kd.R_alloc | apply Kd.R_drewN | apply Kd.R_drew)); exact HO_4.out) hb); have n1_ := Aside0.mk (below_step (by repeat (first | (with_reducible first | exact HB.out | apply below_alloc | apply pw_below_drewN | apply below_drew1) | exact HB.out)) hb); have n2_ := Aside0.mk (hbox); have n3_ := Aside0.mk ((by rw [hg]; exact (below_size (by repeat (first | (with_reducible first | exact HB.out | apply below_alloc | apply pw_below_drewN | apply below_drew1) | exact HB.out))) : w.heap.size ≤ gb278)); have n4_ := Aside0.mk ((by rw [hg]; exact (below_size (by repeat (first | (with_reducible first | exact HB.out | apply below_alloc | apply pw_below_drewN | apply below_drew1) | exact HB.out))) : w.heap.size ≤ gb278)); clear HO_4; clear HB; have HO_4 := n0_; have HB := n1_; have BK278 := n2_; have GW278 := n3_; have GE278 := n4_; clear n0_ n1_ n2_ n3_ n4_; clear hb hbox hg; have hcz19_0 : w18.cell? ⟨gb278, 0, none⟩ = some (.int .i64 0) := (blk_cell BK278.out 0).trans rfl; have hcz19_1 : w18.cell? ⟨gb278, 1, none⟩ = some (.int .i64 0) := (blk_cell BK278.out 1).trans rfl; have hcz19_2 : w18.cell? ⟨gb278, 2, none⟩ = some (.int .i64 0) := (blk_cell BK278.out 2).trans rfl; have hcz19_3 : w18.cell? ⟨gb278, 3, none⟩ = some (.int .i64 0) := (blk_cell BK278.out 3).trans rfl; have hcz19_4 : w18.cell? ⟨gb278, 4, none⟩ = some (.int .i64 0) := (blk_cell BK278.out 4).trans rfl; have hcz19_5 : w18.cell? ⟨gb278, 5, none⟩ = some (.slice none 0 0) := (blk_cell BK278.out 5).trans rfl; have hfz19_0 := blk_frozen BK278.out 0; have hfz19_1 := blk_frozen BK278.out 1; have hfz19_2 := blk_frozen BK278.out 2; have hfz19_3 := blk_frozen BK278.out 3; have hfz19_4 := blk_frozen BK278.out 4; have hfz19_5 := blk_frozen BK278.out 5) | ((with_reducible refine gate_callee (f := 24) rfl ?_); refine goesL_ (some 14) rfl rfl Try.func24 (by kernel_rfl) rfl #[.agg #[.int .i64 ((rd_T37 l0 x9_1).f0), .int .i64 ((rd_T37 l0 x9_1).f1), .int .i64 ((rd_T37 l0 x9_1).f2), .int .i64 ((rd_T37 l0 x9_1).f3), .int .i64 ((rd_T37 l0 x9_1).f4), .slice A277_5 ((rd_T37 l0 x9_1).f5).length c277_5]] rfl (by (try simp only [List.map_toArray, List.map_cons, List.map_nil]); first | done | rfl | (simp only [List.length_drop, List.length_take]; rfl)) ?_; (with_reducible refine (impl_RecordOk.calls k1 ((rd_T37 l0 x9_1).f0) ((rd_T37 l0 x9_1).f1) ((rd_T37 l0 x9_1).f2) ((rd_T37 l0 x9_1).f3) ((rd_T37 l0 x9_1).f4) _ _ ((rd_T37 l0 x9_1).f5) true _ ?side1 ?side2 A5.out).mono ?_); (case side1 => exact Kd.C_below HR277_5.out (by repeat (first | (with_reducible first | exact HB.out | apply below_alloc | apply pw_below_drewN | apply below_drew1 | refine below_set ?_ GE278.out) | exact HB.out))); (case side2 => exact HC277_5.out); rintro e w20 ⟨rfl, hb⟩; refine ⟨_, rfl, ?_⟩; have n0_ := Aside0.mk (Kd.R_below (by (with_reducible repeat (first | apply Kd.R_alloc | apply Kd.R_drewN | apply Kd.R_drew)); exact (Kd.R_mono (Kd.R_far (p := ⟨gb278, 5, none⟩) (Kd.R_far (p := ⟨gb278, 4, none⟩) (Kd.R_far (p := ⟨gb278, 3, none⟩) (Kd.R_far (p := ⟨gb278, 2, none⟩) (Kd.R_far (p := ⟨gb278, 1, none⟩) (Kd.R_far (p := ⟨gb278, 0, none⟩) (Kd.R_types HO_4.out BK278.out (by decide)) (fun _ hk => hk.2) (.int .i64 ((rd_T37 l0 x9_1).f0))) (fun _ hk => hk.2) (.int .i64 ((rd_T37 l0 x9_1).f1))) (fun _ hk => hk.2) (.int .i64 ((rd_T37 l0 x9_1).f2))) (fun _ hk => hk.2) (.int .i64 ((rd_T37 l0 x9_1).f3))) (fun _ hk => hk.2) (.int .i64 ((rd_T37 l0 x9_1).f4))) (fun _ hk => hk.2) (.slice A277_5 ((rd_T37 l0 x9_1).f5).length c277_5)) (fun _ h_ => h_.1))) hb); have n1_ := Aside0.mk (blk_below (g := gb278) (o := .cells #[.int .i64 ((rd_T37 l0 x9_1).f0), .int .i64 ((rd_T37 l0 x9_1).f1), .int .i64 ((rd_T37 l0 x9_1).f2), .int .i64 ((rd_T37 l0 x9_1).f3), .int .i64 ((rd_T37 l0 x9_1).f4), .slice A277_5 ((rd_T37 l0 x9_1).f5).length c277_5] 37 (0, 0)) (by (with_reducible repeat (first | refine blk_drewN ?_ _ | refine blk_drew ?_ | refine blk_alloc ?_ _)); refine blk_put (cs := #[.int .i64 ((rd_T37 l0 x9_1).f0), .int .i64 ((rd_T37 l0 x9_1).f1), .int .i64 ((rd_T37 l0 x9_1).f2), .int .i64 ((rd_T37 l0 x9_1).f3), .int .i64 ((rd_T37 l0 x9_1).f4), .slice none 0 0]) ?_ 5 _ rfl; (with_reducible repeat (first | refine blk_drewN ?_ _ | refine blk_drew ?_ | refine blk_alloc ?_ _)); refine blk_put (cs := #[.int .i64 ((rd_T37 l0 x9_1).f0), .int .i64 ((rd_T37 l0 x9_1).f1), .int .i64 ((rd_T37 l0 x9_1).f2), .int .i64 ((rd_T37 l0 x9_1).f3), .int .i64 0, .slice none 0 0]) ?_ 4 _ rfl; (with_reducible repeat (first | refine blk_drewN ?_ _ | refine blk_drew ?_ | refine blk_alloc ?_ _)); refine blk_put (cs := #[.int .i64 ((rd_T37 l0 x9_1).f0), .int .i64 ((rd_T37 l0 x9_1).f1), .int .i64 ((rd_T37 l0 x9_1).f2), .int .i64 0, .int .i64 0, .slice none 0 0]) ?_ 3 _ rfl; (with_reducible repeat (first | refine blk_drewN ?_ _ | refine blk_drew ?_ | refine blk_alloc ?_ _)); refine blk_put (cs := #[.int .i64 ((rd_T37 l0 x9_1).f0), .int .i64 ((rd_T37 l0 x9_1).f1), .int .i64 0, .int .i64 0, .int .i64 0, .slice none 0 0]) ?_ 2 _ rfl; (with_reducible repeat (first | refine blk_drewN ?_ _ | refine blk_drew ?_ | refine blk_alloc ?_ _)); refine blk_put (cs := #[.int .i64 ((rd_T37 l0 x9_1).f0), .int .i64 0, .int .i64 0, .int .i64 0, .int .i64 0, .slice none 0 0]) ?_ 1 _ rfl; (with_reducible repeat (first | refine blk_drewN ?_ _ | refine blk_drew ?_ | refine blk_alloc ?_ _)); refine blk_put (cs := #[.int .i64 0, .int .i64 0, .int .i64 0, .int .i64 0, .int .i64 0, .slice none 0 0]) ?_ 0 _ rfl; (with_reducible repeat (first | refine blk_drewN ?_ _ | refine blk_drew ?_ | refine blk_alloc ?_ _)); exact BK278.out) hb); have n2_ := Aside0.mk (below_step (by repeat (first | (with_reducible first | exact HB.out | apply below_alloc | apply pw_below_drewN | apply below_drew1 | refine below_set ?_ GE278.out) | exact HB.out)) hb); clear HO_4; clear BK278; clear HB; have HO_4 := n0_; have BK278 := n1_; have HB := n2_; clear n0_ n1_ n2_; (try clear hb); (try clear hb2); (try clear hk); (try clear hi); have hcz21_0 : w20.cell? ⟨gb278, 0, none⟩ = some (.int .i64 ((rd_T37 l0 x9_1).f0)) := (blk_cell BK278.out 0).trans rfl; have hcz21_1 : w20.cell? ⟨gb278, 1, none⟩ = some (.int .i64 ((rd_T37 l0 x9_1).f1)) := (blk_cell BK278.out 1).trans rfl; have hcz21_2 : w20.cell? ⟨gb278, 2, none⟩ = some (.int .i64 ((rd_T37 l0 x9_1).f2)) := (blk_cell BK278.out 2).trans rfl; have hcz21_3 : w20.cell? ⟨gb278, 3, none⟩ = some (.int .i64 ((rd_T37 l0 x9_1).f3)) := (blk_cell BK278.out 3).trans rfl; have hcz21_4 : w20.cell? ⟨gb278, 4, none⟩ = some (.int .i64 ((rd_T37 l0 x9_1).f4)) := (blk_cell BK278.out 4).trans rfl; have hcz21_5 : w20.cell? ⟨gb278, 5, none⟩ = some (.slice A277_5 ((rd_T37 l0 x9_1).f5).length c277_5) := (blk_cell BK278.out 5).trans rfl; have hfz21_0 := blk_frozen BK278.out 0; have hfz21_1 := blk_frozen BK278.out 1; have hfz21_2 := blk_frozen BK278.out 2; have hfz21_3 := blk_frozen BK278.out 3; have hfz21_4 := blk_frozen BK278.out 4; have hfz21_5 := blk_frozen BK278.out 5) | ((with_reducible refine gate_callee (f := 27) rfl ?_); refine goesL_ (some 18) rfl rfl Try.func27 (by kernel_rfl) rfl #[.agg #[.int .i64 ((rd_T37 l0 x9_1).f0), .int .i64 ((rd_T37 l0 x9_1).f1), .int .i64 ((rd_T37 l0 x9_1).f2), .int .i64 ((rd_T37 l0 x9_1).f3), .int .i64 ((rd_T37 l0 x9_1).f4), .slice A277_5 ((rd_T37 l0 x9_1).f5).length c277_5]] rfl (by (try simp only [List.map_toArray, List.map_cons, List.map_nil]); first | done | rfl | (simp only [List.length_drop, List.length_take]; rfl)) ?_; (with_reducible refine (impl_RecordBytes.calls k1 ((rd_T37 l0 x9_1).f0) ((rd_T37 l0 x9_1).f1) ((rd_T37 l0 x9_1).f2) ((rd_T37 l0 x9_1).f3) ((rd_T37 l0 x9_1).f4) (fun k_ => k_ < w.heap.size) _ _ ((rd_T37 l0 x9_1).f5) t280 _ ?side1 A7.out).mono ?_); (case side1 => exact Kd.V_mk HC277_5.out (Kd.F_below (Kd.C_F (Kd.heap_int .u8) HR277_5.out) (by repeat (first | (with_reducible first | exact HB.out | apply below_alloc | apply pw_below_drewN | apply below_drew1 | refine below_set ?_ GE278.out) | exact HB.out)))); rintro e w22 ⟨v281, rfl, ho0, hb⟩; refine ⟨_, rfl, ?_⟩; have n0_ := Aside0.mk (Kd.R_elder' (by (with_reducible repeat (first | apply Kd.R_alloc | apply Kd.R_drewN | apply Kd.R_drew)); exact HO_4.out) (Kd.R_base ho0) hb); have n1_ := Aside0.mk (Kd.R_lower (Kd.R_new' (Kd.R_mono (ok' := fun k_ => True) ho0 (fun _ hk_ => trivial)) (Kd.R_lt (by (with_reducible repeat (first | apply Kd.R_alloc | apply Kd.R_drewN | apply Kd.R_drew)); exact HO_4.out))) (below_size (by repeat (first | (with_reducible first | exact HB.out | apply below_alloc | apply pw_below_drewN | apply below_drew1 | refine below_set ?_ GE278.out) | exact HB.out)))); have n2_ := Aside0.mk (blk_below (g := gb278) (o := .cells #[.int .i64 ((rd_T37 l0 x9_1).f0), .int .i64 ((rd_T37 l0 x9_1).f1), .int .i64 ((rd_T37 l0 x9_1).f2), .int .i64 ((rd_T37 l0 x9_1).f3), .int .i64 ((rd_T37 l0 x9_1).f4), .slice A277_5 ((rd_T37 l0 x9_1).f5).length c277_5] 37 (0, 0)) (by (with_reducible repeat (first | refine blk_drewN ?_ _ | refine blk_drew ?_ | refine blk_alloc ?_ _)); exact BK278.out) hb); have n3_ := Aside0.mk (below_step (by repeat (first | (with_reducible first | exact HB.out | apply below_alloc | apply pw_below_drewN | apply below_drew1 | refine below_set ?_ GE278.out) | exact HB.out)) hb); clear HO_4; clear BK278; clear HB; have HO_4 := n0_; have HO282 := n1_; have BK278 := n2_; have HB := n3_; clear n0_ n1_ n2_ n3_; (try clear hb); (try clear hb2); (try clear hk); (try clear hi); (try clear ho0); obtain ⟨Ao24, co24, eo24⟩ := Kd.R_slice HO282.out; subst eo24) | ((with_reducible refine gate_builtin (b := .append) (xs := #[.tmp 16, .tmp 18]) rfl ?_); at_builtin; refine Kd.R_append_rows (Kd.int .u8) (w0 := w) w.heap.size rfl (.tmp 16) (.tmp 18) 22 5 (.int .u8 0) 1 rfl Try.underlying22 info5 rfl (by decide) (by omega) u4 x4_1 t280 _ _ _ (fun k_ => some k_ ≠ (.slice Ao24 t280.length co24 : Value).ownBlock) (fun _ => False) rfl rfl ?aO ?aR (fun _ _ h => h) (fun _ h => h.elim) ?aF ?aB ?aS ?aL ?_; (case aR => repeat (first | exact (Kd.R_reads' HO282.out).2.2 | (with_reducible refine Kd.C_alloc ?_ _) | (with_reducible refine Kd.C_drewN ?_ _) | (with_reducible refine Kd.C_drew ?_))); (case aB => exact (by repeat (first | (with_reducible first | exact HB.out | apply below_alloc | apply pw_below_drewN | apply below_drew1 | refine below_set ?_ GE278.out) | exact HB.out))); (case aF => exact (fun k_ hk => Kd.fresh' (Kd.R_lt (by (with_reducible repeat (first | apply Kd.R_alloc | apply Kd.R_drewN | apply Kd.R_drew)); exact HO282.out)) k_ hk)); (case aO => exact (by (with_reducible repeat (first | apply Kd.R_alloc | apply Kd.R_drewN | apply Kd.R_drew)); exact Kd.R_mono HO_4.out (fun _ hk => hk.2))); (case aS => exact (below_size (by repeat (first | (with_reducible first | exact HB.out | apply below_alloc | apply pw_below_drewN | apply below_drew1 | refine below_set ?_ GE278.out) | exact HB.out)))); (case aL => have := LMc8.out; omega); intro v284 w23 ho hb hg hat; rw [← Ny283.out] at ho; have n0_ := Aside0.mk (blk_grown (g := gb278) (o := .cells #[.int .i64 ((rd_T37 l0 x9_1).f0), .int .i64 ((rd_T37 l0 x9_1).f1), .int .i64 ((rd_T37 l0 x9_1).f2), .int .i64 ((rd_T37 l0 x9_1).f3), .int .i64 ((rd_T37 l0 x9_1).f4), .slice A277_5 ((rd_T37 l0 x9_1).f5).length c277_5] 37 (0, 0)) (by (with_reducible repeat (first | refine blk_drewN ?_ _ | refine blk_drew ?_ | refine blk_alloc ?_ _)); exact BK278.out) hg (Kd.R_ne HO_4.out BK278.out (by decide))); have n1_ := Aside0.mk (Kd.R_after (ok := (fun _ => True)) (by (with_reducible repeat (first | apply Kd.R_alloc | apply Kd.R_drewN | apply Kd.R_drew)); exact HO282.out) hg hat); have n2_ := Aside0.mk (hb); have n3_ := Aside0.mk (ho); clear BK278; clear HO282; clear HB; clear HO_4; have BK278 := n0_; have HO282 := n1_; have HB := n2_; have HO285 := n3_; clear n0_ n1_ n2_ n3_; clear ho hb hg hat; obtain ⟨Ao25, co25, eo25⟩ := Kd.R_slice HO285.out; subst eo25))
                  go_roundg k1
                  case measure => have := HK1.out; omega
                  case rel => exact ⟨(y283), (wrap64 (x9_1 + 1)), (by first | rfl | (simp; done) | (simp [*]; done)), H', ⟨by have := HK1.out; omega⟩, ⟨by (with_reducible repeat (first | apply Kd.R_alloc | apply Kd.R_drewN | apply Kd.R_drew)); exact Kd.R_mono HO285.out (fun _ hk => trivial)⟩, ⟨by repeat (first | (with_reducible first | exact HB.out | apply below_alloc | apply pw_below_drewN | apply below_drew1 | refine below_set ?_ GE278.out) | exact HB.out)⟩⟩
              · rw [if_neg c8] at H
                exact absurd H (by simp)
            · replace c6 := Bool.eq_false_iff.mpr c6
              subst c6
              have H1 : (some (([] : List Int), false)) = some (r1, r2) := by rw [if_neg (show ¬ (false = true) by decide)] at H; exact H
              clear H
              have H := H1
              clear H1
              simp only [Option.some.injEq, Prod.mk.injEq] at H
              obtain ⟨rfl, rfl⟩ := H
              have p277 : 0 ≤ (x9_1 : Int) := of_decide_eq_true (by first | (with_reducible assumption) | assumption)
              have q277 : x9_1 < (l0.length : Int) := of_decide_eq_true (by first | (with_reducible assumption) | assumption)
              obtain ⟨ad277, A277_5, c277_5, e277, hx277_0, hx277_1, hx277_2, hx277_3, hx277_4, hx277_5, hl277_5, hi277_5⟩ := at_T37 HR0.out x9_1 p277 q277
              cases e277
              replace hx277_0 := (HB.out.cell (World.block_lt_of_cell? w _ hx277_0)).trans hx277_0
              replace hx277_1 := (HB.out.cell (World.block_lt_of_cell? w _ hx277_1)).trans hx277_1
              replace hx277_2 := (HB.out.cell (World.block_lt_of_cell? w _ hx277_2)).trans hx277_2
              replace hx277_3 := (HB.out.cell (World.block_lt_of_cell? w _ hx277_3)).trans hx277_3
              replace hx277_4 := (HB.out.cell (World.block_lt_of_cell? w _ hx277_4)).trans hx277_4
              replace hx277_5 := (HB.out.cell (World.block_lt_of_cell? w _ hx277_5)).trans hx277_5
              have HR277_5 := Aside0.mk hi277_5
              have HC277_5 := Aside0.mk hl277_5
              clear hi277_5 hl277_5
              replace p277 := eq_true p277
              replace q277 := eq_true q277
              go_wp2_with (first | ((with_reducible refine gate_dst (N := 6) rfl ?_); refine box_event ?hg (N := 6) ?hd (cs := #[.int .i64 0, .int .i64 0, .int .i64 0, .int .i64 0, .int .i64 0, .slice none 0 0]) (t := 37) ?hr ?_; (case hd => rfl); (case hg => rfl); (case hr => first | (go_simp; done) | (go_simp; rfl)); intro gb278 hg w26 hbox hb; have n0_ := Aside0.mk (Kd.R_below (by (with_reducible repeat (first | apply Kd.R_alloc | apply Kd.R_drewN | apply Kd.R_drew)); exact HO_4.out) hb); have n1_ := Aside0.mk (below_step (by repeat (first | (with_reducible first | exact HB.out | apply below_alloc | apply pw_below_drewN | apply below_drew1) | exact HB.out)) hb); have n2_ := Aside0.mk (hbox); have n3_ := Aside0.mk ((by rw [hg]; exact (below_size (by repeat (first | (with_reducible first | exact HB.out | apply below_alloc | apply pw_below_drewN | apply below_drew1) | exact HB.out))) : w.heap.size ≤ gb278)); have n4_ := Aside0.mk ((by rw [hg]; exact (below_size (by repeat (first | (with_reducible first | exact HB.out | apply below_alloc | apply pw_below_drewN | apply below_drew1) | exact HB.out))) : w.heap.size ≤ gb278)); clear HO_4; clear HB; have HO_4 := n0_; have HB := n1_; have BK278 := n2_; have GW278 := n3_; have GE278 := n4_; clear n0_ n1_ n2_ n3_ n4_; clear hb hbox hg; have hcz27_0 : w26.cell? ⟨gb278, 0, none⟩ = some (.int .i64 0) := (blk_cell BK278.out 0).trans rfl; have hcz27_1 : w26.cell? ⟨gb278, 1, none⟩ = some (.int .i64 0) := (blk_cell BK278.out 1).trans rfl; have hcz27_2 : w26.cell? ⟨gb278, 2, none⟩ = some (.int .i64 0) := (blk_cell BK278.out 2).trans rfl; have hcz27_3 : w26.cell? ⟨gb278, 3, none⟩ = some (.int .i64 0) := (blk_cell BK278.out 3).trans rfl; have hcz27_4 : w26.cell? ⟨gb278, 4, none⟩ = some (.int .i64 0) := (blk_cell BK278.out 4).trans rfl; have hcz27_5 : w26.cell? ⟨gb278, 5, none⟩ = some (.slice none 0 0) := (blk_cell BK278.out 5).trans rfl; have hfz27_0 := blk_frozen BK278.out 0; have hfz27_1 := blk_frozen BK278.out 1; have hfz27_2 := blk_frozen BK278.out 2; have hfz27_3 := blk_frozen BK278.out 3; have hfz27_4 := blk_frozen BK278.out 4; have hfz27_5 := blk_frozen BK278.out 5) | ((with_reducible refine gate_callee (f := 24) rfl ?_); refine goesL_ (some 14) rfl rfl Try.func24 (by kernel_rfl) rfl #[.agg #[.int .i64 ((rd_T37 l0 x9_1).f0), .int .i64 ((rd_T37 l0 x9_1).f1), .int .i64 ((rd_T37 l0 x9_1).f2), .int .i64 ((rd_T37 l0 x9_1).f3), .int .i64 ((rd_T37 l0 x9_1).f4), .slice A277_5 ((rd_T37 l0 x9_1).f5).length c277_5]] rfl (by (try simp only [List.map_toArray, List.map_cons, List.map_nil]); first | done | rfl | (simp only [List.length_drop, List.length_take]; rfl)) ?_; (with_reducible refine (impl_RecordOk.calls k1 ((rd_T37 l0 x9_1).f0) ((rd_T37 l0 x9_1).f1) ((rd_T37 l0 x9_1).f2) ((rd_T37 l0 x9_1).f3) ((rd_T37 l0 x9_1).f4) _ _ ((rd_T37 l0 x9_1).f5) false _ ?side1 ?side2 A5.out).mono ?_); (case side1 => exact Kd.C_below HR277_5.out (by repeat (first | (with_reducible first | exact HB.out | apply below_alloc | apply pw_below_drewN | apply below_drew1 | refine below_set ?_ GE278.out) | exact HB.out))); (case side2 => exact HC277_5.out); rintro e w28 ⟨rfl, hb⟩; refine ⟨_, rfl, ?_⟩; have n0_ := Aside0.mk (Kd.R_below (by (with_reducible repeat (first | apply Kd.R_alloc | apply Kd.R_drewN | apply Kd.R_drew)); exact (Kd.R_mono (Kd.R_far (p := ⟨gb278, 5, none⟩) (Kd.R_far (p := ⟨gb278, 4, none⟩) (Kd.R_far (p := ⟨gb278, 3, none⟩) (Kd.R_far (p := ⟨gb278, 2, none⟩) (Kd.R_far (p := ⟨gb278, 1, none⟩) (Kd.R_far (p := ⟨gb278, 0, none⟩) (Kd.R_types HO_4.out BK278.out (by decide)) (fun _ hk => hk.2) (.int .i64 ((rd_T37 l0 x9_1).f0))) (fun _ hk => hk.2) (.int .i64 ((rd_T37 l0 x9_1).f1))) (fun _ hk => hk.2) (.int .i64 ((rd_T37 l0 x9_1).f2))) (fun _ hk => hk.2) (.int .i64 ((rd_T37 l0 x9_1).f3))) (fun _ hk => hk.2) (.int .i64 ((rd_T37 l0 x9_1).f4))) (fun _ hk => hk.2) (.slice A277_5 ((rd_T37 l0 x9_1).f5).length c277_5)) (fun _ h_ => h_.1))) hb); have n1_ := Aside0.mk (blk_below (g := gb278) (o := .cells #[.int .i64 ((rd_T37 l0 x9_1).f0), .int .i64 ((rd_T37 l0 x9_1).f1), .int .i64 ((rd_T37 l0 x9_1).f2), .int .i64 ((rd_T37 l0 x9_1).f3), .int .i64 ((rd_T37 l0 x9_1).f4), .slice A277_5 ((rd_T37 l0 x9_1).f5).length c277_5] 37 (0, 0)) (by (with_reducible repeat (first | refine blk_drewN ?_ _ | refine blk_drew ?_ | refine blk_alloc ?_ _)); refine blk_put (cs := #[.int .i64 ((rd_T37 l0 x9_1).f0), .int .i64 ((rd_T37 l0 x9_1).f1), .int .i64 ((rd_T37 l0 x9_1).f2), .int .i64 ((rd_T37 l0 x9_1).f3), .int .i64 ((rd_T37 l0 x9_1).f4), .slice none 0 0]) ?_ 5 _ rfl; (with_reducible repeat (first | refine blk_drewN ?_ _ | refine blk_drew ?_ | refine blk_alloc ?_ _)); refine blk_put (cs := #[.int .i64 ((rd_T37 l0 x9_1).f0), .int .i64 ((rd_T37 l0 x9_1).f1), .int .i64 ((rd_T37 l0 x9_1).f2), .int .i64 ((rd_T37 l0 x9_1).f3), .int .i64 0, .slice none 0 0]) ?_ 4 _ rfl; (with_reducible repeat (first | refine blk_drewN ?_ _ | refine blk_drew ?_ | refine blk_alloc ?_ _)); refine blk_put (cs := #[.int .i64 ((rd_T37 l0 x9_1).f0), .int .i64 ((rd_T37 l0 x9_1).f1), .int .i64 ((rd_T37 l0 x9_1).f2), .int .i64 0, .int .i64 0, .slice none 0 0]) ?_ 3 _ rfl; (with_reducible repeat (first | refine blk_drewN ?_ _ | refine blk_drew ?_ | refine blk_alloc ?_ _)); refine blk_put (cs := #[.int .i64 ((rd_T37 l0 x9_1).f0), .int .i64 ((rd_T37 l0 x9_1).f1), .int .i64 0, .int .i64 0, .int .i64 0, .slice none 0 0]) ?_ 2 _ rfl; (with_reducible repeat (first | refine blk_drewN ?_ _ | refine blk_drew ?_ | refine blk_alloc ?_ _)); refine blk_put (cs := #[.int .i64 ((rd_T37 l0 x9_1).f0), .int .i64 0, .int .i64 0, .int .i64 0, .int .i64 0, .slice none 0 0]) ?_ 1 _ rfl; (with_reducible repeat (first | refine blk_drewN ?_ _ | refine blk_drew ?_ | refine blk_alloc ?_ _)); refine blk_put (cs := #[.int .i64 0, .int .i64 0, .int .i64 0, .int .i64 0, .int .i64 0, .slice none 0 0]) ?_ 0 _ rfl; (with_reducible repeat (first | refine blk_drewN ?_ _ | refine blk_drew ?_ | refine blk_alloc ?_ _)); exact BK278.out) hb); have n2_ := Aside0.mk (below_step (by repeat (first | (with_reducible first | exact HB.out | apply below_alloc | apply pw_below_drewN | apply below_drew1 | refine below_set ?_ GE278.out) | exact HB.out)) hb); clear HO_4; clear BK278; clear HB; have HO_4 := n0_; have BK278 := n1_; have HB := n2_; clear n0_ n1_ n2_; (try clear hb); (try clear hb2); (try clear hk); (try clear hi)))
              go_ret2
              exact ⟨_, by first | rfl | (simp [errW_none, errW_some] <;> rfl) | (simp [*, errW_none, errW_some] <;> rfl), by first | exact Kd.R_nil _ _ _ _ _ | exact Kd.N_nil _ _ _ _ _ | exact Kd.V_nil _ _ _ _ _ | exact Kd.Q_nil _ _ _ _ _ | exact Kd.S_nil _ _ _ _ _, by repeat (first | (with_reducible first | exact HB.out | apply below_alloc | apply pw_below_drewN | apply below_drew1 | refine below_set ?_ GE278.out) | exact HB.out)⟩
          · rw [if_neg c4] at H
            exact absurd H (by simp)
        · rw [if_neg c3] at H
          exact absurd H (by simp)
      · rw [if_neg c2] at H
        have c2b0 : decide (x9_1 < (l0.length : Int)) = false := decide_eq_false c2
        clear c2
        simp only [Option.some.injEq, Prod.mk.injEq] at H
        obtain ⟨rfl, rfl⟩ := H
        go_wp2
        go_ret2
        exact ⟨_, by first | rfl | (simp [errW_none, errW_some] <;> rfl) | (simp [*, errW_none, errW_some] <;> rfl), by (with_reducible repeat (first | apply Kd.R_alloc | apply Kd.R_drewN | apply Kd.R_drew)); exact HO_4.out, by repeat (first | (with_reducible first | exact HB.out | apply below_alloc | apply pw_below_drewN | apply below_drew1) | exact HB.out)⟩

/-! ### laws_FnExactLogBytes: function 10 -/
def laws_FnExactLogBytes.H (l0 : List (S34)) : Prop := ∃ (k2 : Nat) (t4 : Int), laws_szRecordS.f k2 l0 1048576 = some t4 ∧ (t4 < 0 ∨ (¬ t4 < 0) ∧ ∃ (k7 : Nat) (t9 : List (S37)), laws_toRecordS.f k7 l0 = some t9 ∧ ∃ (k20 : Nat) (t22 : List Int) (t23 : Bool), spec_LogBytes.f k20 t9 = some (t22, t23) ∧ ∃ (k34 : Nat) (t36 : List (S37)), laws_toRecordS.f k34 l0 = some t36 ∧ ∃ (k47 : Nat), impl_LogBytes.f k47 t36 = some (t22, t23) ∧ ∃ (k59 : Nat), laws_eqByteS.f k59 t22 t22 = some true ∧ ∃ (k62 : Nat) (t64 : List (S37)), laws_toRecordS.f k62 l0 = some t64 ∧ ∃ (k75 : Nat), laws_eqRecordS.f k75 t36 t64 = some true ∧ ∃ (k78 : Nat) (t80 : Int) (t81 : List (S37)), laws_markRecordS.f k78 t36 1 = some (t80, t81) ∧ 0 ≤ t80 ∧ ∃ (k86 : Nat), laws_eqByteS.f k86 t22 t22 = some true ∧ ∃ (k89 : Nat) (t91 : Int) (t92 : List Int), laws_markByteS.f k89 t22 1 = some (t91, t92) ∧ 0 ≤ t91 ∧ ∃ (k97 : Nat), laws_heldByteS.f k97 t92 1 = some t91 ∧ ∃ (k100 : Nat) (t102 : List (S37)), laws_toRecordS.f k100 l0 = some t102 ∧ ∃ (k113 : Nat), impl_LogBytes.f k113 t102 = some (t22, t23) ∧ ∃ (k125 : Nat), laws_eqByteS.f k125 t22 t22 = some true ∧ ∃ (k128 : Nat), laws_heldByteS.f k128 t92 1 = some t91 ∧ True)
set_option maxHeartbeats 16000000 in
set_option maxRecDepth 100000 in
theorem laws_FnExactLogBytes.calls (A0 : Option Addr) (c0 : Nat) (l0 : List (S34)) (w : World) (hr0 : Kd.C k34 w A0 l0.length l0) (hc0 : l0.length ≤ c0) (h : laws_FnExactLogBytes.H l0) :
    Calls Try.prog 10 #[.slice A0 l0.length c0] w fun e w' => e = .returned (.bool true) ∧ Below w.heap.size w w' := by
  have HR0 := Aside0.mk hr0
  have HC0 := Aside0.mk hc0
  clear hr0 hc0
  have HB := Aside0.mk (Below.refl w.heap.size w)
  have TOP := Aside0.mk (Nat.le_refl w.heap.size)
  have OW := Aside0.mk (Nat.le_refl w.heap.size)
  have H : ∃ (k2 : Nat) (t4 : Int), laws_szRecordS.f k2 l0 1048576 = some t4 ∧ (t4 < 0 ∨ (¬ t4 < 0) ∧ ∃ (k7 : Nat) (t9 : List (S37)), laws_toRecordS.f k7 l0 = some t9 ∧ ∃ (k20 : Nat) (t22 : List Int) (t23 : Bool), spec_LogBytes.f k20 t9 = some (t22, t23) ∧ ∃ (k34 : Nat) (t36 : List (S37)), laws_toRecordS.f k34 l0 = some t36 ∧ ∃ (k47 : Nat), impl_LogBytes.f k47 t36 = some (t22, t23) ∧ ∃ (k59 : Nat), laws_eqByteS.f k59 t22 t22 = some true ∧ ∃ (k62 : Nat) (t64 : List (S37)), laws_toRecordS.f k62 l0 = some t64 ∧ ∃ (k75 : Nat), laws_eqRecordS.f k75 t36 t64 = some true ∧ ∃ (k78 : Nat) (t80 : Int) (t81 : List (S37)), laws_markRecordS.f k78 t36 1 = some (t80, t81) ∧ 0 ≤ t80 ∧ ∃ (k86 : Nat), laws_eqByteS.f k86 t22 t22 = some true ∧ ∃ (k89 : Nat) (t91 : Int) (t92 : List Int), laws_markByteS.f k89 t22 1 = some (t91, t92) ∧ 0 ≤ t91 ∧ ∃ (k97 : Nat), laws_heldByteS.f k97 t92 1 = some t91 ∧ ∃ (k100 : Nat) (t102 : List (S37)), laws_toRecordS.f k100 l0 = some t102 ∧ ∃ (k113 : Nat), impl_LogBytes.f k113 t102 = some (t22, t23) ∧ ∃ (k125 : Nat), laws_eqByteS.f k125 t22 t22 = some true ∧ ∃ (k128 : Nat), laws_heldByteS.f k128 t92 1 = some t91 ∧ True) := h
  clear h
  obtain ⟨k2, t4, A3_, H⟩ := H
  have A3 := Aside0.mk A3_
  clear A3_
  rcases H with H | ⟨c5, H⟩
  · have c5 : t4 < 0 := H
    have c5b0 : decide (t4 < 0) = true := decide_eq_true (by omega)
    clear c5
    go_enter Try.func10, Try.ntmps10
    try go_wp2_with (first | ((with_reducible refine gate_callee (f := 37) rfl ?_); refine goesL_ (some 16) rfl rfl Try.func37 (by kernel_rfl) rfl #[.slice A0 l0.length c0, .int .i64 1048576] rfl (by (try simp only [List.map_toArray, List.map_cons, List.map_nil]); first | done | rfl | (simp only [List.length_drop, List.length_take]; rfl)) ?_; (with_reducible refine (laws_szRecordS.calls k2 _ _ l0 1048576 t4 _ ?s1 ?s2 A3.out).mono ?_); (case s1 => exact Kd.C_below HR0.out (by repeat (first | exact HB.out | apply pw_below_drewN | apply below_drew1))); (case s2 => exact HC0.out); rintro e w1 ⟨rfl, hb⟩; refine ⟨_, rfl, ?_⟩; have n0_ := Aside0.mk (show Below w.heap.size w w1 from below_step (by repeat (first | exact HB.out | apply pw_below_drewN | apply below_drew1)) hb); have n1_ := Aside0.mk (show w.heap.size ≤ w1.heap.size from Nat.le_trans TOP.out hb.size); (try clear HB); (try clear TOP); have HB := n0_; have TOP := n1_; clear n0_ n1_; clear hb))
    go_ret
    exact ⟨rfl, HB.out⟩
  have c5b0 : decide (t4 < 0) = false := decide_eq_false (by omega)
  clear c5
  obtain ⟨k7, t9, A8_, H⟩ := H
  have A8 := Aside0.mk A8_
  clear A8_
  obtain ⟨k20, t22, t23, A21_, H⟩ := H
  have A21 := Aside0.mk A21_
  clear A21_
  obtain ⟨k34, t36, A35_, H⟩ := H
  have A35 := Aside0.mk A35_
  clear A35_
  obtain ⟨k47, A48_, H⟩ := H
  have A48 := Aside0.mk A48_
  clear A48_
  obtain ⟨k59, A60_, H⟩ := H
  have A60 := Aside0.mk A60_
  clear A60_
  obtain ⟨k62, t64, A63_, H⟩ := H
  have A63 := Aside0.mk A63_
  clear A63_
  obtain ⟨k75, A76_, H⟩ := H
  have A76 := Aside0.mk A76_
  clear A76_
  obtain ⟨k78, t80, t81, A79_, H⟩ := H
  have A79 := Aside0.mk A79_
  clear A79_
  obtain ⟨c84, H⟩ := H
  have c84b0 : decide (t80 < 0) = false := decide_eq_false (by omega)
  clear c84
  obtain ⟨k86, A87_, H⟩ := H
  have A87 := Aside0.mk A87_
  clear A87_
  obtain ⟨k89, t91, t92, A90_, H⟩ := H
  have A90 := Aside0.mk A90_
  clear A90_
  obtain ⟨c95, H⟩ := H
  have c95b0 : decide (t91 < 0) = false := decide_eq_false (by omega)
  clear c95
  obtain ⟨k97, A98_, H⟩ := H
  have A98 := Aside0.mk A98_
  clear A98_
  obtain ⟨k100, t102, A101_, H⟩ := H
  have A101 := Aside0.mk A101_
  clear A101_
  obtain ⟨k113, A114_, H⟩ := H
  have A114 := Aside0.mk A114_
  clear A114_
  obtain ⟨k125, A126_, H⟩ := H
  have A126 := Aside0.mk A126_
  clear A126_
  obtain ⟨k128, A129_, H⟩ := H
  have A129 := Aside0.mk A129_
  clear A129_
  clear H
  go_enter Try.func10, Try.ntmps10
  try go_wp2_with (first | ((with_reducible refine gate_callee (f := 37) rfl ?_); refine goesL_ (some 16) rfl rfl Try.func37 (by kernel_rfl) rfl #[.slice A0 l0.length c0, .int .i64 1048576] rfl (by (try simp only [List.map_toArray, List.map_cons, List.map_nil]); first | done | rfl | (simp only [List.length_drop, List.length_take]; rfl)) ?_; (with_reducible refine (laws_szRecordS.calls k2 _ _ l0 1048576 t4 _ ?s1 ?s2 A3.out).mono ?_); (case s1 => exact Kd.C_below HR0.out (by repeat (first | exact HB.out | apply pw_below_drewN | apply below_drew1))); (case s2 => exact HC0.out); rintro e w1 ⟨rfl, hb⟩; refine ⟨_, rfl, ?_⟩; have n0_ := Aside0.mk (show Below w.heap.size w w1 from below_step (by repeat (first | exact HB.out | apply pw_below_drewN | apply below_drew1)) hb); have n1_ := Aside0.mk (show w.heap.size ≤ w1.heap.size from Nat.le_trans TOP.out hb.size); (try clear HB); (try clear TOP); have HB := n0_; have TOP := n1_; clear n0_ n1_; clear hb) | ((with_reducible refine gate_callee (f := 39) rfl ?_); refine goesL_ (some 21) rfl rfl Try.func39 (by kernel_rfl) rfl #[.slice A0 l0.length c0] rfl (by (try simp only [List.map_toArray, List.map_cons, List.map_nil]); first | done | rfl | (simp only [List.length_drop, List.length_take]; rfl)) ?_; (with_reducible refine (laws_toRecordS.calls k7 _ _ l0 t9 _ ?s1 ?s2 A8.out).mono ?_); (case s1 => exact Kd.C_below HR0.out (by repeat (first | exact HB.out | apply pw_below_drewN | apply below_drew1))); (case s2 => exact HC0.out); rintro e w6 ⟨v0_, rfl, ho10, hb⟩; refine ⟨_, rfl, ?_⟩; obtain ⟨lo11, hi12, OD13_, OD14_, tp_, F15_⟩ := Kd.S_born (base := w.heap.size) ho10 (below_size (by repeat (first | exact HB.out | apply pw_below_drewN | apply below_drew1))) TOP.out hb.size; clear ho10; have OD13 := Aside0.mk OD13_; have OD14 := Aside0.mk OD14_; clear OD13_ OD14_; have F15 := Aside0.mk F15_; clear F15_; have n0_ := Aside0.mk (show Below w.heap.size w w6 from below_step (by repeat (first | exact HB.out | apply pw_below_drewN | apply below_drew1)) hb); have n1_ := Aside0.mk (show hi12 ≤ w6.heap.size from tp_); (try clear HB); (try clear TOP); have HB := n0_; have TOP := n1_; clear n0_ n1_; clear hb tp_; obtain ⟨Ao16, co17, eo18⟩ := Kd.S_slice F15.out; subst eo18) | ((with_reducible refine gate_callee (f := 38) rfl ?_); refine goesL_ (some 22) rfl rfl Try.func38 (by kernel_rfl) rfl #[.slice Ao16 t9.length co17] rfl (by (try simp only [List.map_toArray, List.map_cons, List.map_nil]); first | done | rfl | (simp only [List.length_drop, List.length_take]; rfl)) ?_; (with_reducible refine (spec_LogBytes.calls k20 _ _ t9 t22 t23 _ ?s1 ?s2 A21.out).mono ?_); (case s1 => exact (Kd.S_reads' (by (with_reducible repeat (first | exact F15.out | apply Kd.S_drewN | apply Kd.S_drew)))).2.2); (case s2 => exact (Kd.S_reads' (by (with_reducible repeat (first | exact F15.out | apply Kd.S_drewN | apply Kd.S_drew)))).2.1); rintro e w19 ⟨v0_, rfl, ho24, hb⟩; refine ⟨_, rfl, ?_⟩; obtain ⟨lo25, hi26, OD27_, OD28_, tp_, F29_⟩ := Kd.R_born (base := w.heap.size) ho24 (below_size (by repeat (first | exact HB.out | apply pw_below_drewN | apply below_drew1))) TOP.out hb.size; clear ho24; have OD27 := Aside0.mk OD27_; have OD28 := Aside0.mk OD28_; clear OD27_ OD28_; have F29 := Aside0.mk F29_; clear F29_; have n0_ := Aside0.mk (show Kd.S k37 37 w19 w.heap.size (iv lo11 hi12) (.slice Ao16 t9.length co17) t9 from Kd.S_below (by (with_reducible repeat (first | exact F15.out | apply Kd.S_drewN | apply Kd.S_drew))) hb); have n1_ := Aside0.mk (show Below w.heap.size w w19 from below_step (by repeat (first | exact HB.out | apply pw_below_drewN | apply below_drew1)) hb); have n2_ := Aside0.mk (show hi26 ≤ w19.heap.size from tp_); (try clear F15); (try clear HB); (try clear TOP); have F15 := n0_; have HB := n1_; have TOP := n2_; clear n0_ n1_ n2_; clear hb tp_; obtain ⟨Ao30, co31, eo32⟩ := Kd.R_slice F29.out; subst eo32) | ((with_reducible refine gate_callee (f := 39) rfl ?_); refine goesL_ (some 26) rfl rfl Try.func39 (by kernel_rfl) rfl #[.slice A0 l0.length c0] rfl (by (try simp only [List.map_toArray, List.map_cons, List.map_nil]); first | done | rfl | (simp only [List.length_drop, List.length_take]; rfl)) ?_; (with_reducible refine (laws_toRecordS.calls k34 _ _ l0 t36 _ ?s1 ?s2 A35.out).mono ?_); (case s1 => exact Kd.C_below HR0.out (by repeat (first | exact HB.out | apply pw_below_drewN | apply below_drew1))); (case s2 => exact HC0.out); rintro e w33 ⟨v0_, rfl, ho37, hb⟩; refine ⟨_, rfl, ?_⟩; obtain ⟨lo38, hi39, OD40_, OD41_, tp_, F42_⟩ := Kd.S_born (base := w.heap.size) ho37 (below_size (by repeat (first | exact HB.out | apply pw_below_drewN | apply below_drew1))) TOP.out hb.size; clear ho37; have OD40 := Aside0.mk OD40_; have OD41 := Aside0.mk OD41_; clear OD40_ OD41_; have F42 := Aside0.mk F42_; clear F42_; have n0_ := Aside0.mk (show Kd.S k37 37 w33 w.heap.size (iv lo11 hi12) (.slice Ao16 t9.length co17) t9 from Kd.S_below (by (with_reducible repeat (first | exact F15.out | apply Kd.S_drewN | apply Kd.S_drew))) hb); have n1_ := Aside0.mk (show Kd.R (Kd.int .u8) 5 w33 w.heap.size (iv lo25 hi26) (.slice Ao30 t22.length co31) t22 from Kd.R_below (by (with_reducible repeat (first | exact F29.out | apply Kd.R_drewN | apply Kd.R_drew))) hb); have n2_ := Aside0.mk (show Below w.heap.size w w33 from below_step (by repeat (first | exact HB.out | apply pw_below_drewN | apply below_drew1)) hb); have n3_ := Aside0.mk (show hi39 ≤ w33.heap.size from tp_); (try clear F15); (try clear F29); (try clear HB); (try clear TOP); have F15 := n0_; have F29 := n1_; have HB := n2_; have TOP := n3_; clear n0_ n1_ n2_ n3_; clear hb tp_; obtain ⟨Ao43, co44, eo45⟩ := Kd.S_slice F42.out; subst eo45) | ((with_reducible refine gate_callee (f := 40) rfl ?_); refine goesL_ (some 29) rfl rfl Try.func40 (by kernel_rfl) rfl #[.slice Ao43 t36.length co44] rfl (by (try simp only [List.map_toArray, List.map_cons, List.map_nil]); first | done | rfl | (simp only [List.length_drop, List.length_take]; rfl)) ?_; (with_reducible refine (impl_LogBytes.calls k47 _ _ t36 t22 t23 _ ?s1 ?s2 A48.out).mono ?_); (case s1 => exact (Kd.S_reads' (by (with_reducible repeat (first | exact F42.out | apply Kd.S_drewN | apply Kd.S_drew)))).2.2); (case s2 => exact (Kd.S_reads' (by (with_reducible repeat (first | exact F42.out | apply Kd.S_drewN | apply Kd.S_drew)))).2.1); rintro e w46 ⟨v0_, rfl, ho49, hb⟩; refine ⟨_, rfl, ?_⟩; obtain ⟨lo50, hi51, OD52_, OD53_, tp_, F54_⟩ := Kd.R_born (base := w.heap.size) ho49 (below_size (by repeat (first | exact HB.out | apply pw_below_drewN | apply below_drew1))) TOP.out hb.size; clear ho49; have OD52 := Aside0.mk OD52_; have OD53 := Aside0.mk OD53_; clear OD52_ OD53_; have F54 := Aside0.mk F54_; clear F54_; have n0_ := Aside0.mk (show Kd.S k37 37 w46 w.heap.size (iv lo11 hi12) (.slice Ao16 t9.length co17) t9 from Kd.S_below (by (with_reducible repeat (first | exact F15.out | apply Kd.S_drewN | apply Kd.S_drew))) hb); have n1_ := Aside0.mk (show Kd.R (Kd.int .u8) 5 w46 w.heap.size (iv lo25 hi26) (.slice Ao30 t22.length co31) t22 from Kd.R_below (by (with_reducible repeat (first | exact F29.out | apply Kd.R_drewN | apply Kd.R_drew))) hb); have n2_ := Aside0.mk (show Kd.S k37 37 w46 w.heap.size (iv lo38 hi39) (.slice Ao43 t36.length co44) t36 from Kd.S_below (by (with_reducible repeat (first | exact F42.out | apply Kd.S_drewN | apply Kd.S_drew))) hb); have n3_ := Aside0.mk (show Below w.heap.size w w46 from below_step (by repeat (first | exact HB.out | apply pw_below_drewN | apply below_drew1)) hb); have n4_ := Aside0.mk (show hi51 ≤ w46.heap.size from tp_); (try clear F15); (try clear F29); (try clear F42); (try clear HB); (try clear TOP); have F15 := n0_; have F29 := n1_; have F42 := n2_; have HB := n3_; have TOP := n4_; clear n0_ n1_ n2_ n3_ n4_; clear hb tp_; obtain ⟨Ao55, co56, eo57⟩ := Kd.R_slice F54.out; subst eo57) | ((with_reducible refine gate_callee (f := 14) rfl ?_); refine goesL_ (some 34) rfl rfl Try.func14 (by kernel_rfl) rfl #[.slice Ao55 t22.length co56, .slice Ao30 t22.length co31] rfl (by (try simp only [List.map_toArray, List.map_cons, List.map_nil]); first | done | rfl | (simp only [List.length_drop, List.length_take]; rfl)) ?_; (with_reducible refine (laws_eqByteS.calls k59 _ _ t22 _ _ t22 true _ ?s1 ?s2 ?s3 ?s4 A60.out).mono ?_); (case s1 => exact (Kd.R_reads' (by (with_reducible repeat (first | exact F54.out | apply Kd.R_drewN | apply Kd.R_drew)))).2.2); (case s2 => exact (Kd.R_reads' (by (with_reducible repeat (first | exact F54.out | apply Kd.R_drewN | apply Kd.R_drew)))).2.1); (case s3 => exact (Kd.R_reads' (by (with_reducible repeat (first | exact F29.out | apply Kd.R_drewN | apply Kd.R_drew)))).2.2); (case s4 => exact (Kd.R_reads' (by (with_reducible repeat (first | exact F29.out | apply Kd.R_drewN | apply Kd.R_drew)))).2.1); rintro e w58 ⟨rfl, hd⟩; refine ⟨_, rfl, ?_⟩; have hb := drawn0_below hd; clear hd; have n0_ := Aside0.mk (show Kd.S k37 37 w58 w.heap.size (iv lo11 hi12) (.slice Ao16 t9.length co17) t9 from Kd.S_below (by (with_reducible repeat (first | exact F15.out | apply Kd.S_drewN | apply Kd.S_drew))) hb); have n1_ := Aside0.mk (show Kd.R (Kd.int .u8) 5 w58 w.heap.size (iv lo25 hi26) (.slice Ao30 t22.length co31) t22 from Kd.R_below (by (with_reducible repeat (first | exact F29.out | apply Kd.R_drewN | apply Kd.R_drew))) hb); have n2_ := Aside0.mk (show Kd.S k37 37 w58 w.heap.size (iv lo38 hi39) (.slice Ao43 t36.length co44) t36 from Kd.S_below (by (with_reducible repeat (first | exact F42.out | apply Kd.S_drewN | apply Kd.S_drew))) hb); have n3_ := Aside0.mk (show Kd.R (Kd.int .u8) 5 w58 w.heap.size (iv lo50 hi51) (.slice Ao55 t22.length co56) t22 from Kd.R_below (by (with_reducible repeat (first | exact F54.out | apply Kd.R_drewN | apply Kd.R_drew))) hb); have n4_ := Aside0.mk (show Below w.heap.size w w58 from below_step (by repeat (first | exact HB.out | apply pw_below_drewN | apply below_drew1)) hb); have n5_ := Aside0.mk (show hi51 ≤ w58.heap.size from Nat.le_trans TOP.out hb.size); (try clear F15); (try clear F29); (try clear F42); (try clear F54); (try clear HB); (try clear TOP); have F15 := n0_; have F29 := n1_; have F42 := n2_; have F54 := n3_; have HB := n4_; have TOP := n5_; clear n0_ n1_ n2_ n3_ n4_ n5_; clear hb) | ((with_reducible refine gate_callee (f := 39) rfl ?_); refine goesL_ (some 43) rfl rfl Try.func39 (by kernel_rfl) rfl #[.slice A0 l0.length c0] rfl (by (try simp only [List.map_toArray, List.map_cons, List.map_nil]); first | done | rfl | (simp only [List.length_drop, List.length_take]; rfl)) ?_; (with_reducible refine (laws_toRecordS.calls k62 _ _ l0 t64 _ ?s1 ?s2 A63.out).mono ?_); (case s1 => exact Kd.C_below HR0.out (by repeat (first | exact HB.out | apply pw_below_drewN | apply below_drew1))); (case s2 => exact HC0.out); rintro e w61 ⟨v0_, rfl, ho65, hb⟩; refine ⟨_, rfl, ?_⟩; obtain ⟨lo66, hi67, OD68_, OD69_, tp_, F70_⟩ := Kd.S_born (base := w.heap.size) ho65 (below_size (by repeat (first | exact HB.out | apply pw_below_drewN | apply below_drew1))) TOP.out hb.size; clear ho65; have OD68 := Aside0.mk OD68_; have OD69 := Aside0.mk OD69_; clear OD68_ OD69_; have F70 := Aside0.mk F70_; clear F70_; have n0_ := Aside0.mk (show Kd.S k37 37 w61 w.heap.size (iv lo11 hi12) (.slice Ao16 t9.length co17) t9 from Kd.S_below (by (with_reducible repeat (first | exact F15.out | apply Kd.S_drewN | apply Kd.S_drew))) hb); have n1_ := Aside0.mk (show Kd.R (Kd.int .u8) 5 w61 w.heap.size (iv lo25 hi26) (.slice Ao30 t22.length co31) t22 from Kd.R_below (by (with_reducible repeat (first | exact F29.out | apply Kd.R_drewN | apply Kd.R_drew))) hb); have n2_ := Aside0.mk (show Kd.S k37 37 w61 w.heap.size (iv lo38 hi39) (.slice Ao43 t36.length co44) t36 from Kd.S_below (by (with_reducible repeat (first | exact F42.out | apply Kd.S_drewN | apply Kd.S_drew))) hb); have n3_ := Aside0.mk (show Kd.R (Kd.int .u8) 5 w61 w.heap.size (iv lo50 hi51) (.slice Ao55 t22.length co56) t22 from Kd.R_below (by (with_reducible repeat (first | exact F54.out | apply Kd.R_drewN | apply Kd.R_drew))) hb); have n4_ := Aside0.mk (show Below w.heap.size w w61 from below_step (by repeat (first | exact HB.out | apply pw_below_drewN | apply below_drew1)) hb); have n5_ := Aside0.mk (show hi67 ≤ w61.heap.size from tp_); (try clear F15); (try clear F29); (try clear F42); (try clear F54); (try clear HB); (try clear TOP); have F15 := n0_; have F29 := n1_; have F42 := n2_; have F54 := n3_; have HB := n4_; have TOP := n5_; clear n0_ n1_ n2_ n3_ n4_ n5_; clear hb tp_; obtain ⟨Ao71, co72, eo73⟩ := Kd.S_slice F70.out; subst eo73) | ((with_reducible refine gate_callee (f := 34) rfl ?_); refine goesL_ (some 44) rfl rfl Try.func34 (by kernel_rfl) rfl #[.slice Ao43 t36.length co44, .slice Ao71 t64.length co72] rfl (by (try simp only [List.map_toArray, List.map_cons, List.map_nil]); first | done | rfl | (simp only [List.length_drop, List.length_take]; rfl)) ?_; (with_reducible refine (laws_eqRecordS.calls k75 _ _ t36 _ _ t64 true _ ?s1 ?s2 ?s3 ?s4 A76.out).mono ?_); (case s1 => exact (Kd.S_reads' (by (with_reducible repeat (first | exact F42.out | apply Kd.S_drewN | apply Kd.S_drew)))).2.2); (case s2 => exact (Kd.S_reads' (by (with_reducible repeat (first | exact F42.out | apply Kd.S_drewN | apply Kd.S_drew)))).2.1); (case s3 => exact (Kd.S_reads' (by (with_reducible repeat (first | exact F70.out | apply Kd.S_drewN | apply Kd.S_drew)))).2.2); (case s4 => exact (Kd.S_reads' (by (with_reducible repeat (first | exact F70.out | apply Kd.S_drewN | apply Kd.S_drew)))).2.1); rintro e w74 ⟨rfl, hb⟩; refine ⟨_, rfl, ?_⟩; have n0_ := Aside0.mk (show Kd.S k37 37 w74 w.heap.size (iv lo11 hi12) (.slice Ao16 t9.length co17) t9 from Kd.S_below (by (with_reducible repeat (first | exact F15.out | apply Kd.S_drewN | apply Kd.S_drew))) hb); have n1_ := Aside0.mk (show Kd.R (Kd.int .u8) 5 w74 w.heap.size (iv lo25 hi26) (.slice Ao30 t22.length co31) t22 from Kd.R_below (by (with_reducible repeat (first | exact F29.out | apply Kd.R_drewN | apply Kd.R_drew))) hb); have n2_ := Aside0.mk (show Kd.S k37 37 w74 w.heap.size (iv lo38 hi39) (.slice Ao43 t36.length co44) t36 from Kd.S_below (by (with_reducible repeat (first | exact F42.out | apply Kd.S_drewN | apply Kd.S_drew))) hb); have n3_ := Aside0.mk (show Kd.R (Kd.int .u8) 5 w74 w.heap.size (iv lo50 hi51) (.slice Ao55 t22.length co56) t22 from Kd.R_below (by (with_reducible repeat (first | exact F54.out | apply Kd.R_drewN | apply Kd.R_drew))) hb); have n4_ := Aside0.mk (show Kd.S k37 37 w74 w.heap.size (iv lo66 hi67) (.slice Ao71 t64.length co72) t64 from Kd.S_below (by (with_reducible repeat (first | exact F70.out | apply Kd.S_drewN | apply Kd.S_drew))) hb); have n5_ := Aside0.mk (show Below w.heap.size w w74 from below_step (by repeat (first | exact HB.out | apply pw_below_drewN | apply below_drew1)) hb); have n6_ := Aside0.mk (show hi67 ≤ w74.heap.size from Nat.le_trans TOP.out hb.size); (try clear F15); (try clear F29); (try clear F42); (try clear F54); (try clear F70); (try clear HB); (try clear TOP); have F15 := n0_; have F29 := n1_; have F42 := n2_; have F54 := n3_; have F70 := n4_; have HB := n5_; have TOP := n6_; clear n0_ n1_ n2_ n3_ n4_ n5_ n6_; clear hb) | ((with_reducible refine gate_callee (f := 35) rfl ?_); refine goesL_ (some 48) rfl rfl Try.func35 (by kernel_rfl) rfl #[.slice Ao43 t36.length co44, .int .i64 1] rfl (by (try simp only [List.map_toArray, List.map_cons, List.map_nil]); first | done | rfl | (simp only [List.length_drop, List.length_take]; rfl)) ?_; (with_reducible refine (laws_markRecordS.calls k78 (iv lo38 hi39) _ _ t36 1 t80 t81 w _ ?s1 ?s2 A79.out).mono ?_); (case s1 => exact (by repeat (first | exact HB.out | apply pw_below_drewN | apply below_drew1))); (case s2 => exact (by (with_reducible repeat (first | exact F42.out | apply Kd.S_drewN | apply Kd.S_drew)))); rintro e w77 ⟨rfl, ho82, hB2, hk⟩; refine ⟨_, rfl, ?_⟩; have LN83 := Aside0.mk (show t36.length = t81.length from (Kd.S_reads' ho82).1); have n0_ := Aside0.mk (show Kd.S k37 37 w77 w.heap.size (iv lo11 hi12) (.slice Ao16 t9.length co17) t9 from Kd.S_kept (by (with_reducible repeat (first | exact F15.out | apply Kd.S_drewN | apply Kd.S_drew))) hk (Kd.iv_apart (by have q0 := OW.out; have q1 := OD13.out; have q2 := OD14.out; have q3 := OD27.out; have q4 := OD28.out; have q5 := OD40.out; have q6 := OD41.out; have q7 := OD52.out; have q8 := OD53.out; have q9 := OD68.out; have q10 := OD69.out; omega))); have n1_ := Aside0.mk (show Kd.R (Kd.int .u8) 5 w77 w.heap.size (iv lo25 hi26) (.slice Ao30 t22.length co31) t22 from Kd.R_kept (by (with_reducible repeat (first | exact F29.out | apply Kd.R_drewN | apply Kd.R_drew))) hk (Kd.iv_apart (by have q0 := OW.out; have q1 := OD13.out; have q2 := OD14.out; have q3 := OD27.out; have q4 := OD28.out; have q5 := OD40.out; have q6 := OD41.out; have q7 := OD52.out; have q8 := OD53.out; have q9 := OD68.out; have q10 := OD69.out; omega))); have n2_ := Aside0.mk (show Kd.S k37 37 w77 w.heap.size (iv lo38 hi39) (.slice Ao43 t36.length co44) t81 from ho82); have n3_ := Aside0.mk (show Kd.R (Kd.int .u8) 5 w77 w.heap.size (iv lo50 hi51) (.slice Ao55 t22.length co56) t22 from Kd.R_kept (by (with_reducible repeat (first | exact F54.out | apply Kd.R_drewN | apply Kd.R_drew))) hk (Kd.iv_apart (by have q0 := OW.out; have q1 := OD13.out; have q2 := OD14.out; have q3 := OD27.out; have q4 := OD28.out; have q5 := OD40.out; have q6 := OD41.out; have q7 := OD52.out; have q8 := OD53.out; have q9 := OD68.out; have q10 := OD69.out; omega))); have n4_ := Aside0.mk (show Kd.S k37 37 w77 w.heap.size (iv lo66 hi67) (.slice Ao71 t64.length co72) t64 from Kd.S_kept (by (with_reducible repeat (first | exact F70.out | apply Kd.S_drewN | apply Kd.S_drew))) hk (Kd.iv_apart (by have q0 := OW.out; have q1 := OD13.out; have q2 := OD14.out; have q3 := OD27.out; have q4 := OD28.out; have q5 := OD40.out; have q6 := OD41.out; have q7 := OD52.out; have q8 := OD53.out; have q9 := OD68.out; have q10 := OD69.out; omega))); have n5_ := Aside0.mk (show Below w.heap.size w w77 from hB2); have n6_ := Aside0.mk (show hi67 ≤ w77.heap.size from Nat.le_trans TOP.out hk.1); (try clear F15); (try clear F29); (try clear F42); (try clear F54); (try clear F70); (try clear HB); (try clear TOP); have F15 := n0_; have F29 := n1_; have F42 := n2_; have F54 := n3_; have F70 := n4_; have HB := n5_; have TOP := n6_; clear n0_ n1_ n2_ n3_ n4_ n5_ n6_; clear ho82 hB2 hk) | (go_at_call 14; (with_reducible refine (laws_eqByteS.calls k86 _ _ t22 _ _ t22 true _ ?s1 ?s2 ?s3 ?s4 A87.out).mono ?_); (case s1 => exact (Kd.R_reads' (by (with_reducible repeat (first | exact F54.out | apply Kd.R_drewN | apply Kd.R_drew)))).2.2); (case s2 => exact (Kd.R_reads' (by (with_reducible repeat (first | exact F54.out | apply Kd.R_drewN | apply Kd.R_drew)))).2.1); (case s3 => exact (Kd.R_reads' (by (with_reducible repeat (first | exact F29.out | apply Kd.R_drewN | apply Kd.R_drew)))).2.2); (case s4 => exact (Kd.R_reads' (by (with_reducible repeat (first | exact F29.out | apply Kd.R_drewN | apply Kd.R_drew)))).2.1); rintro e w85 ⟨rfl, hd⟩; have hb := drawn0_below hd; clear hd; have n0_ := Aside0.mk (show Kd.S k37 37 w85 w.heap.size (iv lo11 hi12) (.slice Ao16 t9.length co17) t9 from Kd.S_below (by (with_reducible repeat (first | exact F15.out | apply Kd.S_drewN | apply Kd.S_drew))) hb); have n1_ := Aside0.mk (show Kd.R (Kd.int .u8) 5 w85 w.heap.size (iv lo25 hi26) (.slice Ao30 t22.length co31) t22 from Kd.R_below (by (with_reducible repeat (first | exact F29.out | apply Kd.R_drewN | apply Kd.R_drew))) hb); have n2_ := Aside0.mk (show Kd.S k37 37 w85 w.heap.size (iv lo38 hi39) (.slice Ao43 t36.length co44) t81 from Kd.S_below (by (with_reducible repeat (first | exact F42.out | apply Kd.S_drewN | apply Kd.S_drew))) hb); have n3_ := Aside0.mk (show Kd.R (Kd.int .u8) 5 w85 w.heap.size (iv lo50 hi51) (.slice Ao55 t22.length co56) t22 from Kd.R_below (by (with_reducible repeat (first | exact F54.out | apply Kd.R_drewN | apply Kd.R_drew))) hb); have n4_ := Aside0.mk (show Kd.S k37 37 w85 w.heap.size (iv lo66 hi67) (.slice Ao71 t64.length co72) t64 from Kd.S_below (by (with_reducible repeat (first | exact F70.out | apply Kd.S_drewN | apply Kd.S_drew))) hb); have n5_ := Aside0.mk (show Below w.heap.size w w85 from below_step (by repeat (first | exact HB.out | apply pw_below_drewN | apply below_drew1)) hb); have n6_ := Aside0.mk (show hi67 ≤ w85.heap.size from Nat.le_trans TOP.out hb.size); (try clear F15); (try clear F29); (try clear F42); (try clear F54); (try clear F70); (try clear HB); (try clear TOP); have F15 := n0_; have F29 := n1_; have F42 := n2_; have F54 := n3_; have F70 := n4_; have HB := n5_; have TOP := n6_; clear n0_ n1_ n2_ n3_ n4_ n5_ n6_; clear hb) | ((with_reducible refine gate_callee (f := 17) rfl ?_); refine goesL_ (some 64) rfl rfl Try.func17 (by kernel_rfl) rfl #[.slice Ao55 t22.length co56, .int .i64 1] rfl (by (try simp only [List.map_toArray, List.map_cons, List.map_nil]); first | done | rfl | (simp only [List.length_drop, List.length_take]; rfl)) ?_; (with_reducible refine (laws_markByteS.calls k89 (iv lo50 hi51) (.slice Ao55 t22.length co56) t22 1 t91 t92 w _ ?s1 ?s2 A90.out).mono ?_); (case s1 => exact (by repeat (first | exact HB.out | apply pw_below_drewN | apply below_drew1))); (case s2 => exact (by (with_reducible repeat (first | exact F54.out | apply Kd.R_drewN | apply Kd.R_drew)))); rintro e w88 ⟨rfl, ho93, hB2, hk⟩; refine ⟨_, rfl, ?_⟩; have LN94 := Aside0.mk (show t22.length = t92.length from (Kd.R_reads' ho93).1); have n0_ := Aside0.mk (show Kd.S k37 37 w88 w.heap.size (iv lo11 hi12) (.slice Ao16 t9.length co17) t9 from Kd.S_kept (by (with_reducible repeat (first | exact F15.out | apply Kd.S_drewN | apply Kd.S_drew))) hk (Kd.iv_apart (by have q0 := OW.out; have q1 := OD13.out; have q2 := OD14.out; have q3 := OD27.out; have q4 := OD28.out; have q5 := OD40.out; have q6 := OD41.out; have q7 := OD52.out; have q8 := OD53.out; have q9 := OD68.out; have q10 := OD69.out; omega))); have n1_ := Aside0.mk (show Kd.R (Kd.int .u8) 5 w88 w.heap.size (iv lo25 hi26) (.slice Ao30 t22.length co31) t22 from Kd.R_kept (by (with_reducible repeat (first | exact F29.out | apply Kd.R_drewN | apply Kd.R_drew))) hk (Kd.iv_apart (by have q0 := OW.out; have q1 := OD13.out; have q2 := OD14.out; have q3 := OD27.out; have q4 := OD28.out; have q5 := OD40.out; have q6 := OD41.out; have q7 := OD52.out; have q8 := OD53.out; have q9 := OD68.out; have q10 := OD69.out; omega))); have n2_ := Aside0.mk (show Kd.S k37 37 w88 w.heap.size (iv lo38 hi39) (.slice Ao43 t36.length co44) t81 from Kd.S_kept (by (with_reducible repeat (first | exact F42.out | apply Kd.S_drewN | apply Kd.S_drew))) hk (Kd.iv_apart (by have q0 := OW.out; have q1 := OD13.out; have q2 := OD14.out; have q3 := OD27.out; have q4 := OD28.out; have q5 := OD40.out; have q6 := OD41.out; have q7 := OD52.out; have q8 := OD53.out; have q9 := OD68.out; have q10 := OD69.out; omega))); have n3_ := Aside0.mk (show Kd.R (Kd.int .u8) 5 w88 w.heap.size (iv lo50 hi51) (.slice Ao55 t22.length co56) t92 from Kd.R_back (by (with_reducible repeat (first | exact F54.out | apply Kd.R_drewN | apply Kd.R_drew))) ho93 rfl); have n4_ := Aside0.mk (show Kd.S k37 37 w88 w.heap.size (iv lo66 hi67) (.slice Ao71 t64.length co72) t64 from Kd.S_kept (by (with_reducible repeat (first | exact F70.out | apply Kd.S_drewN | apply Kd.S_drew))) hk (Kd.iv_apart (by have q0 := OW.out; have q1 := OD13.out; have q2 := OD14.out; have q3 := OD27.out; have q4 := OD28.out; have q5 := OD40.out; have q6 := OD41.out; have q7 := OD52.out; have q8 := OD53.out; have q9 := OD68.out; have q10 := OD69.out; omega))); have n5_ := Aside0.mk (show Below w.heap.size w w88 from hB2); have n6_ := Aside0.mk (show hi67 ≤ w88.heap.size from Nat.le_trans TOP.out hk.1); (try clear F15); (try clear F29); (try clear F42); (try clear F54); (try clear F70); (try clear HB); (try clear TOP); have F15 := n0_; have F29 := n1_; have F42 := n2_; have F54 := n3_; have F70 := n4_; have HB := n5_; have TOP := n6_; clear n0_ n1_ n2_ n3_ n4_ n5_ n6_; clear ho93 hB2 hk) | ((with_reducible refine gate_callee (f := 18) rfl ?_); refine goesL_ (some 67) rfl rfl Try.func18 (by kernel_rfl) rfl #[.slice Ao55 t22.length co56, .int .i64 1] rfl (by (try simp only [List.map_toArray, List.map_cons, List.map_nil]); first | done | rfl | (simp only [List.length_drop, List.length_take]; rfl)) ?_; (with_reducible refine (calls_args (a' := #[.slice Ao55 t92.length co56, .int .i64 1]) (by rw [LN94.out]) (laws_heldByteS.calls k97 _ _ t92 1 t91 _ ?s1 ?s2 A98.out)).mono ?_); (case s1 => exact (Kd.R_reads' (by (with_reducible repeat (first | exact F54.out | apply Kd.R_drewN | apply Kd.R_drew)))).2.2); (case s2 => have q_ := (Kd.R_reads' (by (with_reducible repeat (first | exact F54.out | apply Kd.R_drewN | apply Kd.R_drew)))).2.1; rw [LN94.out] at q_; exact q_); rintro e w96 ⟨rfl, hd⟩; refine ⟨_, rfl, ?_⟩; have hb := drawn0_below hd; clear hd; have n0_ := Aside0.mk (show Kd.S k37 37 w96 w.heap.size (iv lo11 hi12) (.slice Ao16 t9.length co17) t9 from Kd.S_below (by (with_reducible repeat (first | exact F15.out | apply Kd.S_drewN | apply Kd.S_drew))) hb); have n1_ := Aside0.mk (show Kd.R (Kd.int .u8) 5 w96 w.heap.size (iv lo25 hi26) (.slice Ao30 t22.length co31) t22 from Kd.R_below (by (with_reducible repeat (first | exact F29.out | apply Kd.R_drewN | apply Kd.R_drew))) hb); have n2_ := Aside0.mk (show Kd.S k37 37 w96 w.heap.size (iv lo38 hi39) (.slice Ao43 t36.length co44) t81 from Kd.S_below (by (with_reducible repeat (first | exact F42.out | apply Kd.S_drewN | apply Kd.S_drew))) hb); have n3_ := Aside0.mk (show Kd.R (Kd.int .u8) 5 w96 w.heap.size (iv lo50 hi51) (.slice Ao55 t22.length co56) t92 from Kd.R_below (by (with_reducible repeat (first | exact F54.out | apply Kd.R_drewN | apply Kd.R_drew))) hb); have n4_ := Aside0.mk (show Kd.S k37 37 w96 w.heap.size (iv lo66 hi67) (.slice Ao71 t64.length co72) t64 from Kd.S_below (by (with_reducible repeat (first | exact F70.out | apply Kd.S_drewN | apply Kd.S_drew))) hb); have n5_ := Aside0.mk (show Below w.heap.size w w96 from below_step (by repeat (first | exact HB.out | apply pw_below_drewN | apply below_drew1)) hb); have n6_ := Aside0.mk (show hi67 ≤ w96.heap.size from Nat.le_trans TOP.out hb.size); (try clear F15); (try clear F29); (try clear F42); (try clear F54); (try clear F70); (try clear HB); (try clear TOP); have F15 := n0_; have F29 := n1_; have F42 := n2_; have F54 := n3_; have F70 := n4_; have HB := n5_; have TOP := n6_; clear n0_ n1_ n2_ n3_ n4_ n5_ n6_; clear hb) | ((with_reducible refine gate_callee (f := 39) rfl ?_); refine goesL_ (some 75) rfl rfl Try.func39 (by kernel_rfl) rfl #[.slice A0 l0.length c0] rfl (by (try simp only [List.map_toArray, List.map_cons, List.map_nil]); first | done | rfl | (simp only [List.length_drop, List.length_take]; rfl)) ?_; (with_reducible refine (laws_toRecordS.calls k100 _ _ l0 t102 _ ?s1 ?s2 A101.out).mono ?_); (case s1 => exact Kd.C_below HR0.out (by repeat (first | exact HB.out | apply pw_below_drewN | apply below_drew1))); (case s2 => exact HC0.out); rintro e w99 ⟨v0_, rfl, ho103, hb⟩; refine ⟨_, rfl, ?_⟩; obtain ⟨lo104, hi105, OD106_, OD107_, tp_, F108_⟩ := Kd.S_born (base := w.heap.size) ho103 (below_size (by repeat (first | exact HB.out | apply pw_below_drewN | apply below_drew1))) TOP.out hb.size; clear ho103; have OD106 := Aside0.mk OD106_; have OD107 := Aside0.mk OD107_; clear OD106_ OD107_; have F108 := Aside0.mk F108_; clear F108_; have n0_ := Aside0.mk (show Kd.S k37 37 w99 w.heap.size (iv lo11 hi12) (.slice Ao16 t9.length co17) t9 from Kd.S_below (by (with_reducible repeat (first | exact F15.out | apply Kd.S_drewN | apply Kd.S_drew))) hb); have n1_ := Aside0.mk (show Kd.R (Kd.int .u8) 5 w99 w.heap.size (iv lo25 hi26) (.slice Ao30 t22.length co31) t22 from Kd.R_below (by (with_reducible repeat (first | exact F29.out | apply Kd.R_drewN | apply Kd.R_drew))) hb); have n2_ := Aside0.mk (show Kd.S k37 37 w99 w.heap.size (iv lo38 hi39) (.slice Ao43 t36.length co44) t81 from Kd.S_below (by (with_reducible repeat (first | exact F42.out | apply Kd.S_drewN | apply Kd.S_drew))) hb); have n3_ := Aside0.mk (show Kd.R (Kd.int .u8) 5 w99 w.heap.size (iv lo50 hi51) (.slice Ao55 t22.length co56) t92 from Kd.R_below (by (with_reducible repeat (first | exact F54.out | apply Kd.R_drewN | apply Kd.R_drew))) hb); have n4_ := Aside0.mk (show Kd.S k37 37 w99 w.heap.size (iv lo66 hi67) (.slice Ao71 t64.length co72) t64 from Kd.S_below (by (with_reducible repeat (first | exact F70.out | apply Kd.S_drewN | apply Kd.S_drew))) hb); have n5_ := Aside0.mk (show Below w.heap.size w w99 from below_step (by repeat (first | exact HB.out | apply pw_below_drewN | apply below_drew1)) hb); have n6_ := Aside0.mk (show hi105 ≤ w99.heap.size from tp_); (try clear F15); (try clear F29); (try clear F42); (try clear F54); (try clear F70); (try clear HB); (try clear TOP); have F15 := n0_; have F29 := n1_; have F42 := n2_; have F54 := n3_; have F70 := n4_; have HB := n5_; have TOP := n6_; clear n0_ n1_ n2_ n3_ n4_ n5_ n6_; clear hb tp_; obtain ⟨Ao109, co110, eo111⟩ := Kd.S_slice F108.out; subst eo111) | ((with_reducible refine gate_callee (f := 40) rfl ?_); refine goesL_ (some 76) rfl rfl Try.func40 (by kernel_rfl) rfl #[.slice Ao109 t102.length co110] rfl (by (try simp only [List.map_toArray, List.map_cons, List.map_nil]); first | done | rfl | (simp only [List.length_drop, List.length_take]; rfl)) ?_; (with_reducible refine (impl_LogBytes.calls k113 _ _ t102 t22 t23 _ ?s1 ?s2 A114.out).mono ?_); (case s1 => exact (Kd.S_reads' (by (with_reducible repeat (first | exact F108.out | apply Kd.S_drewN | apply Kd.S_drew)))).2.2); (case s2 => exact (Kd.S_reads' (by (with_reducible repeat (first | exact F108.out | apply Kd.S_drewN | apply Kd.S_drew)))).2.1); rintro e w112 ⟨v0_, rfl, ho115, hb⟩; refine ⟨_, rfl, ?_⟩; obtain ⟨lo116, hi117, OD118_, OD119_, tp_, F120_⟩ := Kd.R_born (base := w.heap.size) ho115 (below_size (by repeat (first | exact HB.out | apply pw_below_drewN | apply below_drew1))) TOP.out hb.size; clear ho115; have OD118 := Aside0.mk OD118_; have OD119 := Aside0.mk OD119_; clear OD118_ OD119_; have F120 := Aside0.mk F120_; clear F120_; have n0_ := Aside0.mk (show Kd.S k37 37 w112 w.heap.size (iv lo11 hi12) (.slice Ao16 t9.length co17) t9 from Kd.S_below (by (with_reducible repeat (first | exact F15.out | apply Kd.S_drewN | apply Kd.S_drew))) hb); have n1_ := Aside0.mk (show Kd.R (Kd.int .u8) 5 w112 w.heap.size (iv lo25 hi26) (.slice Ao30 t22.length co31) t22 from Kd.R_below (by (with_reducible repeat (first | exact F29.out | apply Kd.R_drewN | apply Kd.R_drew))) hb); have n2_ := Aside0.mk (show Kd.S k37 37 w112 w.heap.size (iv lo38 hi39) (.slice Ao43 t36.length co44) t81 from Kd.S_below (by (with_reducible repeat (first | exact F42.out | apply Kd.S_drewN | apply Kd.S_drew))) hb); have n3_ := Aside0.mk (show Kd.R (Kd.int .u8) 5 w112 w.heap.size (iv lo50 hi51) (.slice Ao55 t22.length co56) t92 from Kd.R_below (by (with_reducible repeat (first | exact F54.out | apply Kd.R_drewN | apply Kd.R_drew))) hb); have n4_ := Aside0.mk (show Kd.S k37 37 w112 w.heap.size (iv lo66 hi67) (.slice Ao71 t64.length co72) t64 from Kd.S_below (by (with_reducible repeat (first | exact F70.out | apply Kd.S_drewN | apply Kd.S_drew))) hb); have n5_ := Aside0.mk (show Kd.S k37 37 w112 w.heap.size (iv lo104 hi105) (.slice Ao109 t102.length co110) t102 from Kd.S_below (by (with_reducible repeat (first | exact F108.out | apply Kd.S_drewN | apply Kd.S_drew))) hb); have n6_ := Aside0.mk (show Below w.heap.size w w112 from below_step (by repeat (first | exact HB.out | apply pw_below_drewN | apply below_drew1)) hb); have n7_ := Aside0.mk (show hi117 ≤ w112.heap.size from tp_); (try clear F15); (try clear F29); (try clear F42); (try clear F54); (try clear F70); (try clear F108); (try clear HB); (try clear TOP); have F15 := n0_; have F29 := n1_; have F42 := n2_; have F54 := n3_; have F70 := n4_; have F108 := n5_; have HB := n6_; have TOP := n7_; clear n0_ n1_ n2_ n3_ n4_ n5_ n6_ n7_; clear hb tp_; obtain ⟨Ao121, co122, eo123⟩ := Kd.R_slice F120.out; subst eo123) | ((with_reducible refine gate_callee (f := 14) rfl ?_); refine goesL_ (some 81) rfl rfl Try.func14 (by kernel_rfl) rfl #[.slice Ao121 t22.length co122, .slice Ao30 t22.length co31] rfl (by (try simp only [List.map_toArray, List.map_cons, List.map_nil]); first | done | rfl | (simp only [List.length_drop, List.length_take]; rfl)) ?_; (with_reducible refine (laws_eqByteS.calls k125 _ _ t22 _ _ t22 true _ ?s1 ?s2 ?s3 ?s4 A126.out).mono ?_); (case s1 => exact (Kd.R_reads' (by (with_reducible repeat (first | exact F120.out | apply Kd.R_drewN | apply Kd.R_drew)))).2.2); (case s2 => exact (Kd.R_reads' (by (with_reducible repeat (first | exact F120.out | apply Kd.R_drewN | apply Kd.R_drew)))).2.1); (case s3 => exact (Kd.R_reads' (by (with_reducible repeat (first | exact F29.out | apply Kd.R_drewN | apply Kd.R_drew)))).2.2); (case s4 => exact (Kd.R_reads' (by (with_reducible repeat (first | exact F29.out | apply Kd.R_drewN | apply Kd.R_drew)))).2.1); rintro e w124 ⟨rfl, hd⟩; refine ⟨_, rfl, ?_⟩; have hb := drawn0_below hd; clear hd; have n0_ := Aside0.mk (show Kd.S k37 37 w124 w.heap.size (iv lo11 hi12) (.slice Ao16 t9.length co17) t9 from Kd.S_below (by (with_reducible repeat (first | exact F15.out | apply Kd.S_drewN | apply Kd.S_drew))) hb); have n1_ := Aside0.mk (show Kd.R (Kd.int .u8) 5 w124 w.heap.size (iv lo25 hi26) (.slice Ao30 t22.length co31) t22 from Kd.R_below (by (with_reducible repeat (first | exact F29.out | apply Kd.R_drewN | apply Kd.R_drew))) hb); have n2_ := Aside0.mk (show Kd.S k37 37 w124 w.heap.size (iv lo38 hi39) (.slice Ao43 t36.length co44) t81 from Kd.S_below (by (with_reducible repeat (first | exact F42.out | apply Kd.S_drewN | apply Kd.S_drew))) hb); have n3_ := Aside0.mk (show Kd.R (Kd.int .u8) 5 w124 w.heap.size (iv lo50 hi51) (.slice Ao55 t22.length co56) t92 from Kd.R_below (by (with_reducible repeat (first | exact F54.out | apply Kd.R_drewN | apply Kd.R_drew))) hb); have n4_ := Aside0.mk (show Kd.S k37 37 w124 w.heap.size (iv lo66 hi67) (.slice Ao71 t64.length co72) t64 from Kd.S_below (by (with_reducible repeat (first | exact F70.out | apply Kd.S_drewN | apply Kd.S_drew))) hb); have n5_ := Aside0.mk (show Kd.S k37 37 w124 w.heap.size (iv lo104 hi105) (.slice Ao109 t102.length co110) t102 from Kd.S_below (by (with_reducible repeat (first | exact F108.out | apply Kd.S_drewN | apply Kd.S_drew))) hb); have n6_ := Aside0.mk (show Kd.R (Kd.int .u8) 5 w124 w.heap.size (iv lo116 hi117) (.slice Ao121 t22.length co122) t22 from Kd.R_below (by (with_reducible repeat (first | exact F120.out | apply Kd.R_drewN | apply Kd.R_drew))) hb); have n7_ := Aside0.mk (show Below w.heap.size w w124 from below_step (by repeat (first | exact HB.out | apply pw_below_drewN | apply below_drew1)) hb); have n8_ := Aside0.mk (show hi117 ≤ w124.heap.size from Nat.le_trans TOP.out hb.size); (try clear F15); (try clear F29); (try clear F42); (try clear F54); (try clear F70); (try clear F108); (try clear F120); (try clear HB); (try clear TOP); have F15 := n0_; have F29 := n1_; have F42 := n2_; have F54 := n3_; have F70 := n4_; have F108 := n5_; have F120 := n6_; have HB := n7_; have TOP := n8_; clear n0_ n1_ n2_ n3_ n4_ n5_ n6_ n7_ n8_; clear hb) | ((with_reducible refine gate_callee (f := 18) rfl ?_); refine goesL_ (some 90) rfl rfl Try.func18 (by kernel_rfl) rfl #[.slice Ao55 t22.length co56, .int .i64 1] rfl (by (try simp only [List.map_toArray, List.map_cons, List.map_nil]); first | done | rfl | (simp only [List.length_drop, List.length_take]; rfl)) ?_; (with_reducible refine (calls_args (a' := #[.slice Ao55 t92.length co56, .int .i64 1]) (by rw [LN94.out]) (laws_heldByteS.calls k128 _ _ t92 1 t91 _ ?s1 ?s2 A129.out)).mono ?_); (case s1 => exact (Kd.R_reads' (by (with_reducible repeat (first | exact F54.out | apply Kd.R_drewN | apply Kd.R_drew)))).2.2); (case s2 => have q_ := (Kd.R_reads' (by (with_reducible repeat (first | exact F54.out | apply Kd.R_drewN | apply Kd.R_drew)))).2.1; rw [LN94.out] at q_; exact q_); rintro e w127 ⟨rfl, hd⟩; refine ⟨_, rfl, ?_⟩; have hb := drawn0_below hd; clear hd; have n0_ := Aside0.mk (show Kd.S k37 37 w127 w.heap.size (iv lo11 hi12) (.slice Ao16 t9.length co17) t9 from Kd.S_below (by (with_reducible repeat (first | exact F15.out | apply Kd.S_drewN | apply Kd.S_drew))) hb); have n1_ := Aside0.mk (show Kd.R (Kd.int .u8) 5 w127 w.heap.size (iv lo25 hi26) (.slice Ao30 t22.length co31) t22 from Kd.R_below (by (with_reducible repeat (first | exact F29.out | apply Kd.R_drewN | apply Kd.R_drew))) hb); have n2_ := Aside0.mk (show Kd.S k37 37 w127 w.heap.size (iv lo38 hi39) (.slice Ao43 t36.length co44) t81 from Kd.S_below (by (with_reducible repeat (first | exact F42.out | apply Kd.S_drewN | apply Kd.S_drew))) hb); have n3_ := Aside0.mk (show Kd.R (Kd.int .u8) 5 w127 w.heap.size (iv lo50 hi51) (.slice Ao55 t22.length co56) t92 from Kd.R_below (by (with_reducible repeat (first | exact F54.out | apply Kd.R_drewN | apply Kd.R_drew))) hb); have n4_ := Aside0.mk (show Kd.S k37 37 w127 w.heap.size (iv lo66 hi67) (.slice Ao71 t64.length co72) t64 from Kd.S_below (by (with_reducible repeat (first | exact F70.out | apply Kd.S_drewN | apply Kd.S_drew))) hb); have n5_ := Aside0.mk (show Kd.S k37 37 w127 w.heap.size (iv lo104 hi105) (.slice Ao109 t102.length co110) t102 from Kd.S_below (by (with_reducible repeat (first | exact F108.out | apply Kd.S_drewN | apply Kd.S_drew))) hb); have n6_ := Aside0.mk (show Kd.R (Kd.int .u8) 5 w127 w.heap.size (iv lo116 hi117) (.slice Ao121 t22.length co122) t22 from Kd.R_below (by (with_reducible repeat (first | exact F120.out | apply Kd.R_drewN | apply Kd.R_drew))) hb); have n7_ := Aside0.mk (show Below w.heap.size w w127 from below_step (by repeat (first | exact HB.out | apply pw_below_drewN | apply below_drew1)) hb); have n8_ := Aside0.mk (show hi117 ≤ w127.heap.size from Nat.le_trans TOP.out hb.size); (try clear F15); (try clear F29); (try clear F42); (try clear F54); (try clear F70); (try clear F108); (try clear F120); (try clear HB); (try clear TOP); have F15 := n0_; have F29 := n1_; have F42 := n2_; have F54 := n3_; have F70 := n4_; have F108 := n5_; have F120 := n6_; have HB := n7_; have TOP := n8_; clear n0_ n1_ n2_ n3_ n4_ n5_ n6_ n7_ n8_; clear hb))
  go_ret
  exact ⟨rfl, HB.out⟩

end Go.Proofs.Ytkbclccnnllddaa.PFnExactLogBytes
