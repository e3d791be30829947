import Derived.Test.YtjjkhlphdbmdfaaZFnExactTupleRead30
import Derived.Test.YtjjkhlphdbmdfaaZFnExactTupleRead39
import Derived.Test.YtjjkhlphdbmdfaaZFnExactTupleRead40
import Derived.Test.YtjjkhlphdbmdfaaZFnExactTupleRead41
namespace Go.Proofs.Ytjjkhlphdbmdfaa.PFnExactTupleRead
open Go.RowKit Go.Proofs.YtjjkhlphdbmdfaaW.PrintWords Go.Proofs.YtjjkhlphdbmdfaaW.PrintLast Go.Proofs.YtjjkhlphdbmdfaaW.PrintMore
attribute [local go_sem] max2_int min2_int max_two min_two max_three min_three max_four min_four   -- for this text's walks alone
attribute [local go_sem high] fl_eql fl_neq fl_lss fl_leq fl_gtr fl_geq fl_add fl_sub fl_mul fl_quo fl_neg fl_ofInt fl_toInt fl_store sub_sign ext_bits ext_from fl_nan_quo fl_nan_add fl_nan_mul fl_nan_sub
open Go.Proofs.YtjjkhlphdbmdfaaW.PrintWords renaming below_alloc → h1, pw_below_drewN → h2, below_drew1 → h3, below_set → h4, blk_drewN → b1, blk_drew → b2, blk_alloc → b3
set_option linter.unusedVariables false
set_option linter.unusedSimpArgs false
def impl_TupleBytes.f (k : Nat) (a0_0 : Int) (a0_1 : Int) (a0_2 : Int) (a0_3 : Int) (a0_4 : Nat) (l0_5 : List Int) (a0_6 : Int) (a0_7 : Int) (a0_8 : Nat) (l0_9 : List Int) : Option (List Int) := (impl_TupleOk.f a0_0 a0_1 a0_2 a0_3 a0_4 l0_5 a0_6 a0_7 a0_8 l0_9).bind fun t406 => (if t406 = true then ((impl_KeyBytes.f k a0_2 a0_3 a0_4 l0_5).bind fun t407 => ((impl_ValueBytes.f k a0_6 a0_7 a0_8 l0_9).bind fun t410 => ((impl_PutNum.f k a0_0 4).bind fun t413 => ((impl_PutNum.f k a0_1 4).bind fun t416 => ((slices_Concat_byte_byte.f k (([t413, t416, (([((t407.length : Int)) % 256] : List Int)), t407, (([((t410.length : Int)) % 256] : List Int)), t410] : List (List Int)))).bind fun t428 => (some t428)))))) else (some ([] : List Int)))
theorem impl_TupleBytes.mono : ∀ a0 a1 a2 a3 a4 a5 a6 a7 a8 a9 k, LeO (impl_TupleBytes.f k a0 a1 a2 a3 a4 a5 a6 a7 a8 a9) (impl_TupleBytes.f (k + 1) a0 a1 a2 a3 a4 a5 a6 a7 a8 a9) := by
 intro a0 a1 a2 a3 a4 a5 a6 a7 a8 a9 k
 unfold impl_TupleBytes.f
 repeat' with_reducible first | exact impl_KeyBytes.mono _ _ _ _ _ | exact impl_PutNum.mono _ _ _ | exact impl_ValueBytes.mono _ _ _ _ _ | exact slices_Concat_byte_byte.mono _ _ | exact LeO.refl _ | exact LeO.none _ | refine LeO.ite ?_ ?_ | refine LeO.bind ?_ (fun _ => ?_)
def impl_TupleBytes.T3 : Bool × List (List Nat × List Nat) := (true, [([], []), ([0], [0]), ([1], [1]), ([], []), ([3], [3]), ([4, 2], [4]), ([2, 5, 0, 1, 2], [2]), ([5, 6, 0, 1, 2, 3, 4, 5, 6], [5])])
def impl_TupleBytes.B3 : List Nat := [0, 1, 3, 0, 8, 31, 63, 127]
theorem impl_TupleBytes.tab3 : rtab .any (opsOf Try.f34 3) = impl_TupleBytes.T3 := by kernel_rfl
theorem impl_TupleBytes.bits3 : waitsOk impl_TupleBytes.T3.2 impl_TupleBytes.B3 = true := by kernel_rfl
def impl_TupleBytes.T4 : Bool × List (List Nat × List Nat) := (true, [([], []), ([0], [0]), ([1], [1]), ([], []), ([3], [3]), ([4, 2], [4]), ([], []), ([6], [6]), ([7], [7]), ([8], [8]), ([], []), ([], []), ([11], [11]), ([12], [12]), ([13], [13]), ([], []), ([2, 5, 9, 10, 14, 15], [2, 5, 9, 10, 14, 15]), ([16, 5], [16]), ([17, 17, 0, 1, 2, 3, 4, 5, 6, 7, 8, 9, 10, 11, 12, 13, 14, 15, 16, 17], [17])])
def impl_TupleBytes.B4 : List Nat := [0, 1, 3, 0, 8, 31, 0, 64, 192, 448, 0, 0, 2048, 6144, 14336, 0, 65535, 131071, 262143]
theorem impl_TupleBytes.tab4 : rtab .any (opsOf Try.f34 4) = impl_TupleBytes.T4 := by kernel_rfl
theorem impl_TupleBytes.bits4 : waitsOk impl_TupleBytes.T4.2 impl_TupleBytes.B4 = true := by kernel_rfl
set_option maxHeartbeats 8000000 in
set_option maxRecDepth 100000 in
theorem impl_TupleBytes.calls (k : Nat) (a0_0 : Int) (a0_1 : Int) (a0_2 : Int) (a0_3 : Int) (a0_4 : Nat) (A0_5 : Option Addr) (c0_5 : Nat) (l0_5 : List Int) (a0_6 : Int) (a0_7 : Int) (a0_8 : Nat) (A0_9 : Option Addr) (c0_9 : Nat) (l0_9 : List Int) (r : List Int) (w : World) (hr0_5 : Kd.C (Kd.int .u8) w A0_5 l0_5.length l0_5) (hc0_5 : l0_5.length ≤ c0_5) (hr0_9 : Kd.C (Kd.int .u8) w A0_9 l0_9.length l0_9) (hc0_9 : l0_9.length ≤ c0_9) (h : impl_TupleBytes.f k a0_0 a0_1 a0_2 a0_3 a0_4 l0_5 a0_6 a0_7 a0_8 l0_9 = some r) :
  Calls Try.prog 34 #[.agg #[.int .i64 a0_0, .int .i64 a0_1, .int .i64 a0_2, .int .i64 a0_3, .float .f64 a0_4, .slice A0_5 l0_5.length c0_5, .int .i64 a0_6, .int .i64 a0_7, .float .f64 a0_8, .slice A0_9 l0_9.length c0_9]] w fun e w' => ∃ v0_ : Value, e = .returned (v0_) ∧ Kd.R (Kd.int .u8) 5 w' w.heap.size (fun _ => True) v0_ r ∧ Below w.heap.size w w' := by
 have hu49 := Try.underlying49
 have hu25 := Try.underlying25
 have HR0_5 := Aside0.mk hr0_5
 have HC0_5 := Aside0.mk hc0_5
 clear hr0_5 hc0_5
 have HR0_9 := Aside0.mk hr0_9
 have HC0_9 := Aside0.mk hc0_9
 clear hr0_9 hc0_9
 have HB := Aside0.mk (Below.refl w.heap.size w)
 have H := h
 clear h
 unfold impl_TupleBytes.f at H
 replace H := Option.bind_eq_some_iff.mp H
 obtain ⟨t406, A20, H⟩ := H
 (try dsimp only at H)
 have A2 := Aside0.mk A20
 clear A20
 by_cases c3 : t406 = true
 ·subst c3
  rw [if_pos rfl] at H
  (try dsimp only at H)
  replace H := Option.bind_eq_some_iff.mp H
  obtain ⟨t407, A40, H⟩ := H
  (try dsimp only at H)
  have A4 := Aside0.mk A40
  clear A40
  replace H := Option.bind_eq_some_iff.mp H
  obtain ⟨t410, A50, H⟩ := H
  (try dsimp only at H)
  have A5 := Aside0.mk A50
  clear A50
  replace H := Option.bind_eq_some_iff.mp H
  obtain ⟨t413, A60, H⟩ := H
  (try dsimp only at H)
  have A6 := Aside0.mk A60
  clear A60
  replace H := Option.bind_eq_some_iff.mp H
  obtain ⟨t416, A70, H⟩ := H
  (try dsimp only at H)
  have A7 := Aside0.mk A70
  clear A70
  obtain ⟨y419, hy419⟩ : ∃ y_ : List Int, y_ = (([((t407.length : Int)) % 256] : List Int)) := ⟨_, rfl⟩
  replace H : ((slices_Concat_byte_byte.f k (([t413, t416, y419, t407, (([((t410.length : Int)) % 256] : List Int)), t410] : List (List Int)))).bind fun t428 => (some t428)) = some r := by first | (rw [hy419]; with_reducible exact H) | (have H2_ := (Option.bind_some _ _).symm.trans H; rw [hy419]; with_reducible exact H2_) | (have H2_ := (Option.bind_some _ _).symm.trans H; with_reducible exact H2_) | with_reducible exact H | (rw [hy419]; exact H) | exact H
  have Ny419 := Aside0.mk hy419
  clear hy419
  obtain ⟨y422, hy422⟩ : ∃ y_ : List Int, y_ = (([((t410.length : Int)) % 256] : List Int)) := ⟨_, rfl⟩
  replace H : ((slices_Concat_byte_byte.f k (([t413, t416, y419, t407, y422, t410] : List (List Int)))).bind fun t428 => (some t428)) = some r := by first | (rw [hy422]; with_reducible exact H) | (have H2_ := (Option.bind_some _ _).symm.trans H; rw [hy422]; with_reducible exact H2_) | (have H2_ := (Option.bind_some _ _).symm.trans H; with_reducible exact H2_) | with_reducible exact H | (rw [hy422]; exact H) | exact H
  have Ny422 := Aside0.mk hy422
  clear hy422
  obtain ⟨y425, hy425⟩ : ∃ y_ : List (List Int), y_ = (([t413, t416, y419, t407, y422, t410] : List (List Int))) := ⟨_, rfl⟩
  replace H : ((slices_Concat_byte_byte.f k y425).bind fun t428 => (some t428)) = some r := by first | (rw [hy425]; with_reducible exact H) | (have H2_ := (Option.bind_some _ _).symm.trans H; rw [hy425]; with_reducible exact H2_) | (have H2_ := (Option.bind_some _ _).symm.trans H; with_reducible exact H2_) | with_reducible exact H | (rw [hy425]; exact H) | exact H
  have Ny425 := Aside0.mk hy425
  clear hy425
  replace H := Option.bind_eq_some_iff.mp H
  obtain ⟨t428, A80, H⟩ := H
  (try dsimp only at H)
  have A8 := Aside0.mk A80
  clear A80
  obtain rfl := Option.some.inj H
  go_enter Try.func34, Try.ntmps34
  try go_wp2_with (first | ((with_reducible refine gate_dst (N := 1) rfl ?_); refine box_event ?hg (N := 1) ?hd (cs := #[.int .i64 a0_0, .int .i64 a0_1, .int .i64 a0_2, .int .i64 a0_3, .float .f64 a0_4, .slice A0_5 l0_5.length c0_5, .int .i64 a0_6, .int .i64 a0_7, .float .f64 a0_8, .slice A0_9 l0_9.length c0_9]) (t := 49) ?hr ?_; (case hd => rfl); (case hg => rfl); (case hr => first | (go_simp; done) | (go_simp; rfl)); intro gb405 hg w9 hbox hb; have n0_ := Aside0.mk (below_step (hup HB.out) hb); have n1_ := Aside0.mk (hbox); have n2_ := Geq.mk ((by rw [hg]; exact (below_size (hup HB.out)) : w.heap.size ≤ gb405)); have n3_ := Geq.mk ((by rw [hg]; exact (below_size (hup HB.out)) : w.heap.size ≤ gb405)); clear HB; have HB := n0_; have BK405 := n1_; have GW405 := n2_; have GE405 := n3_; clear n0_ n1_ n2_ n3_; clear hb hbox hg; obtain ⟨hcz10_0, hcz10_1, hcz10_2, hcz10_3, hcz10_4, hcz10_5, hcz10_6, hcz10_7, hcz10_8, hcz10_9⟩ := blk_cells10 BK405.out; obtain ⟨hfz10_0, hfz10_1, hfz10_2, hfz10_3, hfz10_4, hfz10_5, hfz10_6, hfz10_7, hfz10_8, hfz10_9⟩ := blk_frozens10 BK405.out) | ((with_reducible refine gate_callee (f := 43) rfl ?_); refine goesL_ (some 6) rfl rfl Try.func43 (by kernel_rfl) rfl #[.agg #[.int .i64 a0_0, .int .i64 a0_1, .int .i64 a0_2, .int .i64 a0_3, .float .f64 a0_4, .slice A0_5 l0_5.length c0_5, .int .i64 a0_6, .int .i64 a0_7, .float .f64 a0_8, .slice A0_9 l0_9.length c0_9]] rfl (by (try simp only [List.map_toArray, List.map_cons, List.map_nil]); first | done | rfl) ?_; (with_reducible refine (impl_TupleOk.calls a0_0 a0_1 a0_2 a0_3 a0_4 _ _ l0_5 a0_6 a0_7 a0_8 _ _ l0_9 true _ ?side1 ?side2 ?side3 ?side4 A2.out).mono ?_); (case side1 => repeat (first | exact (Kd.C_below HR0_5.out HB.out) | (with_reducible refine Kd.C_alloc ?_ _) | (with_reducible refine Kd.C_drewN ?_ _) | (with_reducible refine Kd.C_drew ?_))); (case side2 => exact HC0_5.out); (case side3 => repeat (first | exact (Kd.C_below HR0_9.out HB.out) | (with_reducible refine Kd.C_alloc ?_ _) | (with_reducible refine Kd.C_drewN ?_ _) | (with_reducible refine Kd.C_drew ?_))); (case side4 => exact HC0_9.out); rintro e w11 ⟨rfl, hb⟩; refine ⟨_, rfl, ?_⟩; have n0_ := Aside0.mk (blk_below (bup BK405.out) hb); have n1_ := Aside0.mk (below_step (hset HB.out) hb); clear BK405; clear HB; have BK405 := n0_; have HB := n1_; clear n0_ n1_; (try clear hb); (try clear hb2); (try clear hk); (try clear hi)))
  have n0_ := Aside0.mk (blk_drew BK405.out)
  have n1_ := Aside0.mk (below_drew1 HB.out)
  clear BK405
  clear HB
  have BK405 := n0_
  have HB := n1_
  clear n0_ n1_
  refine start_ (n := 8) (S := fun w' => w'.cell? ⟨gb405, 0, none⟩ = some (.int .i64 a0_0) ∧ w'.cell? ⟨gb405, 1, none⟩ = some (.int .i64 a0_1) ∧ w'.cell? ⟨gb405, 2, none⟩ = some (.int .i64 a0_2) ∧ w'.cell? ⟨gb405, 3, none⟩ = some (.int .i64 a0_3) ∧ w'.cell? ⟨gb405, 4, none⟩ = some (.float .f64 a0_4) ∧ w'.cell? ⟨gb405, 5, none⟩ = some (.slice A0_5 l0_5.length c0_5) ∧ w'.cell? ⟨gb405, 6, none⟩ = some (.int .i64 a0_6) ∧ w'.cell? ⟨gb405, 7, none⟩ = some (.int .i64 a0_7) ∧ w'.cell? ⟨gb405, 8, none⟩ = some (.float .f64 a0_8) ∧ w'.cell? ⟨gb405, 9, none⟩ = some (.slice A0_9 l0_9.length c0_9)) (ds := []) #[false, false, false, false, false, false, false, false] (by kernel_rfl) rfl rfl (blk_cells10 BK405.out) (fun hHeld => ?_); refine with_tabW impl_TupleBytes.tab3 impl_TupleBytes.bits3 (fun HT_ HW_ => ?_)
  generalize w11.drew = w12 at BK405 HB hHeld ⊢
  refine pure_ (i := 0) (N := some 8) (v := ?_) (a' := ?_) #[true, false, false, false, false, false, false, false] rfl rfl (any_of HT_.out (by kernel_rfl)) (fun _ _ _ h => h) (Or.inl ⟨by rfl, ?_⟩) ?_ ?_
  rotate_left
  ·intro w'
   go_simp
   with_reducible rfl
  rotate_left
  ·simp only [Act.put, List.setIfInBounds_toArray, List.set_cons_zero, List.set_cons_succ, i64_w, i32_w]
   rfl
  refine pure_ (i := 3) (N := some 11) (v := ?_) (a' := ?_) #[true, false, false, true, false, false, false, false] rfl rfl (any_of HT_.out (by kernel_rfl)) (fun _ _ _ h => h) (Or.inl ⟨by rfl, ?_⟩) ?_ ?_
  rotate_left
  ·intro w'
   go_simp
   with_reducible rfl
  rotate_left
  ·simp only [Act.put, List.setIfInBounds_toArray, List.set_cons_zero, List.set_cons_succ, i64_w, i32_w]
   rfl
  refine take_ (i := 1) (N := some 9) (v := ?_) (a' := ?_) #[true, true, false, true, false, false, false, false] rfl rfl (take_ofW HT_.out HW_.out (by kernel_rfl)) (fun _ _ _ h => h) (Or.inl ⟨by rfl, ?_⟩) hHeld ?_ ?_
  rotate_left
  ·rintro w' ⟨s0, s1, s2, s3, s4, s5, s6, s7, s8, s9⟩
   go_simp
   with_reducible rfl
  rotate_left
  ·simp only [Act.put, List.setIfInBounds_toArray, List.set_cons_zero, List.set_cons_succ, i64_w, i32_w]
   rfl
  refine take_ (i := 4) (N := some 12) (v := ?_) (a' := ?_) #[true, true, false, true, true, false, false, false] rfl rfl (take_ofW HT_.out HW_.out (by kernel_rfl)) (fun _ _ _ h => h) (Or.inl ⟨by rfl, ?_⟩) hHeld ?_ ?_
  rotate_left
  ·rintro w' ⟨s0, s1, s2, s3, s4, s5, s6, s7, s8, s9⟩
   go_simp
   with_reducible rfl
  rotate_left
  ·simp only [Act.put, List.setIfInBounds_toArray, List.set_cons_zero, List.set_cons_succ, i64_w, i32_w]
   rfl
  refine one_ (i := 2) (N := some 10) #[true, true, true, true, true, false, false, false] rfl rfl (one_of HT_.out (by kernel_rfl)) (by decide) (fun K hK => ?_)
  refine goes_ Try.func24 (by kernel_rfl) rfl #[.agg #[.int .i64 a0_2, .int .i64 a0_3, .float .f64 a0_4, .slice A0_5 l0_5.length c0_5]] (by rfl) rfl rfl (by (try simp only [List.map_toArray, List.map_cons, List.map_nil]); first | done | rfl) ?_
  with_reducible refine (impl_KeyBytes.calls k a0_2 a0_3 a0_4 _ _ l0_5 t407 _ ?side1 ?side2 A4.out).mono ?_
  (case side1 => repeat (first | exact (Kd.C_below HR0_5.out HB.out) | (with_reducible refine Kd.C_alloc ?_ _) | (with_reducible refine Kd.C_drewN ?_ _) | (with_reducible refine Kd.C_drew ?_)))
  (case side2 => exact HC0_5.out)
  rintro e w13 ⟨v408, rfl, ho0, hb⟩
  refine ⟨_, rfl, ?_⟩
  have n0_ := Aside0.mk (Kd.R_lower ho0 (below_size (hset HB.out)))
  have n1_ := Aside0.mk (blk_below (bup BK405.out) hb)
  have n2_ := Aside0.mk (below_step (hset HB.out) hb)
  clear BK405
  clear HB
  have HO409 := n0_
  have BK405 := n1_
  have HB := n2_
  clear n0_ n1_ n2_
  (try clear hb)
  (try clear hb2)
  (try clear hk)
  (try clear hi)
  (try clear ho0)
  refine hK.out _ _ (blk_cells10 BK405.out) (fun hHeld => ?_)
  clear hK K
  refine norm_ (a' := ?_) ?_ ?_
  rotate_left
  ·show Act.put _ (some 10) _ = _
   simp only [Act.put, List.setIfInBounds_toArray, List.set_cons_zero, List.set_cons_succ, i64_w, i32_w]
   rfl
  refine one_ (i := 5) (N := some 13) #[true, true, true, true, true, true, false, false] rfl rfl (one_of HT_.out (by kernel_rfl)) (by decide) (fun K hK => ?_)
  refine goes_ Try.func29 (by kernel_rfl) rfl #[.agg #[.int .i64 a0_6, .int .i64 a0_7, .float .f64 a0_8, .slice A0_9 l0_9.length c0_9]] (by rfl) rfl rfl (by (try simp only [List.map_toArray, List.map_cons, List.map_nil]); first | done | rfl) ?_
  with_reducible refine (impl_ValueBytes.calls k a0_6 a0_7 a0_8 _ _ l0_9 t410 _ ?side1 ?side2 A5.out).mono ?_
  (case side1 => repeat (first | exact (Kd.C_below HR0_9.out HB.out) | (with_reducible refine Kd.C_alloc ?_ _) | (with_reducible refine Kd.C_drewN ?_ _) | (with_reducible refine Kd.C_drew ?_)))
  (case side2 => exact HC0_9.out)
  rintro e w14 ⟨v411, rfl, ho0, hb⟩
  refine ⟨_, rfl, ?_⟩
  have n0_ := Aside0.mk (Kd.R_elder' (Kd.rup HO409.out) (Kd.R_base ho0) hb)
  have n1_ := Aside0.mk (Kd.R_lower (Kd.R_new' ho0 (Kd.R_lt (Kd.rup HO409.out))) (below_size (hset HB.out)))
  have n2_ := Aside0.mk (blk_below (bup BK405.out) hb)
  have n3_ := Aside0.mk (below_step (hset HB.out) hb)
  clear HO409
  clear BK405
  clear HB
  have HO409 := n0_
  have HO412 := n1_
  have BK405 := n2_
  have HB := n3_
  clear n0_ n1_ n2_ n3_
  (try clear hb)
  (try clear hb2)
  (try clear hk)
  (try clear hi)
  (try clear ho0)
  refine hK.out _ _ (blk_cells10 BK405.out) (fun hHeld => ?_)
  clear hK K
  refine norm_ (a' := ?_) ?_ ?_
  rotate_left
  ·show Act.put _ (some 13) _ = _
   simp only [Act.put, List.setIfInBounds_toArray, List.set_cons_zero, List.set_cons_succ, i64_w, i32_w]
   rfl
  refine pure_ (i := 6) (N := some 3) (v := ?_) (a' := ?_) #[true, true, true, true, true, true, true, false] rfl rfl (any_of HT_.out (by kernel_rfl)) (fun _ _ _ h => h) (Or.inl ⟨by rfl, ?_⟩) ?_ ?_
  rotate_left
  ·intro w'
   go_simp
   with_reducible rfl
  rotate_left
  ·simp only [Act.put, List.setIfInBounds_toArray, List.set_cons_zero, List.set_cons_succ, i64_w, i32_w]
   rfl
  refine pure_ (i := 7) (N := some 4) (v := ?_) (a' := ?_) #[true, true, true, true, true, true, true, true] rfl rfl (any_of HT_.out (by kernel_rfl)) (fun _ _ _ h => h) (Or.inl ⟨by rfl, ?_⟩) ?_ ?_
  rotate_left
  ·intro w'
   go_simp
   with_reducible rfl
  rotate_left
  ·simp only [Act.put, List.setIfInBounds_toArray, List.set_cons_zero, List.set_cons_succ, i64_w, i32_w]
   rfl
  refine done_ (done_of HT_.out (by kernel_rfl)) ?_
  try go_wp2
  have n0_ := Aside0.mk (Kd.R_drew HO409.out)
  have n1_ := Aside0.mk (Kd.R_drew HO412.out)
  have n2_ := Aside0.mk (blk_drew BK405.out)
  have n3_ := Aside0.mk (below_drew1 HB.out)
  clear HO409
  clear HO412
  clear BK405
  clear HB
  have HO409 := n0_
  have HO412 := n1_
  have BK405 := n2_
  have HB := n3_
  clear n0_ n1_ n2_ n3_
  obtain ⟨Ao16, co16, eo16⟩ := Kd.R_slice HO409.out
  (first | subst eo16 | (injection eo16 with f1_ f2_ f3_; have f4_ := f1_.symm; have f5_ := f3_.symm; clear f1_ f2_ f3_; subst f4_; subst f5_))
  obtain ⟨Ao17, co17, eo17⟩ := Kd.R_slice HO412.out
  (first | subst eo17 | (injection eo17 with f1_ f2_ f3_; have f4_ := f1_.symm; have f5_ := f3_.symm; clear f1_ f2_ f3_; subst f4_; subst f5_))
  refine start_ (n := 19) (S := fun w' => w'.cell? ⟨gb405, 0, none⟩ = some (.int .i64 a0_0) ∧ w'.cell? ⟨gb405, 1, none⟩ = some (.int .i64 a0_1) ∧ w'.cell? ⟨gb405, 2, none⟩ = some (.int .i64 a0_2) ∧ w'.cell? ⟨gb405, 3, none⟩ = some (.int .i64 a0_3) ∧ w'.cell? ⟨gb405, 4, none⟩ = some (.float .f64 a0_4) ∧ w'.cell? ⟨gb405, 5, none⟩ = some (.slice A0_5 l0_5.length c0_5) ∧ w'.cell? ⟨gb405, 6, none⟩ = some (.int .i64 a0_6) ∧ w'.cell? ⟨gb405, 7, none⟩ = some (.int .i64 a0_7) ∧ w'.cell? ⟨gb405, 8, none⟩ = some (.float .f64 a0_8) ∧ w'.cell? ⟨gb405, 9, none⟩ = some (.slice A0_9 l0_9.length c0_9)) (ds := []) #[false, false, false, false, false, false, false, false, false, false, false, false, false, false, false, false, false, false, false] (by kernel_rfl) rfl rfl (blk_cells10 BK405.out) (fun hHeld => ?_); refine with_tabW impl_TupleBytes.tab4 impl_TupleBytes.bits4 (fun HT_ HW_ => ?_)
  generalize w14.drew = w15 at HO409 HO412 BK405 HB hHeld ⊢
  refine pure_ (i := 0) (N := some 14) (v := ?_) (a' := ?_) #[true, false, false, false, false, false, false, false, false, false, false, false, false, false, false, false, false, false, false] rfl rfl (any_of HT_.out (by kernel_rfl)) (fun _ _ _ h => h) (Or.inl ⟨by rfl, ?_⟩) ?_ ?_
  rotate_left
  ·intro w'
   go_simp
   with_reducible rfl
  rotate_left
  ·simp only [Act.put, List.setIfInBounds_toArray, List.set_cons_zero, List.set_cons_succ, i64_w, i32_w]
   rfl
  refine pure_ (i := 3) (N := some 17) (v := ?_) (a' := ?_) #[true, false, false, true, false, false, false, false, false, false, false, false, false, false, false, false, false, false, false] rfl rfl (any_of HT_.out (by kernel_rfl)) (fun _ _ _ h => h) (Or.inl ⟨by rfl, ?_⟩) ?_ ?_
  rotate_left
  ·intro w'
   go_simp
   with_reducible rfl
  rotate_left
  ·simp only [Act.put, List.setIfInBounds_toArray, List.set_cons_zero, List.set_cons_succ, i64_w, i32_w]
   rfl
  refine pure_ (i := 6) (N := some 20) (v := ?_) (a' := ?_) #[true, false, false, true, false, false, true, false, false, false, false, false, false, false, false, false, false, false, false] rfl rfl (any_of HT_.out (by kernel_rfl)) (fun _ _ _ h => h) (Or.inl ⟨by rfl, ?_⟩) ?_ ?_
  rotate_left
  ·intro w'
   go_simp
   with_reducible rfl
  rotate_left
  ·simp only [Act.put, List.setIfInBounds_toArray, List.set_cons_zero, List.set_cons_succ, i64_w, i32_w]
   rfl
  refine pure_ (i := 7) (N := some 21) (v := ?_) (a' := ?_) #[true, false, false, true, false, false, true, true, false, false, false, false, false, false, false, false, false, false, false] rfl rfl (any_of HT_.out (by kernel_rfl)) (fun _ _ _ h => h) (Or.inl ⟨by rfl, ?_⟩) ?_ ?_
  rotate_left
  ·intro w'
   go_simp
   with_reducible rfl
  rotate_left
  ·simp only [Act.put, List.setIfInBounds_toArray, List.set_cons_zero, List.set_cons_succ, i64_w, i32_w]
   rfl
  refine pure_ (i := 8) (N := some 22) (v := ?_) (a' := ?_) #[true, false, false, true, false, false, true, true, true, false, false, false, false, false, false, false, false, false, false] rfl rfl (any_of HT_.out (by kernel_rfl)) (fun _ _ _ h => h) (Or.inl ⟨by rfl, ?_⟩) ?_ ?_
  rotate_left
  ·intro w'
   go_simp
   with_reducible rfl
  rotate_left
  ·simp only [Act.put, List.setIfInBounds_toArray, List.set_cons_zero, List.set_cons_succ, i64_w, i32_w]
   rfl
  refine pure_ (i := 10) (N := some 24) (v := ?_) (a' := ?_) #[true, false, false, true, false, false, true, true, true, false, true, false, false, false, false, false, false, false, false] rfl rfl (any_of HT_.out (by kernel_rfl)) (fun _ _ _ h => h) (Or.inl ⟨by rfl, ?_⟩) ?_ ?_
  rotate_left
  ·intro w'
   go_simp
   with_reducible rfl
  rotate_left
  ·simp only [Act.put, List.setIfInBounds_toArray, List.set_cons_zero, List.set_cons_succ, i64_w, i32_w]
   rfl
  refine pure_ (i := 11) (N := some 25) (v := ?_) (a' := ?_) #[true, false, false, true, false, false, true, true, true, false, true, true, false, false, false, false, false, false, false] rfl rfl (any_of HT_.out (by kernel_rfl)) (fun _ _ _ h => h) (Or.inl ⟨by rfl, ?_⟩) ?_ ?_
  rotate_left
  ·intro w'
   go_simp
   with_reducible rfl
  rotate_left
  ·simp only [Act.put, List.setIfInBounds_toArray, List.set_cons_zero, List.set_cons_succ, i64_w, i32_w]
   rfl
  refine pure_ (i := 12) (N := some 26) (v := ?_) (a' := ?_) #[true, false, false, true, false, false, true, true, true, false, true, true, true, false, false, false, false, false, false] rfl rfl (any_of HT_.out (by kernel_rfl)) (fun _ _ _ h => h) (Or.inl ⟨by rfl, ?_⟩) ?_ ?_
  rotate_left
  ·intro w'
   go_simp
   with_reducible rfl
  rotate_left
  ·simp only [Act.put, List.setIfInBounds_toArray, List.set_cons_zero, List.set_cons_succ, i64_w, i32_w]
   rfl
  refine pure_ (i := 13) (N := some 27) (v := ?_) (a' := ?_) #[true, false, false, true, false, false, true, true, true, false, true, true, true, true, false, false, false, false, false] rfl rfl (any_of HT_.out (by kernel_rfl)) (fun _ _ _ h => h) (Or.inl ⟨by rfl, ?_⟩) ?_ ?_
  rotate_left
  ·intro w'
   go_simp
   with_reducible rfl
  rotate_left
  ·simp only [Act.put, List.setIfInBounds_toArray, List.set_cons_zero, List.set_cons_succ, i64_w, i32_w]
   rfl
  refine pure_ (i := 15) (N := some 29) (v := ?_) (a' := ?_) #[true, false, false, true, false, false, true, true, true, false, true, true, true, true, false, true, false, false, false] rfl rfl (any_of HT_.out (by kernel_rfl)) (fun _ _ _ h => h) (Or.inl ⟨by rfl, ?_⟩) ?_ ?_
  rotate_left
  ·intro w'
   go_simp
   with_reducible rfl
  rotate_left
  ·simp only [Act.put, List.setIfInBounds_toArray, List.set_cons_zero, List.set_cons_succ, i64_w, i32_w]
   rfl
  refine take_ (i := 1) (N := some 15) (v := ?_) (a' := ?_) #[true, true, false, true, false, false, true, true, true, false, true, true, true, true, false, true, false, false, false] rfl rfl (take_ofW HT_.out HW_.out (by kernel_rfl)) (fun _ _ _ h => h) (Or.inl ⟨by rfl, ?_⟩) hHeld ?_ ?_
  rotate_left
  ·rintro w' ⟨s0, s1, s2, s3, s4, s5, s6, s7, s8, s9⟩
   go_simp
   with_reducible rfl
  rotate_left
  ·simp only [Act.put, List.setIfInBounds_toArray, List.set_cons_zero, List.set_cons_succ, i64_w, i32_w]
   rfl
  refine take_ (i := 4) (N := some 18) (v := ?_) (a' := ?_) #[true, true, false, true, true, false, true, true, true, false, true, true, true, true, false, true, false, false, false] rfl rfl (take_ofW HT_.out HW_.out (by kernel_rfl)) (fun _ _ _ h => h) (Or.inl ⟨by rfl, ?_⟩) hHeld ?_ ?_
  rotate_left
  ·rintro w' ⟨s0, s1, s2, s3, s4, s5, s6, s7, s8, s9⟩
   go_simp
   with_reducible rfl
  rotate_left
  ·simp only [Act.put, List.setIfInBounds_toArray, List.set_cons_zero, List.set_cons_succ, i64_w, i32_w]
   rfl
  refine join_ (σ := Value × Value × Value × Value) 3 #[true, true, true, true, true, true, true, true, true, true, true, true, true, true, true, true, false, false, false] (fun s_ => [(16, s_.1), (19, s_.2.1), (23, s_.2.2.1), (28, s_.2.2.2)]) (fun s_ w' => (w'.cell? ⟨gb405, 0, none⟩ = some (.int .i64 a0_0) ∧ w'.cell? ⟨gb405, 1, none⟩ = some (.int .i64 a0_1) ∧ w'.cell? ⟨gb405, 2, none⟩ = some (.int .i64 a0_2) ∧ w'.cell? ⟨gb405, 3, none⟩ = some (.int .i64 a0_3) ∧ w'.cell? ⟨gb405, 4, none⟩ = some (.float .f64 a0_4) ∧ w'.cell? ⟨gb405, 5, none⟩ = some (.slice A0_5 l0_5.length c0_5) ∧ w'.cell? ⟨gb405, 6, none⟩ = some (.int .i64 a0_6) ∧ w'.cell? ⟨gb405, 7, none⟩ = some (.int .i64 a0_7) ∧ w'.cell? ⟨gb405, 8, none⟩ = some (.float .f64 a0_8) ∧ w'.cell? ⟨gb405, 9, none⟩ = some (.slice A0_9 l0_9.length c0_9)) ∧ (Kd.R (Kd.int .u8) 5 w' w.heap.size (fun k_ => some k_ ≠ (.slice Ao17 t410.length co17 : Value).ownBlock ∧ some k_ ≠ (s_.1 : Value).ownBlock ∧ some k_ ≠ (s_.2.1 : Value).ownBlock ∧ some k_ ≠ (s_.2.2.1 : Value).ownBlock ∧ some k_ ≠ (s_.2.2.2 : Value).ownBlock) (.slice Ao16 t407.length co16) t407) ∧ (Kd.R (Kd.int .u8) 5 w' w.heap.size (fun k_ => some k_ ≠ (.slice Ao16 t407.length co16 : Value).ownBlock ∧ some k_ ≠ (s_.1 : Value).ownBlock ∧ some k_ ≠ (s_.2.1 : Value).ownBlock ∧ some k_ ≠ (s_.2.2.1 : Value).ownBlock ∧ some k_ ≠ (s_.2.2.2 : Value).ownBlock) (.slice Ao17 t410.length co17) t410) ∧ (Kd.R (Kd.int .u8) 5 w' w.heap.size (fun k_ => some k_ ≠ (.slice Ao16 t407.length co16 : Value).ownBlock ∧ some k_ ≠ (.slice Ao17 t410.length co17 : Value).ownBlock ∧ some k_ ≠ (s_.2.1 : Value).ownBlock ∧ some k_ ≠ (s_.2.2.1 : Value).ownBlock ∧ some k_ ≠ (s_.2.2.2 : Value).ownBlock) s_.1 t413) ∧ (Kd.R (Kd.int .u8) 5 w' w.heap.size (fun k_ => some k_ ≠ (.slice Ao16 t407.length co16 : Value).ownBlock ∧ some k_ ≠ (.slice Ao17 t410.length co17 : Value).ownBlock ∧ some k_ ≠ (s_.1 : Value).ownBlock ∧ some k_ ≠ (s_.2.2.1 : Value).ownBlock ∧ some k_ ≠ (s_.2.2.2 : Value).ownBlock) s_.2.1 t416) ∧ (Kd.R (Kd.int .u8) 5 w' w.heap.size (fun k_ => some k_ ≠ (.slice Ao16 t407.length co16 : Value).ownBlock ∧ some k_ ≠ (.slice Ao17 t410.length co17 : Value).ownBlock ∧ some k_ ≠ (s_.1 : Value).ownBlock ∧ some k_ ≠ (s_.2.1 : Value).ownBlock ∧ some k_ ≠ (s_.2.2.2 : Value).ownBlock) s_.2.2.1 y419) ∧ (Kd.R (Kd.int .u8) 5 w' w.heap.size (fun k_ => some k_ ≠ (.slice Ao16 t407.length co16 : Value).ownBlock ∧ some k_ ≠ (.slice Ao17 t410.length co17 : Value).ownBlock ∧ some k_ ≠ (s_.1 : Value).ownBlock ∧ some k_ ≠ (s_.2.1 : Value).ownBlock ∧ some k_ ≠ (s_.2.2.1 : Value).ownBlock) s_.2.2.2 y422) ∧ (w'.heap[gb405]? = some (.cells #[.int .i64 a0_0, .int .i64 a0_1, .int .i64 a0_2, .int .i64 a0_3, .float .f64 a0_4, .slice A0_5 l0_5.length c0_5, .int .i64 a0_6, .int .i64 a0_7, .float .f64 a0_8, .slice A0_9 l0_9.length c0_9] 49 (0, 0))) ∧ (Below w.heap.size w w')) ?_ ?_
  rotate_left
  ·intro hJ2_5_9_14
   refine join_ (σ := Value × Value × Value) 4 #[true, true, true, true, true, true, true, true, true, true, true, true, true, true, false, true, false, false, false] (fun s_ => [(16, s_.1), (19, s_.2.1), (23, s_.2.2)]) (fun s_ w' => (w'.cell? ⟨gb405, 0, none⟩ = some (.int .i64 a0_0) ∧ w'.cell? ⟨gb405, 1, none⟩ = some (.int .i64 a0_1) ∧ w'.cell? ⟨gb405, 2, none⟩ = some (.int .i64 a0_2) ∧ w'.cell? ⟨gb405, 3, none⟩ = some (.int .i64 a0_3) ∧ w'.cell? ⟨gb405, 4, none⟩ = some (.float .f64 a0_4) ∧ w'.cell? ⟨gb405, 5, none⟩ = some (.slice A0_5 l0_5.length c0_5) ∧ w'.cell? ⟨gb405, 6, none⟩ = some (.int .i64 a0_6) ∧ w'.cell? ⟨gb405, 7, none⟩ = some (.int .i64 a0_7) ∧ w'.cell? ⟨gb405, 8, none⟩ = some (.float .f64 a0_8) ∧ w'.cell? ⟨gb405, 9, none⟩ = some (.slice A0_9 l0_9.length c0_9)) ∧ (Kd.R (Kd.int .u8) 5 w' w.heap.size (fun k_ => some k_ ≠ (.slice Ao17 t410.length co17 : Value).ownBlock ∧ some k_ ≠ (s_.1 : Value).ownBlock ∧ some k_ ≠ (s_.2.1 : Value).ownBlock ∧ some k_ ≠ (s_.2.2 : Value).ownBlock) (.slice Ao16 t407.length co16) t407) ∧ (Kd.R (Kd.int .u8) 5 w' w.heap.size (fun k_ => some k_ ≠ (.slice Ao16 t407.length co16 : Value).ownBlock ∧ some k_ ≠ (s_.1 : Value).ownBlock ∧ some k_ ≠ (s_.2.1 : Value).ownBlock ∧ some k_ ≠ (s_.2.2 : Value).ownBlock) (.slice Ao17 t410.length co17) t410) ∧ (Kd.R (Kd.int .u8) 5 w' w.heap.size (fun k_ => some k_ ≠ (.slice Ao16 t407.length co16 : Value).ownBlock ∧ some k_ ≠ (.slice Ao17 t410.length co17 : Value).ownBlock ∧ some k_ ≠ (s_.2.1 : Value).ownBlock ∧ some k_ ≠ (s_.2.2 : Value).ownBlock) s_.1 t413) ∧ (Kd.R (Kd.int .u8) 5 w' w.heap.size (fun k_ => some k_ ≠ (.slice Ao16 t407.length co16 : Value).ownBlock ∧ some k_ ≠ (.slice Ao17 t410.length co17 : Value).ownBlock ∧ some k_ ≠ (s_.1 : Value).ownBlock ∧ some k_ ≠ (s_.2.2 : Value).ownBlock) s_.2.1 t416) ∧ (Kd.R (Kd.int .u8) 5 w' w.heap.size (fun k_ => some k_ ≠ (.slice Ao16 t407.length co16 : Value).ownBlock ∧ some k_ ≠ (.slice Ao17 t410.length co17 : Value).ownBlock ∧ some k_ ≠ (s_.1 : Value).ownBlock ∧ some k_ ≠ (s_.2.1 : Value).ownBlock) s_.2.2 y419) ∧ (w'.heap[gb405]? = some (.cells #[.int .i64 a0_0, .int .i64 a0_1, .int .i64 a0_2, .int .i64 a0_3, .float .f64 a0_4, .slice A0_5 l0_5.length c0_5, .int .i64 a0_6, .int .i64 a0_7, .float .f64 a0_8, .slice A0_9 l0_9.length c0_9] 49 (0, 0))) ∧ (Below w.heap.size w w')) ?_ ?_
   rotate_left
   ·intro hJ2_5_9
    refine join_ (σ := Value × Value × Value) 4 #[true, true, true, true, true, true, true, true, true, false, true, true, true, true, true, true, false, false, false] (fun s_ => [(16, s_.1), (19, s_.2.1), (28, s_.2.2)]) (fun s_ w' => (w'.cell? ⟨gb405, 0, none⟩ = some (.int .i64 a0_0) ∧ w'.cell? ⟨gb405, 1, none⟩ = some (.int .i64 a0_1) ∧ w'.cell? ⟨gb405, 2, none⟩ = some (.int .i64 a0_2) ∧ w'.cell? ⟨gb405, 3, none⟩ = some (.int .i64 a0_3) ∧ w'.cell? ⟨gb405, 4, none⟩ = some (.float .f64 a0_4) ∧ w'.cell? ⟨gb405, 5, none⟩ = some (.slice A0_5 l0_5.length c0_5) ∧ w'.cell? ⟨gb405, 6, none⟩ = some (.int .i64 a0_6) ∧ w'.cell? ⟨gb405, 7, none⟩ = some (.int .i64 a0_7) ∧ w'.cell? ⟨gb405, 8, none⟩ = some (.float .f64 a0_8) ∧ w'.cell? ⟨gb405, 9, none⟩ = some (.slice A0_9 l0_9.length c0_9)) ∧ (Kd.R (Kd.int .u8) 5 w' w.heap.size (fun k_ => some k_ ≠ (.slice Ao17 t410.length co17 : Value).ownBlock ∧ some k_ ≠ (s_.1 : Value).ownBlock ∧ some k_ ≠ (s_.2.1 : Value).ownBlock ∧ some k_ ≠ (s_.2.2 : Value).ownBlock) (.slice Ao16 t407.length co16) t407) ∧ (Kd.R (Kd.int .u8) 5 w' w.heap.size (fun k_ => some k_ ≠ (.slice Ao16 t407.length co16 : Value).ownBlock ∧ some k_ ≠ (s_.1 : Value).ownBlock ∧ some k_ ≠ (s_.2.1 : Value).ownBlock ∧ some k_ ≠ (s_.2.2 : Value).ownBlock) (.slice Ao17 t410.length co17) t410) ∧ (Kd.R (Kd.int .u8) 5 w' w.heap.size (fun k_ => some k_ ≠ (.slice Ao16 t407.length co16 : Value).ownBlock ∧ some k_ ≠ (.slice Ao17 t410.length co17 : Value).ownBlock ∧ some k_ ≠ (s_.2.1 : Value).ownBlock ∧ some k_ ≠ (s_.2.2 : Value).ownBlock) s_.1 t413) ∧ (Kd.R (Kd.int .u8) 5 w' w.heap.size (fun k_ => some k_ ≠ (.slice Ao16 t407.length co16 : Value).ownBlock ∧ some k_ ≠ (.slice Ao17 t410.length co17 : Value).ownBlock ∧ some k_ ≠ (s_.1 : Value).ownBlock ∧ some k_ ≠ (s_.2.2 : Value).ownBlock) s_.2.1 t416) ∧ (Kd.R (Kd.int .u8) 5 w' w.heap.size (fun k_ => some k_ ≠ (.slice Ao16 t407.length co16 : Value).ownBlock ∧ some k_ ≠ (.slice Ao17 t410.length co17 : Value).ownBlock ∧ some k_ ≠ (s_.1 : Value).ownBlock ∧ some k_ ≠ (s_.2.1 : Value).ownBlock) s_.2.2 y422) ∧ (w'.heap[gb405]? = some (.cells #[.int .i64 a0_0, .int .i64 a0_1, .int .i64 a0_2, .int .i64 a0_3, .float .f64 a0_4, .slice A0_5 l0_5.length c0_5, .int .i64 a0_6, .int .i64 a0_7, .float .f64 a0_8, .slice A0_9 l0_9.length c0_9] 49 (0, 0))) ∧ (Below w.heap.size w w')) ?_ ?_
    rotate_left
    ·intro hJ2_5_14
     refine join_ (σ := Value × Value × Value) 4 #[true, true, true, true, true, false, true, true, true, true, true, true, true, true, true, true, false, false, false] (fun s_ => [(16, s_.1), (23, s_.2.1), (28, s_.2.2)]) (fun s_ w' => (w'.cell? ⟨gb405, 0, none⟩ = some (.int .i64 a0_0) ∧ w'.cell? ⟨gb405, 1, none⟩ = some (.int .i64 a0_1) ∧ w'.cell? ⟨gb405, 2, none⟩ = some (.int .i64 a0_2) ∧ w'.cell? ⟨gb405, 3, none⟩ = some (.int .i64 a0_3) ∧ w'.cell? ⟨gb405, 4, none⟩ = some (.float .f64 a0_4) ∧ w'.cell? ⟨gb405, 5, none⟩ = some (.slice A0_5 l0_5.length c0_5) ∧ w'.cell? ⟨gb405, 6, none⟩ = some (.int .i64 a0_6) ∧ w'.cell? ⟨gb405, 7, none⟩ = some (.int .i64 a0_7) ∧ w'.cell? ⟨gb405, 8, none⟩ = some (.float .f64 a0_8) ∧ w'.cell? ⟨gb405, 9, none⟩ = some (.slice A0_9 l0_9.length c0_9)) ∧ (Kd.R (Kd.int .u8) 5 w' w.heap.size (fun k_ => some k_ ≠ (.slice Ao17 t410.length co17 : Value).ownBlock ∧ some k_ ≠ (s_.1 : Value).ownBlock ∧ some k_ ≠ (s_.2.1 : Value).ownBlock ∧ some k_ ≠ (s_.2.2 : Value).ownBlock) (.slice Ao16 t407.length co16) t407) ∧ (Kd.R (Kd.int .u8) 5 w' w.heap.size (fun k_ => some k_ ≠ (.slice Ao16 t407.length co16 : Value).ownBlock ∧ some k_ ≠ (s_.1 : Value).ownBlock ∧ some k_ ≠ (s_.2.1 : Value).ownBlock ∧ some k_ ≠ (s_.2.2 : Value).ownBlock) (.slice Ao17 t410.length co17) t410) ∧ (Kd.R (Kd.int .u8) 5 w' w.heap.size (fun k_ => some k_ ≠ (.slice Ao16 t407.length co16 : Value).ownBlock ∧ some k_ ≠ (.slice Ao17 t410.length co17 : Value).ownBlock ∧ some k_ ≠ (s_.2.1 : Value).ownBlock ∧ some k_ ≠ (s_.2.2 : Value).ownBlock) s_.1 t413) ∧ (Kd.R (Kd.int .u8) 5 w' w.heap.size (fun k_ => some k_ ≠ (.slice Ao16 t407.length co16 : Value).ownBlock ∧ some k_ ≠ (.slice Ao17 t410.length co17 : Value).ownBlock ∧ some k_ ≠ (s_.1 : Value).ownBlock ∧ some k_ ≠ (s_.2.2 : Value).ownBlock) s_.2.1 y419) ∧ (Kd.R (Kd.int .u8) 5 w' w.heap.size (fun k_ => some k_ ≠ (.slice Ao16 t407.length co16 : Value).ownBlock ∧ some k_ ≠ (.slice Ao17 t410.length co17 : Value).ownBlock ∧ some k_ ≠ (s_.1 : Value).ownBlock ∧ some k_ ≠ (s_.2.1 : Value).ownBlock) s_.2.2 y422) ∧ (w'.heap[gb405]? = some (.cells #[.int .i64 a0_0, .int .i64 a0_1, .int .i64 a0_2, .int .i64 a0_3, .float .f64 a0_4, .slice A0_5 l0_5.length c0_5, .int .i64 a0_6, .int .i64 a0_7, .float .f64 a0_8, .slice A0_9 l0_9.length c0_9] 49 (0, 0))) ∧ (Below w.heap.size w w')) ?_ ?_
     rotate_left
     ·intro hJ2_9_14
      refine join_ (σ := Value × Value) 5 #[true, true, true, true, true, true, true, true, true, false, true, true, true, true, false, true, false, false, false] (fun s_ => [(16, s_.1), (19, s_.2)]) (fun s_ w' => (w'.cell? ⟨gb405, 0, none⟩ = some (.int .i64 a0_0) ∧ w'.cell? ⟨gb405, 1, none⟩ = some (.int .i64 a0_1) ∧ w'.cell? ⟨gb405, 2, none⟩ = some (.int .i64 a0_2) ∧ w'.cell? ⟨gb405, 3, none⟩ = some (.int .i64 a0_3) ∧ w'.cell? ⟨gb405, 4, none⟩ = some (.float .f64 a0_4) ∧ w'.cell? ⟨gb405, 5, none⟩ = some (.slice A0_5 l0_5.length c0_5) ∧ w'.cell? ⟨gb405, 6, none⟩ = some (.int .i64 a0_6) ∧ w'.cell? ⟨gb405, 7, none⟩ = some (.int .i64 a0_7) ∧ w'.cell? ⟨gb405, 8, none⟩ = some (.float .f64 a0_8) ∧ w'.cell? ⟨gb405, 9, none⟩ = some (.slice A0_9 l0_9.length c0_9)) ∧ (Kd.R (Kd.int .u8) 5 w' w.heap.size (fun k_ => some k_ ≠ (.slice Ao17 t410.length co17 : Value).ownBlock ∧ some k_ ≠ (s_.1 : Value).ownBlock ∧ some k_ ≠ (s_.2 : Value).ownBlock) (.slice Ao16 t407.length co16) t407) ∧ (Kd.R (Kd.int .u8) 5 w' w.heap.size (fun k_ => some k_ ≠ (.slice Ao16 t407.length co16 : Value).ownBlock ∧ some k_ ≠ (s_.1 : Value).ownBlock ∧ some k_ ≠ (s_.2 : Value).ownBlock) (.slice Ao17 t410.length co17) t410) ∧ (Kd.R (Kd.int .u8) 5 w' w.heap.size (fun k_ => some k_ ≠ (.slice Ao16 t407.length co16 : Value).ownBlock ∧ some k_ ≠ (.slice Ao17 t410.length co17 : Value).ownBlock ∧ some k_ ≠ (s_.2 : Value).ownBlock) s_.1 t413) ∧ (Kd.R (Kd.int .u8) 5 w' w.heap.size (fun k_ => some k_ ≠ (.slice Ao16 t407.length co16 : Value).ownBlock ∧ some k_ ≠ (.slice Ao17 t410.length co17 : Value).ownBlock ∧ some k_ ≠ (s_.1 : Value).ownBlock) s_.2 t416) ∧ (w'.heap[gb405]? = some (.cells #[.int .i64 a0_0, .int .i64 a0_1, .int .i64 a0_2, .int .i64 a0_3, .float .f64 a0_4, .slice A0_5 l0_5.length c0_5, .int .i64 a0_6, .int .i64 a0_7, .float .f64 a0_8, .slice A0_9 l0_9.length c0_9] 49 (0, 0))) ∧ (Below w.heap.size w w')) ?_ ?_
      rotate_left
      ·intro hJ2_5
       refine join_ (σ := Value × Value) 5 #[true, true, true, true, true, false, true, true, true, true, true, true, true, true, false, true, false, false, false] (fun s_ => [(16, s_.1), (23, s_.2)]) (fun s_ w' => (w'.cell? ⟨gb405, 0, none⟩ = some (.int .i64 a0_0) ∧ w'.cell? ⟨gb405, 1, none⟩ = some (.int .i64 a0_1) ∧ w'.cell? ⟨gb405, 2, none⟩ = some (.int .i64 a0_2) ∧ w'.cell? ⟨gb405, 3, none⟩ = some (.int .i64 a0_3) ∧ w'.cell? ⟨gb405, 4, none⟩ = some (.float .f64 a0_4) ∧ w'.cell? ⟨gb405, 5, none⟩ = some (.slice A0_5 l0_5.length c0_5) ∧ w'.cell? ⟨gb405, 6, none⟩ = some (.int .i64 a0_6) ∧ w'.cell? ⟨gb405, 7, none⟩ = some (.int .i64 a0_7) ∧ w'.cell? ⟨gb405, 8, none⟩ = some (.float .f64 a0_8) ∧ w'.cell? ⟨gb405, 9, none⟩ = some (.slice A0_9 l0_9.length c0_9)) ∧ (Kd.R (Kd.int .u8) 5 w' w.heap.size (fun k_ => some k_ ≠ (.slice Ao17 t410.length co17 : Value).ownBlock ∧ some k_ ≠ (s_.1 : Value).ownBlock ∧ some k_ ≠ (s_.2 : Value).ownBlock) (.slice Ao16 t407.length co16) t407) ∧ (Kd.R (Kd.int .u8) 5 w' w.heap.size (fun k_ => some k_ ≠ (.slice Ao16 t407.length co16 : Value).ownBlock ∧ some k_ ≠ (s_.1 : Value).ownBlock ∧ some k_ ≠ (s_.2 : Value).ownBlock) (.slice Ao17 t410.length co17) t410) ∧ (Kd.R (Kd.int .u8) 5 w' w.heap.size (fun k_ => some k_ ≠ (.slice Ao16 t407.length co16 : Value).ownBlock ∧ some k_ ≠ (.slice Ao17 t410.length co17 : Value).ownBlock ∧ some k_ ≠ (s_.2 : Value).ownBlock) s_.1 t413) ∧ (Kd.R (Kd.int .u8) 5 w' w.heap.size (fun k_ => some k_ ≠ (.slice Ao16 t407.length co16 : Value).ownBlock ∧ some k_ ≠ (.slice Ao17 t410.length co17 : Value).ownBlock ∧ some k_ ≠ (s_.1 : Value).ownBlock) s_.2 y419) ∧ (w'.heap[gb405]? = some (.cells #[.int .i64 a0_0, .int .i64 a0_1, .int .i64 a0_2, .int .i64 a0_3, .float .f64 a0_4, .slice A0_5 l0_5.length c0_5, .int .i64 a0_6, .int .i64 a0_7, .float .f64 a0_8, .slice A0_9 l0_9.length c0_9] 49 (0, 0))) ∧ (Below w.heap.size w w')) ?_ ?_
       rotate_left
       ·intro hJ2_9
        refine join_ (σ := Value × Value) 5 #[true, true, true, true, true, false, true, true, true, false, true, true, true, true, true, true, false, false, false] (fun s_ => [(16, s_.1), (28, s_.2)]) (fun s_ w' => (w'.cell? ⟨gb405, 0, none⟩ = some (.int .i64 a0_0) ∧ w'.cell? ⟨gb405, 1, none⟩ = some (.int .i64 a0_1) ∧ w'.cell? ⟨gb405, 2, none⟩ = some (.int .i64 a0_2) ∧ w'.cell? ⟨gb405, 3, none⟩ = some (.int .i64 a0_3) ∧ w'.cell? ⟨gb405, 4, none⟩ = some (.float .f64 a0_4) ∧ w'.cell? ⟨gb405, 5, none⟩ = some (.slice A0_5 l0_5.length c0_5) ∧ w'.cell? ⟨gb405, 6, none⟩ = some (.int .i64 a0_6) ∧ w'.cell? ⟨gb405, 7, none⟩ = some (.int .i64 a0_7) ∧ w'.cell? ⟨gb405, 8, none⟩ = some (.float .f64 a0_8) ∧ w'.cell? ⟨gb405, 9, none⟩ = some (.slice A0_9 l0_9.length c0_9)) ∧ (Kd.R (Kd.int .u8) 5 w' w.heap.size (fun k_ => some k_ ≠ (.slice Ao17 t410.length co17 : Value).ownBlock ∧ some k_ ≠ (s_.1 : Value).ownBlock ∧ some k_ ≠ (s_.2 : Value).ownBlock) (.slice Ao16 t407.length co16) t407) ∧ (Kd.R (Kd.int .u8) 5 w' w.heap.size (fun k_ => some k_ ≠ (.slice Ao16 t407.length co16 : Value).ownBlock ∧ some k_ ≠ (s_.1 : Value).ownBlock ∧ some k_ ≠ (s_.2 : Value).ownBlock) (.slice Ao17 t410.length co17) t410) ∧ (Kd.R (Kd.int .u8) 5 w' w.heap.size (fun k_ => some k_ ≠ (.slice Ao16 t407.length co16 : Value).ownBlock ∧ some k_ ≠ (.slice Ao17 t410.length co17 : Value).ownBlock ∧ some k_ ≠ (s_.2 : Value).ownBlock) s_.1 t413) ∧ (Kd.R (Kd.int .u8) 5 w' w.heap.size (fun k_ => some k_ ≠ (.slice Ao16 t407.length co16 : Value).ownBlock ∧ some k_ ≠ (.slice Ao17 t410.length co17 : Value).ownBlock ∧ some k_ ≠ (s_.1 : Value).ownBlock) s_.2 y422) ∧ (w'.heap[gb405]? = some (.cells #[.int .i64 a0_0, .int .i64 a0_1, .int .i64 a0_2, .int .i64 a0_3, .float .f64 a0_4, .slice A0_5 l0_5.length c0_5, .int .i64 a0_6, .int .i64 a0_7, .float .f64 a0_8, .slice A0_9 l0_9.length c0_9] 49 (0, 0))) ∧ (Below w.heap.size w w')) ?_ ?_
        rotate_left
        ·intro hJ2_14
         refine join_ (σ := Value × Value) 5 #[true, true, false, true, true, false, true, true, true, true, true, true, true, true, true, true, false, false, false] (fun s_ => [(23, s_.1), (28, s_.2)]) (fun s_ w' => (w'.cell? ⟨gb405, 0, none⟩ = some (.int .i64 a0_0) ∧ w'.cell? ⟨gb405, 1, none⟩ = some (.int .i64 a0_1) ∧ w'.cell? ⟨gb405, 2, none⟩ = some (.int .i64 a0_2) ∧ w'.cell? ⟨gb405, 3, none⟩ = some (.int .i64 a0_3) ∧ w'.cell? ⟨gb405, 4, none⟩ = some (.float .f64 a0_4) ∧ w'.cell? ⟨gb405, 5, none⟩ = some (.slice A0_5 l0_5.length c0_5) ∧ w'.cell? ⟨gb405, 6, none⟩ = some (.int .i64 a0_6) ∧ w'.cell? ⟨gb405, 7, none⟩ = some (.int .i64 a0_7) ∧ w'.cell? ⟨gb405, 8, none⟩ = some (.float .f64 a0_8) ∧ w'.cell? ⟨gb405, 9, none⟩ = some (.slice A0_9 l0_9.length c0_9)) ∧ (Kd.R (Kd.int .u8) 5 w' w.heap.size (fun k_ => some k_ ≠ (.slice Ao17 t410.length co17 : Value).ownBlock ∧ some k_ ≠ (s_.1 : Value).ownBlock ∧ some k_ ≠ (s_.2 : Value).ownBlock) (.slice Ao16 t407.length co16) t407) ∧ (Kd.R (Kd.int .u8) 5 w' w.heap.size (fun k_ => some k_ ≠ (.slice Ao16 t407.length co16 : Value).ownBlock ∧ some k_ ≠ (s_.1 : Value).ownBlock ∧ some k_ ≠ (s_.2 : Value).ownBlock) (.slice Ao17 t410.length co17) t410) ∧ (Kd.R (Kd.int .u8) 5 w' w.heap.size (fun k_ => some k_ ≠ (.slice Ao16 t407.length co16 : Value).ownBlock ∧ some k_ ≠ (.slice Ao17 t410.length co17 : Value).ownBlock ∧ some k_ ≠ (s_.2 : Value).ownBlock) s_.1 y419) ∧ (Kd.R (Kd.int .u8) 5 w' w.heap.size (fun k_ => some k_ ≠ (.slice Ao16 t407.length co16 : Value).ownBlock ∧ some k_ ≠ (.slice Ao17 t410.length co17 : Value).ownBlock ∧ some k_ ≠ (s_.1 : Value).ownBlock) s_.2 y422) ∧ (w'.heap[gb405]? = some (.cells #[.int .i64 a0_0, .int .i64 a0_1, .int .i64 a0_2, .int .i64 a0_3, .float .f64 a0_4, .slice A0_5 l0_5.length c0_5, .int .i64 a0_6, .int .i64 a0_7, .float .f64 a0_8, .slice A0_9 l0_9.length c0_9] 49 (0, 0))) ∧ (Below w.heap.size w w')) ?_ ?_
         rotate_left
         ·intro hJ9_14
          refine join_ (σ := Value) 6 #[true, true, true, true, true, false, true, true, true, false, true, true, true, true, false, true, false, false, false] (fun s_ => [(16, s_)]) (fun s_ w' => (w'.cell? ⟨gb405, 0, none⟩ = some (.int .i64 a0_0) ∧ w'.cell? ⟨gb405, 1, none⟩ = some (.int .i64 a0_1) ∧ w'.cell? ⟨gb405, 2, none⟩ = some (.int .i64 a0_2) ∧ w'.cell? ⟨gb405, 3, none⟩ = some (.int .i64 a0_3) ∧ w'.cell? ⟨gb405, 4, none⟩ = some (.float .f64 a0_4) ∧ w'.cell? ⟨gb405, 5, none⟩ = some (.slice A0_5 l0_5.length c0_5) ∧ w'.cell? ⟨gb405, 6, none⟩ = some (.int .i64 a0_6) ∧ w'.cell? ⟨gb405, 7, none⟩ = some (.int .i64 a0_7) ∧ w'.cell? ⟨gb405, 8, none⟩ = some (.float .f64 a0_8) ∧ w'.cell? ⟨gb405, 9, none⟩ = some (.slice A0_9 l0_9.length c0_9)) ∧ (Kd.R (Kd.int .u8) 5 w' w.heap.size (fun k_ => some k_ ≠ (.slice Ao17 t410.length co17 : Value).ownBlock ∧ some k_ ≠ (s_ : Value).ownBlock) (.slice Ao16 t407.length co16) t407) ∧ (Kd.R (Kd.int .u8) 5 w' w.heap.size (fun k_ => some k_ ≠ (.slice Ao16 t407.length co16 : Value).ownBlock ∧ some k_ ≠ (s_ : Value).ownBlock) (.slice Ao17 t410.length co17) t410) ∧ (Kd.R (Kd.int .u8) 5 w' w.heap.size (fun k_ => some k_ ≠ (.slice Ao16 t407.length co16 : Value).ownBlock ∧ some k_ ≠ (.slice Ao17 t410.length co17 : Value).ownBlock) s_ t413) ∧ (w'.heap[gb405]? = some (.cells #[.int .i64 a0_0, .int .i64 a0_1, .int .i64 a0_2, .int .i64 a0_3, .float .f64 a0_4, .slice A0_5 l0_5.length c0_5, .int .i64 a0_6, .int .i64 a0_7, .float .f64 a0_8, .slice A0_9 l0_9.length c0_9] 49 (0, 0))) ∧ (Below w.heap.size w w')) ?_ ?_
          rotate_left
          ·intro hJ2
           refine join_ (σ := Value) 6 #[true, true, false, true, true, false, true, true, true, true, true, true, true, true, false, true, false, false, false] (fun s_ => [(23, s_)]) (fun s_ w' => (w'.cell? ⟨gb405, 0, none⟩ = some (.int .i64 a0_0) ∧ w'.cell? ⟨gb405, 1, none⟩ = some (.int .i64 a0_1) ∧ w'.cell? ⟨gb405, 2, none⟩ = some (.int .i64 a0_2) ∧ w'.cell? ⟨gb405, 3, none⟩ = some (.int .i64 a0_3) ∧ w'.cell? ⟨gb405, 4, none⟩ = some (.float .f64 a0_4) ∧ w'.cell? ⟨gb405, 5, none⟩ = some (.slice A0_5 l0_5.length c0_5) ∧ w'.cell? ⟨gb405, 6, none⟩ = some (.int .i64 a0_6) ∧ w'.cell? ⟨gb405, 7, none⟩ = some (.int .i64 a0_7) ∧ w'.cell? ⟨gb405, 8, none⟩ = some (.float .f64 a0_8) ∧ w'.cell? ⟨gb405, 9, none⟩ = some (.slice A0_9 l0_9.length c0_9)) ∧ (Kd.R (Kd.int .u8) 5 w' w.heap.size (fun k_ => some k_ ≠ (.slice Ao17 t410.length co17 : Value).ownBlock ∧ some k_ ≠ (s_ : Value).ownBlock) (.slice Ao16 t407.length co16) t407) ∧ (Kd.R (Kd.int .u8) 5 w' w.heap.size (fun k_ => some k_ ≠ (.slice Ao16 t407.length co16 : Value).ownBlock ∧ some k_ ≠ (s_ : Value).ownBlock) (.slice Ao17 t410.length co17) t410) ∧ (Kd.R (Kd.int .u8) 5 w' w.heap.size (fun k_ => some k_ ≠ (.slice Ao16 t407.length co16 : Value).ownBlock ∧ some k_ ≠ (.slice Ao17 t410.length co17 : Value).ownBlock) s_ y419) ∧ (w'.heap[gb405]? = some (.cells #[.int .i64 a0_0, .int .i64 a0_1, .int .i64 a0_2, .int .i64 a0_3, .float .f64 a0_4, .slice A0_5 l0_5.length c0_5, .int .i64 a0_6, .int .i64 a0_7, .float .f64 a0_8, .slice A0_9 l0_9.length c0_9] 49 (0, 0))) ∧ (Below w.heap.size w w')) ?_ ?_
           rotate_left
           ·intro hJ9
            refine join_ (σ := Value) 6 #[true, true, false, true, true, false, true, true, true, false, true, true, true, true, true, true, false, false, false] (fun s_ => [(28, s_)]) (fun s_ w' => (w'.cell? ⟨gb405, 0, none⟩ = some (.int .i64 a0_0) ∧ w'.cell? ⟨gb405, 1, none⟩ = some (.int .i64 a0_1) ∧ w'.cell? ⟨gb405, 2, none⟩ = some (.int .i64 a0_2) ∧ w'.cell? ⟨gb405, 3, none⟩ = some (.int .i64 a0_3) ∧ w'.cell? ⟨gb405, 4, none⟩ = some (.float .f64 a0_4) ∧ w'.cell? ⟨gb405, 5, none⟩ = some (.slice A0_5 l0_5.length c0_5) ∧ w'.cell? ⟨gb405, 6, none⟩ = some (.int .i64 a0_6) ∧ w'.cell? ⟨gb405, 7, none⟩ = some (.int .i64 a0_7) ∧ w'.cell? ⟨gb405, 8, none⟩ = some (.float .f64 a0_8) ∧ w'.cell? ⟨gb405, 9, none⟩ = some (.slice A0_9 l0_9.length c0_9)) ∧ (Kd.R (Kd.int .u8) 5 w' w.heap.size (fun k_ => some k_ ≠ (.slice Ao17 t410.length co17 : Value).ownBlock ∧ some k_ ≠ (s_ : Value).ownBlock) (.slice Ao16 t407.length co16) t407) ∧ (Kd.R (Kd.int .u8) 5 w' w.heap.size (fun k_ => some k_ ≠ (.slice Ao16 t407.length co16 : Value).ownBlock ∧ some k_ ≠ (s_ : Value).ownBlock) (.slice Ao17 t410.length co17) t410) ∧ (Kd.R (Kd.int .u8) 5 w' w.heap.size (fun k_ => some k_ ≠ (.slice Ao16 t407.length co16 : Value).ownBlock ∧ some k_ ≠ (.slice Ao17 t410.length co17 : Value).ownBlock) s_ y422) ∧ (w'.heap[gb405]? = some (.cells #[.int .i64 a0_0, .int .i64 a0_1, .int .i64 a0_2, .int .i64 a0_3, .float .f64 a0_4, .slice A0_5 l0_5.length c0_5, .int .i64 a0_6, .int .i64 a0_7, .float .f64 a0_8, .slice A0_9 l0_9.length c0_9] 49 (0, 0))) ∧ (Below w.heap.size w w')) ?_ ?_
            rotate_left
            ·intro hJ14
             refine three_ (i := 2) (j := 9) (k := 14) (Ni := some 16) (Nj := some 23) (Nk := some 28) #[true, true, true, true, true, false, true, true, true, false, true, true, true, true, false, true, false, false, false] #[true, true, false, true, true, false, true, true, true, true, true, true, true, true, false, true, false, false, false] #[true, true, false, true, true, false, true, true, true, false, true, true, true, true, true, true, false, false, false] rfl rfl rfl rfl rfl rfl (three_of HT_.out (by kernel_rfl)) (by decide) (by decide) (by decide) (fun K hK => ?_) (fun K hK => ?_) (fun K hK => ?_)
             ·skip
              refine goes_ Try.func74 (by kernel_rfl) rfl #[.int .i64 a0_0, .int .i64 4] (by rfl) rfl rfl (by (try simp only [List.map_toArray, List.map_cons, List.map_nil]); first | done | rfl) ?_
              with_reducible refine (impl_PutNum.calls k a0_0 4 t413 _ A6.out).mono ?_
              rintro e w18 ⟨v414, rfl, ho0, hb⟩
              refine ⟨_, rfl, ?_⟩
              have n0_ := Aside0.mk (Kd.R_elder' (Kd.rup HO409.out) (Kd.R_base ho0) hb)
              have n1_ := Aside0.mk (Kd.R_elder' (Kd.rup HO412.out) (Kd.R_base ho0) hb)
              have n2_ := Aside0.mk (Kd.R_lower (Kd.R_new' (Kd.R_new' ho0 (Kd.R_lt (Kd.rup HO409.out))) (Kd.R_lt (Kd.rup HO412.out))) (below_size (hset HB.out)))
              have n3_ := Aside0.mk (blk_below (bup BK405.out) hb)
              have n4_ := Aside0.mk (below_step (hset HB.out) hb)
              clear HO409
              clear HO412
              clear BK405
              clear HB
              have HO409 := n0_
              have HO412 := n1_
              have HO415 := n2_
              have BK405 := n3_
              have HB := n4_
              clear n0_ n1_ n2_ n3_ n4_
              (try clear hb)
              (try clear hb2)
              (try clear hk)
              (try clear hi)
              (try clear ho0)
              refine hK.out _ _ (blk_cells10 BK405.out) (fun hHeld => ?_)
              clear hK K
              refine norm_ (a' := ?_) ?_ ?_
              rotate_left
              ·show Act.put _ (some 16) _ = _
               simp only [Act.put, List.setIfInBounds_toArray, List.set_cons_zero, List.set_cons_succ, i64_w, i32_w]
               rfl
              exact norm_ (by first | (simp only [putAll, Act.put, List.setIfInBounds_toArray, List.set_cons_zero, List.set_cons_succ]; done) | (simp only [putAll, Act.put, List.setIfInBounds_toArray, List.set_cons_zero, List.set_cons_succ]; rfl)) (hJ2 (v414) _ ⟨hHeld, (by exact Kd.rup (Kd.R_mono HO409.out (fun _ hk => ⟨hk.1.2, hk.2⟩))), (by exact Kd.rup (Kd.R_mono HO412.out (fun _ hk => ⟨hk.1.2, hk.2⟩))), (by exact Kd.rup (Kd.R_mono HO415.out (fun _ hk => ⟨hk.1.2, hk.2⟩))), (bup BK405.out), (hset HB.out)⟩)
             ·skip
              refine Kd.R_lit_step (Kd.int .u8) _ 5 ?hg (N := 23) ?hd (xs := ([((t407.length : Int)) % 256] : List Int)) (inner := [.int .u8 (((t407.length : Int)) % 256)]) (ok := fun _ => True) (okp := fun _ => True) ?hr ?hp (fun _ hk => hk) trivial (Below.refl _ _) (Nat.le_refl _) (by simp) ?_; (case hd => rfl); (case hg => rfl); (case hr => first | (go_simp; done) | (go_simp; rfl)); (case hp => exact (Reps.one (show Kd.M (Kd.int .u8) _ _ _ (((t407.length : Int)) % 256) [.int .u8 (((t407.length : Int)) % 256)] from rfl) (Reps.none _ _)))
              intro v420 w18 ho19 hb hg_ hnew_
              clear hg_ hnew_
              (first | rw [← Ny419.out] at ho19 | (simp only [Int.reduceToNat] at ho19; rw [← Ny419.out] at ho19))
              have n0_ := Aside0.mk (Kd.R_elder' (Kd.rup HO409.out) (Kd.R_base ho19) hb)
              have n1_ := Aside0.mk (Kd.R_elder' (Kd.rup HO412.out) (Kd.R_base ho19) hb)
              have n2_ := Aside0.mk (Kd.R_lower (Kd.R_new' (Kd.R_new' ho19 (Kd.R_lt (Kd.rup HO409.out))) (Kd.R_lt (Kd.rup HO412.out))) (below_size (hset HB.out)))
              have n3_ := Aside0.mk (blk_below (bup BK405.out) hb)
              have n4_ := Aside0.mk (below_step (hset HB.out) hb)
              clear HO409
              clear HO412
              clear BK405
              clear HB
              have HO409 := n0_
              have HO412 := n1_
              have HO421 := n2_
              have BK405 := n3_
              have HB := n4_
              clear n0_ n1_ n2_ n3_ n4_
              clear hb ho19
              refine hK.out _ _ (blk_cells10 BK405.out) (fun hHeld => ?_)
              clear hK K
              refine norm_ (a' := ?_) ?_ ?_
              rotate_left
              ·show Act.put _ (some 23) _ = _
               simp only [Act.put, List.setIfInBounds_toArray, List.set_cons_zero, List.set_cons_succ, i64_w, i32_w]
               rfl
              exact norm_ (by first | (simp only [putAll, Act.put, List.setIfInBounds_toArray, List.set_cons_zero, List.set_cons_succ]; done) | (simp only [putAll, Act.put, List.setIfInBounds_toArray, List.set_cons_zero, List.set_cons_succ]; rfl)) (hJ9 (v420) _ ⟨hHeld, (by exact Kd.rup (Kd.R_mono HO409.out (fun _ hk => ⟨hk.1.2, hk.2⟩))), (by exact Kd.rup (Kd.R_mono HO412.out (fun _ hk => ⟨hk.1.2, hk.2⟩))), (by exact Kd.rup (Kd.R_mono HO421.out (fun _ hk => ⟨hk.1.2, hk.2⟩))), (bup BK405.out), (hset HB.out)⟩)
             ·skip
              refine Kd.R_lit_step (Kd.int .u8) _ 5 ?hg (N := 28) ?hd (xs := ([((t410.length : Int)) % 256] : List Int)) (inner := [.int .u8 (((t410.length : Int)) % 256)]) (ok := fun _ => True) (okp := fun _ => True) ?hr ?hp (fun _ hk => hk) trivial (Below.refl _ _) (Nat.le_refl _) (by simp) ?_; (case hd => rfl); (case hg => rfl); (case hr => first | (go_simp; done) | (go_simp; rfl)); (case hp => exact (Reps.one (show Kd.M (Kd.int .u8) _ _ _ (((t410.length : Int)) % 256) [.int .u8 (((t410.length : Int)) % 256)] from rfl) (Reps.none _ _)))
              intro v423 w18 ho19 hb hg_ hnew_
              clear hg_ hnew_
              (first | rw [← Ny422.out] at ho19 | (simp only [Int.reduceToNat] at ho19; rw [← Ny422.out] at ho19))
              have n0_ := Aside0.mk (Kd.R_elder' (Kd.rup HO409.out) (Kd.R_base ho19) hb)
              have n1_ := Aside0.mk (Kd.R_elder' (Kd.rup HO412.out) (Kd.R_base ho19) hb)
              have n2_ := Aside0.mk (Kd.R_lower (Kd.R_new' (Kd.R_new' ho19 (Kd.R_lt (Kd.rup HO409.out))) (Kd.R_lt (Kd.rup HO412.out))) (below_size (hset HB.out)))
              have n3_ := Aside0.mk (blk_below (bup BK405.out) hb)
              have n4_ := Aside0.mk (below_step (hset HB.out) hb)
              clear HO409
              clear HO412
              clear BK405
              clear HB
              have HO409 := n0_
              have HO412 := n1_
              have HO424 := n2_
              have BK405 := n3_
              have HB := n4_
              clear n0_ n1_ n2_ n3_ n4_
              clear hb ho19
              refine hK.out _ _ (blk_cells10 BK405.out) (fun hHeld => ?_)
              clear hK K
              refine norm_ (a' := ?_) ?_ ?_
              rotate_left
              ·show Act.put _ (some 28) _ = _
               simp only [Act.put, List.setIfInBounds_toArray, List.set_cons_zero, List.set_cons_succ, i64_w, i32_w]
               rfl
              exact norm_ (by first | (simp only [putAll, Act.put, List.setIfInBounds_toArray, List.set_cons_zero, List.set_cons_succ]; done) | (simp only [putAll, Act.put, List.setIfInBounds_toArray, List.set_cons_zero, List.set_cons_succ]; rfl)) (hJ14 (v423) _ ⟨hHeld, (by exact Kd.rup (Kd.R_mono HO409.out (fun _ hk => ⟨hk.1.2, hk.2⟩))), (by exact Kd.rup (Kd.R_mono HO412.out (fun _ hk => ⟨hk.1.2, hk.2⟩))), (by exact Kd.rup (Kd.R_mono HO424.out (fun _ hk => ⟨hk.1.2, hk.2⟩))), (bup BK405.out), (hset HB.out)⟩)
            ·skip
             rintro v423 w20 ⟨hS_, h0_, h1_, h2_, h3_, h4_⟩
             have n0_ : Aside0 (Kd.R (Kd.int .u8) 5 w20 w.heap.size (fun k_ => some k_ ≠ (.slice Ao17 t410.length co17 : Value).ownBlock ∧ some k_ ≠ (v423 : Value).ownBlock) (.slice Ao16 t407.length co16) t407) := ⟨h0_⟩
             have n1_ : Aside0 (Kd.R (Kd.int .u8) 5 w20 w.heap.size (fun k_ => some k_ ≠ (.slice Ao16 t407.length co16 : Value).ownBlock ∧ some k_ ≠ (v423 : Value).ownBlock) (.slice Ao17 t410.length co17) t410) := ⟨h1_⟩
             have n2_ : Aside0 (Kd.R (Kd.int .u8) 5 w20 w.heap.size (fun k_ => some k_ ≠ (.slice Ao16 t407.length co16 : Value).ownBlock ∧ some k_ ≠ (.slice Ao17 t410.length co17 : Value).ownBlock) v423 y422) := ⟨h2_⟩
             have n3_ : Aside0 (w20.heap[gb405]? = some (.cells #[.int .i64 a0_0, .int .i64 a0_1, .int .i64 a0_2, .int .i64 a0_3, .float .f64 a0_4, .slice A0_5 l0_5.length c0_5, .int .i64 a0_6, .int .i64 a0_7, .float .f64 a0_8, .slice A0_9 l0_9.length c0_9] 49 (0, 0))) := ⟨h3_⟩
             have n4_ : Aside0 (Below w.heap.size w w20) := ⟨h4_⟩
             clear HO409
             clear HO412
             clear BK405
             clear HB
             clear h0_ h1_ h2_ h3_ h4_
             have HO409 := n0_
             have HO412 := n1_
             have HO424 := n2_
             have BK405 := n3_
             have HB := n4_
             clear n0_ n1_ n2_ n3_ n4_
             have hHeld : w20.cell? ⟨gb405, 0, none⟩ = some (.int .i64 a0_0) ∧ w20.cell? ⟨gb405, 1, none⟩ = some (.int .i64 a0_1) ∧ w20.cell? ⟨gb405, 2, none⟩ = some (.int .i64 a0_2) ∧ w20.cell? ⟨gb405, 3, none⟩ = some (.int .i64 a0_3) ∧ w20.cell? ⟨gb405, 4, none⟩ = some (.float .f64 a0_4) ∧ w20.cell? ⟨gb405, 5, none⟩ = some (.slice A0_5 l0_5.length c0_5) ∧ w20.cell? ⟨gb405, 6, none⟩ = some (.int .i64 a0_6) ∧ w20.cell? ⟨gb405, 7, none⟩ = some (.int .i64 a0_7) ∧ w20.cell? ⟨gb405, 8, none⟩ = some (.float .f64 a0_8) ∧ w20.cell? ⟨gb405, 9, none⟩ = some (.slice A0_9 l0_9.length c0_9) := hS_
             refine norm_ (a' := ?_) ?_ ?_
             rotate_left
             ·simp only [putAll, Act.put, List.setIfInBounds_toArray, List.set_cons_zero, List.set_cons_succ]
              rfl
             refine two_ (i := 2) (j := 9) (Ni := some 16) (Nj := some 23) #[true, true, true, true, true, false, true, true, true, false, true, true, true, true, true, true, false, false, false] #[true, true, false, true, true, false, true, true, true, true, true, true, true, true, true, true, false, false, false] rfl rfl rfl rfl (two_of HT_.out (by kernel_rfl)) (by decide) (by decide) (fun K hK => ?_) (fun K hK => ?_)
             ·skip
              refine goes_ Try.func74 (by kernel_rfl) rfl #[.int .i64 a0_0, .int .i64 4] (by rfl) rfl rfl (by (try simp only [List.map_toArray, List.map_cons, List.map_nil]); first | done | rfl) ?_
              with_reducible refine (impl_PutNum.calls k a0_0 4 t413 _ A6.out).mono ?_
              rintro e w21 ⟨v414, rfl, ho0, hb⟩
              refine ⟨_, rfl, ?_⟩
              have n0_ := Aside0.mk (Kd.R_elder' (Kd.rup HO409.out) (Kd.R_base ho0) hb)
              have n1_ := Aside0.mk (Kd.R_elder' (Kd.rup HO412.out) (Kd.R_base ho0) hb)
              have n2_ := Aside0.mk (Kd.R_elder' (Kd.rup HO424.out) (Kd.R_base ho0) hb)
              have n3_ := Aside0.mk (Kd.R_lower (Kd.R_new' (Kd.R_new' (Kd.R_new' ho0 (Kd.R_lt (Kd.rup HO409.out))) (Kd.R_lt (Kd.rup HO412.out))) (Kd.R_lt (Kd.rup HO424.out))) (below_size (hset HB.out)))
              have n4_ := Aside0.mk (blk_below (bup BK405.out) hb)
              have n5_ := Aside0.mk (below_step (hset HB.out) hb)
              clear HO409
              clear HO412
              clear HO424
              clear BK405
              clear HB
              have HO409 := n0_
              have HO412 := n1_
              have HO424 := n2_
              have HO415 := n3_
              have BK405 := n4_
              have HB := n5_
              clear n0_ n1_ n2_ n3_ n4_ n5_
              (try clear hb)
              (try clear hb2)
              (try clear hk)
              (try clear hi)
              (try clear ho0)
              refine hK.out _ _ (blk_cells10 BK405.out) (fun hHeld => ?_)
              clear hK K
              refine norm_ (a' := ?_) ?_ ?_
              rotate_left
              ·show Act.put _ (some 16) _ = _
               simp only [Act.put, List.setIfInBounds_toArray, List.set_cons_zero, List.set_cons_succ, i64_w, i32_w]
               rfl
              exact norm_ (by first | (simp only [putAll, Act.put, List.setIfInBounds_toArray, List.set_cons_zero, List.set_cons_succ]; done) | (simp only [putAll, Act.put, List.setIfInBounds_toArray, List.set_cons_zero, List.set_cons_succ]; rfl)) (hJ2_14 (v414, v423) _ ⟨hHeld, (by exact Kd.rup (Kd.R_mono HO409.out (fun _ hk => ⟨hk.1.1, ⟨hk.2, hk.1.2⟩⟩))), (by exact Kd.rup (Kd.R_mono HO412.out (fun _ hk => ⟨hk.1.1, ⟨hk.2, hk.1.2⟩⟩))), (by exact Kd.rup (Kd.R_mono HO415.out (fun _ hk => ⟨hk.1.1.2, ⟨hk.1.2, hk.2⟩⟩))), (by exact Kd.rup (Kd.R_mono HO424.out (fun _ hk => ⟨hk.1.1, ⟨hk.1.2, hk.2⟩⟩))), (bup BK405.out), (hset HB.out)⟩)
             ·skip
              refine Kd.R_lit_step (Kd.int .u8) _ 5 ?hg (N := 23) ?hd (xs := ([((t407.length : Int)) % 256] : List Int)) (inner := [.int .u8 (((t407.length : Int)) % 256)]) (ok := fun _ => True) (okp := fun _ => True) ?hr ?hp (fun _ hk => hk) trivial (Below.refl _ _) (Nat.le_refl _) (by simp) ?_; (case hd => rfl); (case hg => rfl); (case hr => first | (go_simp; done) | (go_simp; rfl)); (case hp => exact (Reps.one (show Kd.M (Kd.int .u8) _ _ _ (((t407.length : Int)) % 256) [.int .u8 (((t407.length : Int)) % 256)] from rfl) (Reps.none _ _)))
              intro v420 w21 ho22 hb hg_ hnew_
              clear hg_ hnew_
              (first | rw [← Ny419.out] at ho22 | (simp only [Int.reduceToNat] at ho22; rw [← Ny419.out] at ho22))
              have n0_ := Aside0.mk (Kd.R_elder' (Kd.rup HO409.out) (Kd.R_base ho22) hb)
              have n1_ := Aside0.mk (Kd.R_elder' (Kd.rup HO412.out) (Kd.R_base ho22) hb)
              have n2_ := Aside0.mk (Kd.R_elder' (Kd.rup HO424.out) (Kd.R_base ho22) hb)
              have n3_ := Aside0.mk (Kd.R_lower (Kd.R_new' (Kd.R_new' (Kd.R_new' ho22 (Kd.R_lt (Kd.rup HO409.out))) (Kd.R_lt (Kd.rup HO412.out))) (Kd.R_lt (Kd.rup HO424.out))) (below_size (hset HB.out)))
              have n4_ := Aside0.mk (blk_below (bup BK405.out) hb)
              have n5_ := Aside0.mk (below_step (hset HB.out) hb)
              clear HO409
              clear HO412
              clear HO424
              clear BK405
              clear HB
              have HO409 := n0_
              have HO412 := n1_
              have HO424 := n2_
              have HO421 := n3_
              have BK405 := n4_
              have HB := n5_
              clear n0_ n1_ n2_ n3_ n4_ n5_
              clear hb ho22
              refine hK.out _ _ (blk_cells10 BK405.out) (fun hHeld => ?_)
              clear hK K
              refine norm_ (a' := ?_) ?_ ?_
              rotate_left
              ·show Act.put _ (some 23) _ = _
               simp only [Act.put, List.setIfInBounds_toArray, List.set_cons_zero, List.set_cons_succ, i64_w, i32_w]
               rfl
              exact norm_ (by first | (simp only [putAll, Act.put, List.setIfInBounds_toArray, List.set_cons_zero, List.set_cons_succ]; done) | (simp only [putAll, Act.put, List.setIfInBounds_toArray, List.set_cons_zero, List.set_cons_succ]; rfl)) (hJ9_14 (v420, v423) _ ⟨hHeld, (by exact Kd.rup (Kd.R_mono HO409.out (fun _ hk => ⟨hk.1.1, ⟨hk.2, hk.1.2⟩⟩))), (by exact Kd.rup (Kd.R_mono HO412.out (fun _ hk => ⟨hk.1.1, ⟨hk.2, hk.1.2⟩⟩))), (by exact Kd.rup (Kd.R_mono HO421.out (fun _ hk => ⟨hk.1.1.2, ⟨hk.1.2, hk.2⟩⟩))), (by exact Kd.rup (Kd.R_mono HO424.out (fun _ hk => ⟨hk.1.1, ⟨hk.1.2, hk.2⟩⟩))), (bup BK405.out), (hset HB.out)⟩)
           ·skip
            rintro v420 w20 ⟨hS_, h0_, h1_, h2_, h3_, h4_⟩
            have n0_ : Aside0 (Kd.R (Kd.int .u8) 5 w20 w.heap.size (fun k_ => some k_ ≠ (.slice Ao17 t410.length co17 : Value).ownBlock ∧ some k_ ≠ (v420 : Value).ownBlock) (.slice Ao16 t407.length co16) t407) := ⟨h0_⟩
            have n1_ : Aside0 (Kd.R (Kd.int .u8) 5 w20 w.heap.size (fun k_ => some k_ ≠ (.slice Ao16 t407.length co16 : Value).ownBlock ∧ some k_ ≠ (v420 : Value).ownBlock) (.slice Ao17 t410.length co17) t410) := ⟨h1_⟩
            have n2_ : Aside0 (Kd.R (Kd.int .u8) 5 w20 w.heap.size (fun k_ => some k_ ≠ (.slice Ao16 t407.length co16 : Value).ownBlock ∧ some k_ ≠ (.slice Ao17 t410.length co17 : Value).ownBlock) v420 y419) := ⟨h2_⟩
            have n3_ : Aside0 (w20.heap[gb405]? = some (.cells #[.int .i64 a0_0, .int .i64 a0_1, .int .i64 a0_2, .int .i64 a0_3, .float .f64 a0_4, .slice A0_5 l0_5.length c0_5, .int .i64 a0_6, .int .i64 a0_7, .float .f64 a0_8, .slice A0_9 l0_9.length c0_9] 49 (0, 0))) := ⟨h3_⟩
            have n4_ : Aside0 (Below w.heap.size w w20) := ⟨h4_⟩
            clear HO409
            clear HO412
            clear BK405
            clear HB
            clear h0_ h1_ h2_ h3_ h4_
            have HO409 := n0_
            have HO412 := n1_
            have HO421 := n2_
            have BK405 := n3_
            have HB := n4_
            clear n0_ n1_ n2_ n3_ n4_
            have hHeld : w20.cell? ⟨gb405, 0, none⟩ = some (.int .i64 a0_0) ∧ w20.cell? ⟨gb405, 1, none⟩ = some (.int .i64 a0_1) ∧ w20.cell? ⟨gb405, 2, none⟩ = some (.int .i64 a0_2) ∧ w20.cell? ⟨gb405, 3, none⟩ = some (.int .i64 a0_3) ∧ w20.cell? ⟨gb405, 4, none⟩ = some (.float .f64 a0_4) ∧ w20.cell? ⟨gb405, 5, none⟩ = some (.slice A0_5 l0_5.length c0_5) ∧ w20.cell? ⟨gb405, 6, none⟩ = some (.int .i64 a0_6) ∧ w20.cell? ⟨gb405, 7, none⟩ = some (.int .i64 a0_7) ∧ w20.cell? ⟨gb405, 8, none⟩ = some (.float .f64 a0_8) ∧ w20.cell? ⟨gb405, 9, none⟩ = some (.slice A0_9 l0_9.length c0_9) := hS_
            refine norm_ (a' := ?_) ?_ ?_
            rotate_left
            ·simp only [putAll, Act.put, List.setIfInBounds_toArray, List.set_cons_zero, List.set_cons_succ]
             rfl
            refine two_ (i := 2) (j := 14) (Ni := some 16) (Nj := some 28) #[true, true, true, true, true, false, true, true, true, true, true, true, true, true, false, true, false, false, false] #[true, true, false, true, true, false, true, true, true, true, true, true, true, true, true, true, false, false, false] rfl rfl rfl rfl (two_of HT_.out (by kernel_rfl)) (by decide) (by decide) (fun K hK => ?_) (fun K hK => ?_)
            ·skip
             refine goes_ Try.func74 (by kernel_rfl) rfl #[.int .i64 a0_0, .int .i64 4] (by rfl) rfl rfl (by (try simp only [List.map_toArray, List.map_cons, List.map_nil]); first | done | rfl) ?_
             with_reducible refine (impl_PutNum.calls k a0_0 4 t413 _ A6.out).mono ?_
             rintro e w21 ⟨v414, rfl, ho0, hb⟩
             refine ⟨_, rfl, ?_⟩
             have n0_ := Aside0.mk (Kd.R_elder' (Kd.rup HO409.out) (Kd.R_base ho0) hb)
             have n1_ := Aside0.mk (Kd.R_elder' (Kd.rup HO412.out) (Kd.R_base ho0) hb)
             have n2_ := Aside0.mk (Kd.R_elder' (Kd.rup HO421.out) (Kd.R_base ho0) hb)
             have n3_ := Aside0.mk (Kd.R_lower (Kd.R_new' (Kd.R_new' (Kd.R_new' ho0 (Kd.R_lt (Kd.rup HO409.out))) (Kd.R_lt (Kd.rup HO412.out))) (Kd.R_lt (Kd.rup HO421.out))) (below_size (hset HB.out)))
             have n4_ := Aside0.mk (blk_below (bup BK405.out) hb)
             have n5_ := Aside0.mk (below_step (hset HB.out) hb)
             clear HO409
             clear HO412
             clear HO421
             clear BK405
             clear HB
             have HO409 := n0_
             have HO412 := n1_
             have HO421 := n2_
             have HO415 := n3_
             have BK405 := n4_
             have HB := n5_
             clear n0_ n1_ n2_ n3_ n4_ n5_
             (try clear hb)
             (try clear hb2)
             (try clear hk)
             (try clear hi)
             (try clear ho0)
             refine hK.out _ _ (blk_cells10 BK405.out) (fun hHeld => ?_)
             clear hK K
             refine norm_ (a' := ?_) ?_ ?_
             rotate_left
             ·show Act.put _ (some 16) _ = _
              simp only [Act.put, List.setIfInBounds_toArray, List.set_cons_zero, List.set_cons_succ, i64_w, i32_w]
              rfl
             exact norm_ (by first | (simp only [putAll, Act.put, List.setIfInBounds_toArray, List.set_cons_zero, List.set_cons_succ]; done) | (simp only [putAll, Act.put, List.setIfInBounds_toArray, List.set_cons_zero, List.set_cons_succ]; rfl)) (hJ2_9 (v414, v420) _ ⟨hHeld, (by exact Kd.rup (Kd.R_mono HO409.out (fun _ hk => ⟨hk.1.1, ⟨hk.2, hk.1.2⟩⟩))), (by exact Kd.rup (Kd.R_mono HO412.out (fun _ hk => ⟨hk.1.1, ⟨hk.2, hk.1.2⟩⟩))), (by exact Kd.rup (Kd.R_mono HO415.out (fun _ hk => ⟨hk.1.1.2, ⟨hk.1.2, hk.2⟩⟩))), (by exact Kd.rup (Kd.R_mono HO421.out (fun _ hk => ⟨hk.1.1, ⟨hk.1.2, hk.2⟩⟩))), (bup BK405.out), (hset HB.out)⟩)
            ·skip
             refine Kd.R_lit_step (Kd.int .u8) _ 5 ?hg (N := 28) ?hd (xs := ([((t410.length : Int)) % 256] : List Int)) (inner := [.int .u8 (((t410.length : Int)) % 256)]) (ok := fun _ => True) (okp := fun _ => True) ?hr ?hp (fun _ hk => hk) trivial (Below.refl _ _) (Nat.le_refl _) (by simp) ?_; (case hd => rfl); (case hg => rfl); (case hr => first | (go_simp; done) | (go_simp; rfl)); (case hp => exact (Reps.one (show Kd.M (Kd.int .u8) _ _ _ (((t410.length : Int)) % 256) [.int .u8 (((t410.length : Int)) % 256)] from rfl) (Reps.none _ _)))
             intro v423 w21 ho22 hb hg_ hnew_
             clear hg_ hnew_
             (first | rw [← Ny422.out] at ho22 | (simp only [Int.reduceToNat] at ho22; rw [← Ny422.out] at ho22))
             have n0_ := Aside0.mk (Kd.R_elder' (Kd.rup HO409.out) (Kd.R_base ho22) hb)
             have n1_ := Aside0.mk (Kd.R_elder' (Kd.rup HO412.out) (Kd.R_base ho22) hb)
             have n2_ := Aside0.mk (Kd.R_elder' (Kd.rup HO421.out) (Kd.R_base ho22) hb)
             have n3_ := Aside0.mk (Kd.R_lower (Kd.R_new' (Kd.R_new' (Kd.R_new' ho22 (Kd.R_lt (Kd.rup HO409.out))) (Kd.R_lt (Kd.rup HO412.out))) (Kd.R_lt (Kd.rup HO421.out))) (below_size (hset HB.out)))
             have n4_ := Aside0.mk (blk_below (bup BK405.out) hb)
             have n5_ := Aside0.mk (below_step (hset HB.out) hb)
             clear HO409
             clear HO412
             clear HO421
             clear BK405
             clear HB
             have HO409 := n0_
             have HO412 := n1_
             have HO421 := n2_
             have HO424 := n3_
             have BK405 := n4_
             have HB := n5_
             clear n0_ n1_ n2_ n3_ n4_ n5_
             clear hb ho22
             refine hK.out _ _ (blk_cells10 BK405.out) (fun hHeld => ?_)
             clear hK K
             refine norm_ (a' := ?_) ?_ ?_
             rotate_left
             ·show Act.put _ (some 28) _ = _
              simp only [Act.put, List.setIfInBounds_toArray, List.set_cons_zero, List.set_cons_succ, i64_w, i32_w]
              rfl
             exact norm_ (by first | (simp only [putAll, Act.put, List.setIfInBounds_toArray, List.set_cons_zero, List.set_cons_succ]; done) | (simp only [putAll, Act.put, List.setIfInBounds_toArray, List.set_cons_zero, List.set_cons_succ]; rfl)) (hJ9_14 (v420, v423) _ ⟨hHeld, (by exact Kd.rup (Kd.R_mono HO409.out (fun _ hk => ⟨hk.1.1, ⟨hk.1.2, hk.2⟩⟩))), (by exact Kd.rup (Kd.R_mono HO412.out (fun _ hk => ⟨hk.1.1, ⟨hk.1.2, hk.2⟩⟩))), (by exact Kd.rup (Kd.R_mono HO421.out (fun _ hk => ⟨hk.1.1, ⟨hk.1.2, hk.2⟩⟩))), (by exact Kd.rup (Kd.R_mono HO424.out (fun _ hk => ⟨hk.1.1.2, ⟨hk.1.2, hk.2⟩⟩))), (bup BK405.out), (hset HB.out)⟩)
          ·skip
           rintro v414 w19 ⟨hS_, h0_, h1_, h2_, h3_, h4_⟩
           have n0_ : Aside0 (Kd.R (Kd.int .u8) 5 w19 w.heap.size (fun k_ => some k_ ≠ (.slice Ao17 t410.length co17 : Value).ownBlock ∧ some k_ ≠ (v414 : Value).ownBlock) (.slice Ao16 t407.length co16) t407) := ⟨h0_⟩
           have n1_ : Aside0 (Kd.R (Kd.int .u8) 5 w19 w.heap.size (fun k_ => some k_ ≠ (.slice Ao16 t407.length co16 : Value).ownBlock ∧ some k_ ≠ (v414 : Value).ownBlock) (.slice Ao17 t410.length co17) t410) := ⟨h1_⟩
           have n2_ : Aside0 (Kd.R (Kd.int .u8) 5 w19 w.heap.size (fun k_ => some k_ ≠ (.slice Ao16 t407.length co16 : Value).ownBlock ∧ some k_ ≠ (.slice Ao17 t410.length co17 : Value).ownBlock) v414 t413) := ⟨h2_⟩
           have n3_ : Aside0 (w19.heap[gb405]? = some (.cells #[.int .i64 a0_0, .int .i64 a0_1, .int .i64 a0_2, .int .i64 a0_3, .float .f64 a0_4, .slice A0_5 l0_5.length c0_5, .int .i64 a0_6, .int .i64 a0_7, .float .f64 a0_8, .slice A0_9 l0_9.length c0_9] 49 (0, 0))) := ⟨h3_⟩
           have n4_ : Aside0 (Below w.heap.size w w19) := ⟨h4_⟩
           clear HO409
           clear HO412
           clear BK405
           clear HB
           clear h0_ h1_ h2_ h3_ h4_
           have HO409 := n0_
           have HO412 := n1_
           have HO415 := n2_
           have BK405 := n3_
           have HB := n4_
           clear n0_ n1_ n2_ n3_ n4_
           have hHeld : w19.cell? ⟨gb405, 0, none⟩ = some (.int .i64 a0_0) ∧ w19.cell? ⟨gb405, 1, none⟩ = some (.int .i64 a0_1) ∧ w19.cell? ⟨gb405, 2, none⟩ = some (.int .i64 a0_2) ∧ w19.cell? ⟨gb405, 3, none⟩ = some (.int .i64 a0_3) ∧ w19.cell? ⟨gb405, 4, none⟩ = some (.float .f64 a0_4) ∧ w19.cell? ⟨gb405, 5, none⟩ = some (.slice A0_5 l0_5.length c0_5) ∧ w19.cell? ⟨gb405, 6, none⟩ = some (.int .i64 a0_6) ∧ w19.cell? ⟨gb405, 7, none⟩ = some (.int .i64 a0_7) ∧ w19.cell? ⟨gb405, 8, none⟩ = some (.float .f64 a0_8) ∧ w19.cell? ⟨gb405, 9, none⟩ = some (.slice A0_9 l0_9.length c0_9) := hS_
           refine norm_ (a' := ?_) ?_ ?_
           rotate_left
           ·simp only [putAll, Act.put, List.setIfInBounds_toArray, List.set_cons_zero, List.set_cons_succ]
            rfl
           refine three_ (i := 5) (j := 9) (k := 14) (Ni := some 19) (Nj := some 23) (Nk := some 28) #[true, true, true, true, true, true, true, true, true, false, true, true, true, true, false, true, false, false, false] #[true, true, true, true, true, false, true, true, true, true, true, true, true, true, false, true, false, false, false] #[true, true, true, true, true, false, true, true, true, false, true, true, true, true, true, true, false, false, false] rfl rfl rfl rfl rfl rfl (three_of HT_.out (by kernel_rfl)) (by decide) (by decide) (by decide) (fun K hK => ?_) (fun K hK => ?_) (fun K hK => ?_)
           ·skip
            refine goes_ Try.func74 (by kernel_rfl) rfl #[.int .i64 a0_1, .int .i64 4] (by rfl) rfl rfl (by (try simp only [List.map_toArray, List.map_cons, List.map_nil]); first | done | rfl) ?_
            with_reducible refine (impl_PutNum.calls k a0_1 4 t416 _ A7.out).mono ?_
            rintro e w20 ⟨v417, rfl, ho0, hb⟩
            refine ⟨_, rfl, ?_⟩
            have n0_ := Aside0.mk (Kd.R_elder' (Kd.rup HO409.out) (Kd.R_base ho0) hb)
            have n1_ := Aside0.mk (Kd.R_elder' (Kd.rup HO412.out) (Kd.R_base ho0) hb)
            have n2_ := Aside0.mk (Kd.R_elder' (Kd.rup HO415.out) (Kd.R_base ho0) hb)
            have n3_ := Aside0.mk (Kd.R_lower (Kd.R_new' (Kd.R_new' (Kd.R_new' ho0 (Kd.R_lt (Kd.rup HO409.out))) (Kd.R_lt (Kd.rup HO412.out))) (Kd.R_lt (Kd.rup HO415.out))) (below_size (hset HB.out)))
            have n4_ := Aside0.mk (blk_below (bup BK405.out) hb)
            have n5_ := Aside0.mk (below_step (hset HB.out) hb)
            clear HO409
            clear HO412
            clear HO415
            clear BK405
            clear HB
            have HO409 := n0_
            have HO412 := n1_
            have HO415 := n2_
            have HO418 := n3_
            have BK405 := n4_
            have HB := n5_
            clear n0_ n1_ n2_ n3_ n4_ n5_
            (try clear hb)
            (try clear hb2)
            (try clear hk)
            (try clear hi)
            (try clear ho0)
            refine hK.out _ _ (blk_cells10 BK405.out) (fun hHeld => ?_)
            clear hK K
            refine norm_ (a' := ?_) ?_ ?_
            rotate_left
            ·show Act.put _ (some 19) _ = _
             simp only [Act.put, List.setIfInBounds_toArray, List.set_cons_zero, List.set_cons_succ, i64_w, i32_w]
             rfl
            exact norm_ (by first | (simp only [putAll, Act.put, List.setIfInBounds_toArray, List.set_cons_zero, List.set_cons_succ]; done) | (simp only [putAll, Act.put, List.setIfInBounds_toArray, List.set_cons_zero, List.set_cons_succ]; rfl)) (hJ2_5 (v414, v417) _ ⟨hHeld, (by exact Kd.rup (Kd.R_mono HO409.out (fun _ hk => ⟨hk.1.1, ⟨hk.1.2, hk.2⟩⟩))), (by exact Kd.rup (Kd.R_mono HO412.out (fun _ hk => ⟨hk.1.1, ⟨hk.1.2, hk.2⟩⟩))), (by exact Kd.rup (Kd.R_mono HO415.out (fun _ hk => ⟨hk.1.1, ⟨hk.1.2, hk.2⟩⟩))), (by exact Kd.rup (Kd.R_mono HO418.out (fun _ hk => ⟨hk.1.1.2, ⟨hk.1.2, hk.2⟩⟩))), (bup BK405.out), (hset HB.out)⟩)
           ·skip
            refine Kd.R_lit_step (Kd.int .u8) _ 5 ?hg (N := 23) ?hd (xs := ([((t407.length : Int)) % 256] : List Int)) (inner := [.int .u8 (((t407.length : Int)) % 256)]) (ok := fun _ => True) (okp := fun _ => True) ?hr ?hp (fun _ hk => hk) trivial (Below.refl _ _) (Nat.le_refl _) (by simp) ?_; (case hd => rfl); (case hg => rfl); (case hr => first | (go_simp; done) | (go_simp; rfl)); (case hp => exact (Reps.one (show Kd.M (Kd.int .u8) _ _ _ (((t407.length : Int)) % 256) [.int .u8 (((t407.length : Int)) % 256)] from rfl) (Reps.none _ _)))
            intro v420 w20 ho21 hb hg_ hnew_
            clear hg_ hnew_
            (first | rw [← Ny419.out] at ho21 | (simp only [Int.reduceToNat] at ho21; rw [← Ny419.out] at ho21))
            have n0_ := Aside0.mk (Kd.R_elder' (Kd.rup HO409.out) (Kd.R_base ho21) hb)
            have n1_ := Aside0.mk (Kd.R_elder' (Kd.rup HO412.out) (Kd.R_base ho21) hb)
            have n2_ := Aside0.mk (Kd.R_elder' (Kd.rup HO415.out) (Kd.R_base ho21) hb)
            have n3_ := Aside0.mk (Kd.R_lower (Kd.R_new' (Kd.R_new' (Kd.R_new' ho21 (Kd.R_lt (Kd.rup HO409.out))) (Kd.R_lt (Kd.rup HO412.out))) (Kd.R_lt (Kd.rup HO415.out))) (below_size (hset HB.out)))
            have n4_ := Aside0.mk (blk_below (bup BK405.out) hb)
            have n5_ := Aside0.mk (below_step (hset HB.out) hb)
            clear HO409
            clear HO412
            clear HO415
            clear BK405
            clear HB
            have HO409 := n0_
            have HO412 := n1_
            have HO415 := n2_
            have HO421 := n3_
            have BK405 := n4_
            have HB := n5_
            clear n0_ n1_ n2_ n3_ n4_ n5_
            clear hb ho21
            refine hK.out _ _ (blk_cells10 BK405.out) (fun hHeld => ?_)
            clear hK K
            refine norm_ (a' := ?_) ?_ ?_
            rotate_left
            ·show Act.put _ (some 23) _ = _
             simp only [Act.put, List.setIfInBounds_toArray, List.set_cons_zero, List.set_cons_succ, i64_w, i32_w]
             rfl
            exact norm_ (by first | (simp only [putAll, Act.put, List.setIfInBounds_toArray, List.set_cons_zero, List.set_cons_succ]; done) | (simp only [putAll, Act.put, List.setIfInBounds_toArray, List.set_cons_zero, List.set_cons_succ]; rfl)) (hJ2_9 (v414, v420) _ ⟨hHeld, (by exact Kd.rup (Kd.R_mono HO409.out (fun _ hk => ⟨hk.1.1, ⟨hk.1.2, hk.2⟩⟩))), (by exact Kd.rup (Kd.R_mono HO412.out (fun _ hk => ⟨hk.1.1, ⟨hk.1.2, hk.2⟩⟩))), (by exact Kd.rup (Kd.R_mono HO415.out (fun _ hk => ⟨hk.1.1, ⟨hk.1.2, hk.2⟩⟩))), (by exact Kd.rup (Kd.R_mono HO421.out (fun _ hk => ⟨hk.1.1.2, ⟨hk.1.2, hk.2⟩⟩))), (bup BK405.out), (hset HB.out)⟩)
           ·skip
            refine Kd.R_lit_step (Kd.int .u8) _ 5 ?hg (N := 28) ?hd (xs := ([((t410.length : Int)) % 256] : List Int)) (inner := [.int .u8 (((t410.length : Int)) % 256)]) (ok := fun _ => True) (okp := fun _ => True) ?hr ?hp (fun _ hk => hk) trivial (Below.refl _ _) (Nat.le_refl _) (by simp) ?_; (case hd => rfl); (case hg => rfl); (case hr => first | (go_simp; done) | (go_simp; rfl)); (case hp => exact (Reps.one (show Kd.M (Kd.int .u8) _ _ _ (((t410.length : Int)) % 256) [.int .u8 (((t410.length : Int)) % 256)] from rfl) (Reps.none _ _)))
            intro v423 w20 ho21 hb hg_ hnew_
            clear hg_ hnew_
            (first | rw [← Ny422.out] at ho21 | (simp only [Int.reduceToNat] at ho21; rw [← Ny422.out] at ho21))
            have n0_ := Aside0.mk (Kd.R_elder' (Kd.rup HO409.out) (Kd.R_base ho21) hb)
            have n1_ := Aside0.mk (Kd.R_elder' (Kd.rup HO412.out) (Kd.R_base ho21) hb)
            have n2_ := Aside0.mk (Kd.R_elder' (Kd.rup HO415.out) (Kd.R_base ho21) hb)
            have n3_ := Aside0.mk (Kd.R_lower (Kd.R_new' (Kd.R_new' (Kd.R_new' ho21 (Kd.R_lt (Kd.rup HO409.out))) (Kd.R_lt (Kd.rup HO412.out))) (Kd.R_lt (Kd.rup HO415.out))) (below_size (hset HB.out)))
            have n4_ := Aside0.mk (blk_below (bup BK405.out) hb)
            have n5_ := Aside0.mk (below_step (hset HB.out) hb)
            clear HO409
            clear HO412
            clear HO415
            clear BK405
            clear HB
            have HO409 := n0_
            have HO412 := n1_
            have HO415 := n2_
            have HO424 := n3_
            have BK405 := n4_
            have HB := n5_
            clear n0_ n1_ n2_ n3_ n4_ n5_
            clear hb ho21
            refine hK.out _ _ (blk_cells10 BK405.out) (fun hHeld => ?_)
            clear hK K
            refine norm_ (a' := ?_) ?_ ?_
            rotate_left
            ·show Act.put _ (some 28) _ = _
             simp only [Act.put, List.setIfInBounds_toArray, List.set_cons_zero, List.set_cons_succ, i64_w, i32_w]
             rfl
            exact norm_ (by first | (simp only [putAll, Act.put, List.setIfInBounds_toArray, List.set_cons_zero, List.set_cons_succ]; done) | (simp only [putAll, Act.put, List.setIfInBounds_toArray, List.set_cons_zero, List.set_cons_succ]; rfl)) (hJ2_14 (v414, v423) _ ⟨hHeld, (by exact Kd.rup (Kd.R_mono HO409.out (fun _ hk => ⟨hk.1.1, ⟨hk.1.2, hk.2⟩⟩))), (by exact Kd.rup (Kd.R_mono HO412.out (fun _ hk => ⟨hk.1.1, ⟨hk.1.2, hk.2⟩⟩))), (by exact Kd.rup (Kd.R_mono HO415.out (fun _ hk => ⟨hk.1.1, ⟨hk.1.2, hk.2⟩⟩))), (by exact Kd.rup (Kd.R_mono HO424.out (fun _ hk => ⟨hk.1.1.2, ⟨hk.1.2, hk.2⟩⟩))), (bup BK405.out), (hset HB.out)⟩)
         ·skip
          rintro ⟨v420, v423⟩ w22 ⟨hS_, h0_, h1_, h2_, h3_, h4_, h5_⟩
          have n0_ : Aside0 (Kd.R (Kd.int .u8) 5 w22 w.heap.size (fun k_ => some k_ ≠ (.slice Ao17 t410.length co17 : Value).ownBlock ∧ some k_ ≠ (v420 : Value).ownBlock ∧ some k_ ≠ (v423 : Value).ownBlock) (.slice Ao16 t407.length co16) t407) := ⟨h0_⟩
          have n1_ : Aside0 (Kd.R (Kd.int .u8) 5 w22 w.heap.size (fun k_ => some k_ ≠ (.slice Ao16 t407.length co16 : Value).ownBlock ∧ some k_ ≠ (v420 : Value).ownBlock ∧ some k_ ≠ (v423 : Value).ownBlock) (.slice Ao17 t410.length co17) t410) := ⟨h1_⟩
          have n2_ : Aside0 (Kd.R (Kd.int .u8) 5 w22 w.heap.size (fun k_ => some k_ ≠ (.slice Ao16 t407.length co16 : Value).ownBlock ∧ some k_ ≠ (.slice Ao17 t410.length co17 : Value).ownBlock ∧ some k_ ≠ (v423 : Value).ownBlock) v420 y419) := ⟨h2_⟩
          have n3_ : Aside0 (Kd.R (Kd.int .u8) 5 w22 w.heap.size (fun k_ => some k_ ≠ (.slice Ao16 t407.length co16 : Value).ownBlock ∧ some k_ ≠ (.slice Ao17 t410.length co17 : Value).ownBlock ∧ some k_ ≠ (v420 : Value).ownBlock) v423 y422) := ⟨h3_⟩
          have n4_ : Aside0 (w22.heap[gb405]? = some (.cells #[.int .i64 a0_0, .int .i64 a0_1, .int .i64 a0_2, .int .i64 a0_3, .float .f64 a0_4, .slice A0_5 l0_5.length c0_5, .int .i64 a0_6, .int .i64 a0_7, .float .f64 a0_8, .slice A0_9 l0_9.length c0_9] 49 (0, 0))) := ⟨h4_⟩
          have n5_ : Aside0 (Below w.heap.size w w22) := ⟨h5_⟩
          clear HO409
          clear HO412
          clear BK405
          clear HB
          clear h0_ h1_ h2_ h3_ h4_ h5_
          have HO409 := n0_
          have HO412 := n1_
          have HO421 := n2_
          have HO424 := n3_
          have BK405 := n4_
          have HB := n5_
          clear n0_ n1_ n2_ n3_ n4_ n5_
          have hHeld : w22.cell? ⟨gb405, 0, none⟩ = some (.int .i64 a0_0) ∧ w22.cell? ⟨gb405, 1, none⟩ = some (.int .i64 a0_1) ∧ w22.cell? ⟨gb405, 2, none⟩ = some (.int .i64 a0_2) ∧ w22.cell? ⟨gb405, 3, none⟩ = some (.int .i64 a0_3) ∧ w22.cell? ⟨gb405, 4, none⟩ = some (.float .f64 a0_4) ∧ w22.cell? ⟨gb405, 5, none⟩ = some (.slice A0_5 l0_5.length c0_5) ∧ w22.cell? ⟨gb405, 6, none⟩ = some (.int .i64 a0_6) ∧ w22.cell? ⟨gb405, 7, none⟩ = some (.int .i64 a0_7) ∧ w22.cell? ⟨gb405, 8, none⟩ = some (.float .f64 a0_8) ∧ w22.cell? ⟨gb405, 9, none⟩ = some (.slice A0_9 l0_9.length c0_9) := hS_
          refine norm_ (a' := ?_) ?_ ?_
          rotate_left
          ·simp only [putAll, Act.put, List.setIfInBounds_toArray, List.set_cons_zero, List.set_cons_succ]
           rfl
          refine one_ (i := 2) (N := some 16) #[true, true, true, true, true, false, true, true, true, true, true, true, true, true, true, true, false, false, false] rfl rfl (one_of HT_.out (by kernel_rfl)) (by decide) (fun K hK => ?_)
          refine goes_ Try.func74 (by kernel_rfl) rfl #[.int .i64 a0_0, .int .i64 4] (by rfl) rfl rfl (by (try simp only [List.map_toArray, List.map_cons, List.map_nil]); first | done | rfl) ?_
          with_reducible refine (impl_PutNum.calls k a0_0 4 t413 _ A6.out).mono ?_
          rintro e w23 ⟨v414, rfl, ho0, hb⟩
          refine ⟨_, rfl, ?_⟩
          have n0_ := Aside0.mk (Kd.R_elder' (Kd.rup HO409.out) (Kd.R_base ho0) hb)
          have n1_ := Aside0.mk (Kd.R_elder' (Kd.rup HO412.out) (Kd.R_base ho0) hb)
          have n2_ := Aside0.mk (Kd.R_elder' (Kd.rup HO421.out) (Kd.R_base ho0) hb)
          have n3_ := Aside0.mk (Kd.R_elder' (Kd.rup HO424.out) (Kd.R_base ho0) hb)
          have n4_ := Aside0.mk (Kd.R_lower (Kd.R_new' (Kd.R_new' (Kd.R_new' (Kd.R_new' ho0 (Kd.R_lt (Kd.rup HO409.out))) (Kd.R_lt (Kd.rup HO412.out))) (Kd.R_lt (Kd.rup HO421.out))) (Kd.R_lt (Kd.rup HO424.out))) (below_size (hset HB.out)))
          have n5_ := Aside0.mk (blk_below (bup BK405.out) hb)
          have n6_ := Aside0.mk (below_step (hset HB.out) hb)
          clear HO409
          clear HO412
          clear HO421
          clear HO424
          clear BK405
          clear HB
          have HO409 := n0_
          have HO412 := n1_
          have HO421 := n2_
          have HO424 := n3_
          have HO415 := n4_
          have BK405 := n5_
          have HB := n6_
          clear n0_ n1_ n2_ n3_ n4_ n5_ n6_
          (try clear hb)
          (try clear hb2)
          (try clear hk)
          (try clear hi)
          (try clear ho0)
          refine hK.out _ _ (blk_cells10 BK405.out) (fun hHeld => ?_)
          clear hK K
          refine norm_ (a' := ?_) ?_ ?_
          rotate_left
          ·show Act.put _ (some 16) _ = _
           simp only [Act.put, List.setIfInBounds_toArray, List.set_cons_zero, List.set_cons_succ, i64_w, i32_w]
           rfl
          exact norm_ (by first | (simp only [putAll, Act.put, List.setIfInBounds_toArray, List.set_cons_zero, List.set_cons_succ]; done) | (simp only [putAll, Act.put, List.setIfInBounds_toArray, List.set_cons_zero, List.set_cons_succ]; rfl)) (hJ2_9_14 (v414, v420, v423) _ ⟨hHeld, (by exact Kd.rup (Kd.R_mono HO409.out (fun _ hk => ⟨hk.1.1, ⟨hk.2, ⟨hk.1.2.1, hk.1.2.2⟩⟩⟩))), (by exact Kd.rup (Kd.R_mono HO412.out (fun _ hk => ⟨hk.1.1, ⟨hk.2, ⟨hk.1.2.1, hk.1.2.2⟩⟩⟩))), (by exact Kd.rup (Kd.R_mono HO415.out (fun _ hk => ⟨hk.1.1.1.2, ⟨hk.1.1.2, ⟨hk.1.2, hk.2⟩⟩⟩))), (by exact Kd.rup (Kd.R_mono HO421.out (fun _ hk => ⟨hk.1.1, ⟨hk.1.2.1, ⟨hk.2, hk.1.2.2⟩⟩⟩))), (by exact Kd.rup (Kd.R_mono HO424.out (fun _ hk => ⟨hk.1.1, ⟨hk.1.2.1, ⟨hk.2, hk.1.2.2⟩⟩⟩))), (bup BK405.out), (hset HB.out)⟩)
        ·skip
         rintro ⟨v414, v423⟩ w21 ⟨hS_, h0_, h1_, h2_, h3_, h4_, h5_⟩
         have n0_ : Aside0 (Kd.R (Kd.int .u8) 5 w21 w.heap.size (fun k_ => some k_ ≠ (.slice Ao17 t410.length co17 : Value).ownBlock ∧ some k_ ≠ (v414 : Value).ownBlock ∧ some k_ ≠ (v423 : Value).ownBlock) (.slice Ao16 t407.length co16) t407) := ⟨h0_⟩
         have n1_ : Aside0 (Kd.R (Kd.int .u8) 5 w21 w.heap.size (fun k_ => some k_ ≠ (.slice Ao16 t407.length co16 : Value).ownBlock ∧ some k_ ≠ (v414 : Value).ownBlock ∧ some k_ ≠ (v423 : Value).ownBlock) (.slice Ao17 t410.length co17) t410) := ⟨h1_⟩
         have n2_ : Aside0 (Kd.R (Kd.int .u8) 5 w21 w.heap.size (fun k_ => some k_ ≠ (.slice Ao16 t407.length co16 : Value).ownBlock ∧ some k_ ≠ (.slice Ao17 t410.length co17 : Value).ownBlock ∧ some k_ ≠ (v423 : Value).ownBlock) v414 t413) := ⟨h2_⟩
         have n3_ : Aside0 (Kd.R (Kd.int .u8) 5 w21 w.heap.size (fun k_ => some k_ ≠ (.slice Ao16 t407.length co16 : Value).ownBlock ∧ some k_ ≠ (.slice Ao17 t410.length co17 : Value).ownBlock ∧ some k_ ≠ (v414 : Value).ownBlock) v423 y422) := ⟨h3_⟩
         have n4_ : Aside0 (w21.heap[gb405]? = some (.cells #[.int .i64 a0_0, .int .i64 a0_1, .int .i64 a0_2, .int .i64 a0_3, .float .f64 a0_4, .slice A0_5 l0_5.length c0_5, .int .i64 a0_6, .int .i64 a0_7, .float .f64 a0_8, .slice A0_9 l0_9.length c0_9] 49 (0, 0))) := ⟨h4_⟩
         have n5_ : Aside0 (Below w.heap.size w w21) := ⟨h5_⟩
         clear HO409
         clear HO412
         clear BK405
         clear HB
         clear h0_ h1_ h2_ h3_ h4_ h5_
         have HO409 := n0_
         have HO412 := n1_
         have HO415 := n2_
         have HO424 := n3_
         have BK405 := n4_
         have HB := n5_
         clear n0_ n1_ n2_ n3_ n4_ n5_
         have hHeld : w21.cell? ⟨gb405, 0, none⟩ = some (.int .i64 a0_0) ∧ w21.cell? ⟨gb405, 1, none⟩ = some (.int .i64 a0_1) ∧ w21.cell? ⟨gb405, 2, none⟩ = some (.int .i64 a0_2) ∧ w21.cell? ⟨gb405, 3, none⟩ = some (.int .i64 a0_3) ∧ w21.cell? ⟨gb405, 4, none⟩ = some (.float .f64 a0_4) ∧ w21.cell? ⟨gb405, 5, none⟩ = some (.slice A0_5 l0_5.length c0_5) ∧ w21.cell? ⟨gb405, 6, none⟩ = some (.int .i64 a0_6) ∧ w21.cell? ⟨gb405, 7, none⟩ = some (.int .i64 a0_7) ∧ w21.cell? ⟨gb405, 8, none⟩ = some (.float .f64 a0_8) ∧ w21.cell? ⟨gb405, 9, none⟩ = some (.slice A0_9 l0_9.length c0_9) := hS_
         refine norm_ (a' := ?_) ?_ ?_
         rotate_left
         ·simp only [putAll, Act.put, List.setIfInBounds_toArray, List.set_cons_zero, List.set_cons_succ]
          rfl
         refine two_ (i := 5) (j := 9) (Ni := some 19) (Nj := some 23) #[true, true, true, true, true, true, true, true, true, false, true, true, true, true, true, true, false, false, false] #[true, true, true, true, true, false, true, true, true, true, true, true, true, true, true, true, false, false, false] rfl rfl rfl rfl (two_of HT_.out (by kernel_rfl)) (by decide) (by decide) (fun K hK => ?_) (fun K hK => ?_)
         ·skip
          refine goes_ Try.func74 (by kernel_rfl) rfl #[.int .i64 a0_1, .int .i64 4] (by rfl) rfl rfl (by (try simp only [List.map_toArray, List.map_cons, List.map_nil]); first | done | rfl) ?_
          with_reducible refine (impl_PutNum.calls k a0_1 4 t416 _ A7.out).mono ?_
          rintro e w22 ⟨v417, rfl, ho0, hb⟩
          refine ⟨_, rfl, ?_⟩
          have n0_ := Aside0.mk (Kd.R_elder' (Kd.rup HO409.out) (Kd.R_base ho0) hb)
          have n1_ := Aside0.mk (Kd.R_elder' (Kd.rup HO412.out) (Kd.R_base ho0) hb)
          have n2_ := Aside0.mk (Kd.R_elder' (Kd.rup HO415.out) (Kd.R_base ho0) hb)
          have n3_ := Aside0.mk (Kd.R_elder' (Kd.rup HO424.out) (Kd.R_base ho0) hb)
          have n4_ := Aside0.mk (Kd.R_lower (Kd.R_new' (Kd.R_new' (Kd.R_new' (Kd.R_new' ho0 (Kd.R_lt (Kd.rup HO409.out))) (Kd.R_lt (Kd.rup HO412.out))) (Kd.R_lt (Kd.rup HO415.out))) (Kd.R_lt (Kd.rup HO424.out))) (below_size (hset HB.out)))
          have n5_ := Aside0.mk (blk_below (bup BK405.out) hb)
          have n6_ := Aside0.mk (below_step (hset HB.out) hb)
          clear HO409
          clear HO412
          clear HO415
          clear HO424
          clear BK405
          clear HB
          have HO409 := n0_
          have HO412 := n1_
          have HO415 := n2_
          have HO424 := n3_
          have HO418 := n4_
          have BK405 := n5_
          have HB := n6_
          clear n0_ n1_ n2_ n3_ n4_ n5_ n6_
          (try clear hb)
          (try clear hb2)
          (try clear hk)
          (try clear hi)
          (try clear ho0)
          refine hK.out _ _ (blk_cells10 BK405.out) (fun hHeld => ?_)
          clear hK K
          refine norm_ (a' := ?_) ?_ ?_
          rotate_left
          ·show Act.put _ (some 19) _ = _
           simp only [Act.put, List.setIfInBounds_toArray, List.set_cons_zero, List.set_cons_succ, i64_w, i32_w]
           rfl
          exact norm_ (by first | (simp only [putAll, Act.put, List.setIfInBounds_toArray, List.set_cons_zero, List.set_cons_succ]; done) | (simp only [putAll, Act.put, List.setIfInBounds_toArray, List.set_cons_zero, List.set_cons_succ]; rfl)) (hJ2_5_14 (v414, v417, v423) _ ⟨hHeld, (by exact Kd.rup (Kd.R_mono HO409.out (fun _ hk => ⟨hk.1.1, ⟨hk.1.2.1, ⟨hk.2, hk.1.2.2⟩⟩⟩))), (by exact Kd.rup (Kd.R_mono HO412.out (fun _ hk => ⟨hk.1.1, ⟨hk.1.2.1, ⟨hk.2, hk.1.2.2⟩⟩⟩))), (by exact Kd.rup (Kd.R_mono HO415.out (fun _ hk => ⟨hk.1.1, ⟨hk.1.2.1, ⟨hk.2, hk.1.2.2⟩⟩⟩))), (by exact Kd.rup (Kd.R_mono HO418.out (fun _ hk => ⟨hk.1.1.1.2, ⟨hk.1.1.2, ⟨hk.1.2, hk.2⟩⟩⟩))), (by exact Kd.rup (Kd.R_mono HO424.out (fun _ hk => ⟨hk.1.1, ⟨hk.1.2.1, ⟨hk.1.2.2, hk.2⟩⟩⟩))), (bup BK405.out), (hset HB.out)⟩)
         ·skip
          refine Kd.R_lit_step (Kd.int .u8) _ 5 ?hg (N := 23) ?hd (xs := ([((t407.length : Int)) % 256] : List Int)) (inner := [.int .u8 (((t407.length : Int)) % 256)]) (ok := fun _ => True) (okp := fun _ => True) ?hr ?hp (fun _ hk => hk) trivial (Below.refl _ _) (Nat.le_refl _) (by simp) ?_; (case hd => rfl); (case hg => rfl); (case hr => first | (go_simp; done) | (go_simp; rfl)); (case hp => exact (Reps.one (show Kd.M (Kd.int .u8) _ _ _ (((t407.length : Int)) % 256) [.int .u8 (((t407.length : Int)) % 256)] from rfl) (Reps.none _ _)))
          intro v420 w22 ho23 hb hg_ hnew_
          clear hg_ hnew_
          (first | rw [← Ny419.out] at ho23 | (simp only [Int.reduceToNat] at ho23; rw [← Ny419.out] at ho23))
          have n0_ := Aside0.mk (Kd.R_elder' (Kd.rup HO409.out) (Kd.R_base ho23) hb)
          have n1_ := Aside0.mk (Kd.R_elder' (Kd.rup HO412.out) (Kd.R_base ho23) hb)
          have n2_ := Aside0.mk (Kd.R_elder' (Kd.rup HO415.out) (Kd.R_base ho23) hb)
          have n3_ := Aside0.mk (Kd.R_elder' (Kd.rup HO424.out) (Kd.R_base ho23) hb)
          have n4_ := Aside0.mk (Kd.R_lower (Kd.R_new' (Kd.R_new' (Kd.R_new' (Kd.R_new' ho23 (Kd.R_lt (Kd.rup HO409.out))) (Kd.R_lt (Kd.rup HO412.out))) (Kd.R_lt (Kd.rup HO415.out))) (Kd.R_lt (Kd.rup HO424.out))) (below_size (hset HB.out)))
          have n5_ := Aside0.mk (blk_below (bup BK405.out) hb)
          have n6_ := Aside0.mk (below_step (hset HB.out) hb)
          clear HO409
          clear HO412
          clear HO415
          clear HO424
          clear BK405
          clear HB
          have HO409 := n0_
          have HO412 := n1_
          have HO415 := n2_
          have HO424 := n3_
          have HO421 := n4_
          have BK405 := n5_
          have HB := n6_
          clear n0_ n1_ n2_ n3_ n4_ n5_ n6_
          clear hb ho23
          refine hK.out _ _ (blk_cells10 BK405.out) (fun hHeld => ?_)
          clear hK K
          refine norm_ (a' := ?_) ?_ ?_
          rotate_left
          ·show Act.put _ (some 23) _ = _
           simp only [Act.put, List.setIfInBounds_toArray, List.set_cons_zero, List.set_cons_succ, i64_w, i32_w]
           rfl
          exact norm_ (by first | (simp only [putAll, Act.put, List.setIfInBounds_toArray, List.set_cons_zero, List.set_cons_succ]; done) | (simp only [putAll, Act.put, List.setIfInBounds_toArray, List.set_cons_zero, List.set_cons_succ]; rfl)) (hJ2_9_14 (v414, v420, v423) _ ⟨hHeld, (by exact Kd.rup (Kd.R_mono HO409.out (fun _ hk => ⟨hk.1.1, ⟨hk.1.2.1, ⟨hk.2, hk.1.2.2⟩⟩⟩))), (by exact Kd.rup (Kd.R_mono HO412.out (fun _ hk => ⟨hk.1.1, ⟨hk.1.2.1, ⟨hk.2, hk.1.2.2⟩⟩⟩))), (by exact Kd.rup (Kd.R_mono HO415.out (fun _ hk => ⟨hk.1.1, ⟨hk.1.2.1, ⟨hk.2, hk.1.2.2⟩⟩⟩))), (by exact Kd.rup (Kd.R_mono HO421.out (fun _ hk => ⟨hk.1.1.1.2, ⟨hk.1.1.2, ⟨hk.1.2, hk.2⟩⟩⟩))), (by exact Kd.rup (Kd.R_mono HO424.out (fun _ hk => ⟨hk.1.1, ⟨hk.1.2.1, ⟨hk.1.2.2, hk.2⟩⟩⟩))), (bup BK405.out), (hset HB.out)⟩)
       ·skip
        rintro ⟨v414, v420⟩ w21 ⟨hS_, h0_, h1_, h2_, h3_, h4_, h5_⟩
        have n0_ : Aside0 (Kd.R (Kd.int .u8) 5 w21 w.heap.size (fun k_ => some k_ ≠ (.slice Ao17 t410.length co17 : Value).ownBlock ∧ some k_ ≠ (v414 : Value).ownBlock ∧ some k_ ≠ (v420 : Value).ownBlock) (.slice Ao16 t407.length co16) t407) := ⟨h0_⟩
        have n1_ : Aside0 (Kd.R (Kd.int .u8) 5 w21 w.heap.size (fun k_ => some k_ ≠ (.slice Ao16 t407.length co16 : Value).ownBlock ∧ some k_ ≠ (v414 : Value).ownBlock ∧ some k_ ≠ (v420 : Value).ownBlock) (.slice Ao17 t410.length co17) t410) := ⟨h1_⟩
        have n2_ : Aside0 (Kd.R (Kd.int .u8) 5 w21 w.heap.size (fun k_ => some k_ ≠ (.slice Ao16 t407.length co16 : Value).ownBlock ∧ some k_ ≠ (.slice Ao17 t410.length co17 : Value).ownBlock ∧ some k_ ≠ (v420 : Value).ownBlock) v414 t413) := ⟨h2_⟩
        have n3_ : Aside0 (Kd.R (Kd.int .u8) 5 w21 w.heap.size (fun k_ => some k_ ≠ (.slice Ao16 t407.length co16 : Value).ownBlock ∧ some k_ ≠ (.slice Ao17 t410.length co17 : Value).ownBlock ∧ some k_ ≠ (v414 : Value).ownBlock) v420 y419) := ⟨h3_⟩
        have n4_ : Aside0 (w21.heap[gb405]? = some (.cells #[.int .i64 a0_0, .int .i64 a0_1, .int .i64 a0_2, .int .i64 a0_3, .float .f64 a0_4, .slice A0_5 l0_5.length c0_5, .int .i64 a0_6, .int .i64 a0_7, .float .f64 a0_8, .slice A0_9 l0_9.length c0_9] 49 (0, 0))) := ⟨h4_⟩
        have n5_ : Aside0 (Below w.heap.size w w21) := ⟨h5_⟩
        clear HO409
        clear HO412
        clear BK405
        clear HB
        clear h0_ h1_ h2_ h3_ h4_ h5_
        have HO409 := n0_
        have HO412 := n1_
        have HO415 := n2_
        have HO421 := n3_
        have BK405 := n4_
        have HB := n5_
        clear n0_ n1_ n2_ n3_ n4_ n5_
        have hHeld : w21.cell? ⟨gb405, 0, none⟩ = some (.int .i64 a0_0) ∧ w21.cell? ⟨gb405, 1, none⟩ = some (.int .i64 a0_1) ∧ w21.cell? ⟨gb405, 2, none⟩ = some (.int .i64 a0_2) ∧ w21.cell? ⟨gb405, 3, none⟩ = some (.int .i64 a0_3) ∧ w21.cell? ⟨gb405, 4, none⟩ = some (.float .f64 a0_4) ∧ w21.cell? ⟨gb405, 5, none⟩ = some (.slice A0_5 l0_5.length c0_5) ∧ w21.cell? ⟨gb405, 6, none⟩ = some (.int .i64 a0_6) ∧ w21.cell? ⟨gb405, 7, none⟩ = some (.int .i64 a0_7) ∧ w21.cell? ⟨gb405, 8, none⟩ = some (.float .f64 a0_8) ∧ w21.cell? ⟨gb405, 9, none⟩ = some (.slice A0_9 l0_9.length c0_9) := hS_
        refine norm_ (a' := ?_) ?_ ?_
        rotate_left
        ·simp only [putAll, Act.put, List.setIfInBounds_toArray, List.set_cons_zero, List.set_cons_succ]
         rfl
        refine two_ (i := 5) (j := 14) (Ni := some 19) (Nj := some 28) #[true, true, true, true, true, true, true, true, true, true, true, true, true, true, false, true, false, false, false] #[true, true, true, true, true, false, true, true, true, true, true, true, true, true, true, true, false, false, false] rfl rfl rfl rfl (two_of HT_.out (by kernel_rfl)) (by decide) (by decide) (fun K hK => ?_) (fun K hK => ?_)
        ·skip
         refine goes_ Try.func74 (by kernel_rfl) rfl #[.int .i64 a0_1, .int .i64 4] (by rfl) rfl rfl (by (try simp only [List.map_toArray, List.map_cons, List.map_nil]); first | done | rfl) ?_
         with_reducible refine (impl_PutNum.calls k a0_1 4 t416 _ A7.out).mono ?_
         rintro e w22 ⟨v417, rfl, ho0, hb⟩
         refine ⟨_, rfl, ?_⟩
         have n0_ := Aside0.mk (Kd.R_elder' (Kd.rup HO409.out) (Kd.R_base ho0) hb)
         have n1_ := Aside0.mk (Kd.R_elder' (Kd.rup HO412.out) (Kd.R_base ho0) hb)
         have n2_ := Aside0.mk (Kd.R_elder' (Kd.rup HO415.out) (Kd.R_base ho0) hb)
         have n3_ := Aside0.mk (Kd.R_elder' (Kd.rup HO421.out) (Kd.R_base ho0) hb)
         have n4_ := Aside0.mk (Kd.R_lower (Kd.R_new' (Kd.R_new' (Kd.R_new' (Kd.R_new' ho0 (Kd.R_lt (Kd.rup HO409.out))) (Kd.R_lt (Kd.rup HO412.out))) (Kd.R_lt (Kd.rup HO415.out))) (Kd.R_lt (Kd.rup HO421.out))) (below_size (hset HB.out)))
         have n5_ := Aside0.mk (blk_below (bup BK405.out) hb)
         have n6_ := Aside0.mk (below_step (hset HB.out) hb)
         clear HO409
         clear HO412
         clear HO415
         clear HO421
         clear BK405
         clear HB
         have HO409 := n0_
         have HO412 := n1_
         have HO415 := n2_
         have HO421 := n3_
         have HO418 := n4_
         have BK405 := n5_
         have HB := n6_
         clear n0_ n1_ n2_ n3_ n4_ n5_ n6_
         (try clear hb)
         (try clear hb2)
         (try clear hk)
         (try clear hi)
         (try clear ho0)
         refine hK.out _ _ (blk_cells10 BK405.out) (fun hHeld => ?_)
         clear hK K
         refine norm_ (a' := ?_) ?_ ?_
         rotate_left
         ·show Act.put _ (some 19) _ = _
          simp only [Act.put, List.setIfInBounds_toArray, List.set_cons_zero, List.set_cons_succ, i64_w, i32_w]
          rfl
         exact norm_ (by first | (simp only [putAll, Act.put, List.setIfInBounds_toArray, List.set_cons_zero, List.set_cons_succ]; done) | (simp only [putAll, Act.put, List.setIfInBounds_toArray, List.set_cons_zero, List.set_cons_succ]; rfl)) (hJ2_5_9 (v414, v417, v420) _ ⟨hHeld, (by exact Kd.rup (Kd.R_mono HO409.out (fun _ hk => ⟨hk.1.1, ⟨hk.1.2.1, ⟨hk.2, hk.1.2.2⟩⟩⟩))), (by exact Kd.rup (Kd.R_mono HO412.out (fun _ hk => ⟨hk.1.1, ⟨hk.1.2.1, ⟨hk.2, hk.1.2.2⟩⟩⟩))), (by exact Kd.rup (Kd.R_mono HO415.out (fun _ hk => ⟨hk.1.1, ⟨hk.1.2.1, ⟨hk.2, hk.1.2.2⟩⟩⟩))), (by exact Kd.rup (Kd.R_mono HO418.out (fun _ hk => ⟨hk.1.1.1.2, ⟨hk.1.1.2, ⟨hk.1.2, hk.2⟩⟩⟩))), (by exact Kd.rup (Kd.R_mono HO421.out (fun _ hk => ⟨hk.1.1, ⟨hk.1.2.1, ⟨hk.1.2.2, hk.2⟩⟩⟩))), (bup BK405.out), (hset HB.out)⟩)
        ·skip
         refine Kd.R_lit_step (Kd.int .u8) _ 5 ?hg (N := 28) ?hd (xs := ([((t410.length : Int)) % 256] : List Int)) (inner := [.int .u8 (((t410.length : Int)) % 256)]) (ok := fun _ => True) (okp := fun _ => True) ?hr ?hp (fun _ hk => hk) trivial (Below.refl _ _) (Nat.le_refl _) (by simp) ?_; (case hd => rfl); (case hg => rfl); (case hr => first | (go_simp; done) | (go_simp; rfl)); (case hp => exact (Reps.one (show Kd.M (Kd.int .u8) _ _ _ (((t410.length : Int)) % 256) [.int .u8 (((t410.length : Int)) % 256)] from rfl) (Reps.none _ _)))
         intro v423 w22 ho23 hb hg_ hnew_
         clear hg_ hnew_
         (first | rw [← Ny422.out] at ho23 | (simp only [Int.reduceToNat] at ho23; rw [← Ny422.out] at ho23))
         have n0_ := Aside0.mk (Kd.R_elder' (Kd.rup HO409.out) (Kd.R_base ho23) hb)
         have n1_ := Aside0.mk (Kd.R_elder' (Kd.rup HO412.out) (Kd.R_base ho23) hb)
         have n2_ := Aside0.mk (Kd.R_elder' (Kd.rup HO415.out) (Kd.R_base ho23) hb)
         have n3_ := Aside0.mk (Kd.R_elder' (Kd.rup HO421.out) (Kd.R_base ho23) hb)
         have n4_ := Aside0.mk (Kd.R_lower (Kd.R_new' (Kd.R_new' (Kd.R_new' (Kd.R_new' ho23 (Kd.R_lt (Kd.rup HO409.out))) (Kd.R_lt (Kd.rup HO412.out))) (Kd.R_lt (Kd.rup HO415.out))) (Kd.R_lt (Kd.rup HO421.out))) (below_size (hset HB.out)))
         have n5_ := Aside0.mk (blk_below (bup BK405.out) hb)
         have n6_ := Aside0.mk (below_step (hset HB.out) hb)
         clear HO409
         clear HO412
         clear HO415
         clear HO421
         clear BK405
         clear HB
         have HO409 := n0_
         have HO412 := n1_
         have HO415 := n2_
         have HO421 := n3_
         have HO424 := n4_
         have BK405 := n5_
         have HB := n6_
         clear n0_ n1_ n2_ n3_ n4_ n5_ n6_
         clear hb ho23
         refine hK.out _ _ (blk_cells10 BK405.out) (fun hHeld => ?_)
         clear hK K
         refine norm_ (a' := ?_) ?_ ?_
         rotate_left
         ·show Act.put _ (some 28) _ = _
          simp only [Act.put, List.setIfInBounds_toArray, List.set_cons_zero, List.set_cons_succ, i64_w, i32_w]
          rfl
         exact norm_ (by first | (simp only [putAll, Act.put, List.setIfInBounds_toArray, List.set_cons_zero, List.set_cons_succ]; done) | (simp only [putAll, Act.put, List.setIfInBounds_toArray, List.set_cons_zero, List.set_cons_succ]; rfl)) (hJ2_9_14 (v414, v420, v423) _ ⟨hHeld, (by exact Kd.rup (Kd.R_mono HO409.out (fun _ hk => ⟨hk.1.1, ⟨hk.1.2.1, ⟨hk.1.2.2, hk.2⟩⟩⟩))), (by exact Kd.rup (Kd.R_mono HO412.out (fun _ hk => ⟨hk.1.1, ⟨hk.1.2.1, ⟨hk.1.2.2, hk.2⟩⟩⟩))), (by exact Kd.rup (Kd.R_mono HO415.out (fun _ hk => ⟨hk.1.1, ⟨hk.1.2.1, ⟨hk.1.2.2, hk.2⟩⟩⟩))), (by exact Kd.rup (Kd.R_mono HO421.out (fun _ hk => ⟨hk.1.1, ⟨hk.1.2.1, ⟨hk.1.2.2, hk.2⟩⟩⟩))), (by exact Kd.rup (Kd.R_mono HO424.out (fun _ hk => ⟨hk.1.1.1.2, ⟨hk.1.1.2, ⟨hk.1.2, hk.2⟩⟩⟩))), (bup BK405.out), (hset HB.out)⟩)
      ·skip
       rintro ⟨v414, v417⟩ w20 ⟨hS_, h0_, h1_, h2_, h3_, h4_, h5_⟩
       have n0_ : Aside0 (Kd.R (Kd.int .u8) 5 w20 w.heap.size (fun k_ => some k_ ≠ (.slice Ao17 t410.length co17 : Value).ownBlock ∧ some k_ ≠ (v414 : Value).ownBlock ∧ some k_ ≠ (v417 : Value).ownBlock) (.slice Ao16 t407.length co16) t407) := ⟨h0_⟩
       have n1_ : Aside0 (Kd.R (Kd.int .u8) 5 w20 w.heap.size (fun k_ => some k_ ≠ (.slice Ao16 t407.length co16 : Value).ownBlock ∧ some k_ ≠ (v414 : Value).ownBlock ∧ some k_ ≠ (v417 : Value).ownBlock) (.slice Ao17 t410.length co17) t410) := ⟨h1_⟩
       have n2_ : Aside0 (Kd.R (Kd.int .u8) 5 w20 w.heap.size (fun k_ => some k_ ≠ (.slice Ao16 t407.length co16 : Value).ownBlock ∧ some k_ ≠ (.slice Ao17 t410.length co17 : Value).ownBlock ∧ some k_ ≠ (v417 : Value).ownBlock) v414 t413) := ⟨h2_⟩
       have n3_ : Aside0 (Kd.R (Kd.int .u8) 5 w20 w.heap.size (fun k_ => some k_ ≠ (.slice Ao16 t407.length co16 : Value).ownBlock ∧ some k_ ≠ (.slice Ao17 t410.length co17 : Value).ownBlock ∧ some k_ ≠ (v414 : Value).ownBlock) v417 t416) := ⟨h3_⟩
       have n4_ : Aside0 (w20.heap[gb405]? = some (.cells #[.int .i64 a0_0, .int .i64 a0_1, .int .i64 a0_2, .int .i64 a0_3, .float .f64 a0_4, .slice A0_5 l0_5.length c0_5, .int .i64 a0_6, .int .i64 a0_7, .float .f64 a0_8, .slice A0_9 l0_9.length c0_9] 49 (0, 0))) := ⟨h4_⟩
       have n5_ : Aside0 (Below w.heap.size w w20) := ⟨h5_⟩
       clear HO409
       clear HO412
       clear BK405
       clear HB
       clear h0_ h1_ h2_ h3_ h4_ h5_
       have HO409 := n0_
       have HO412 := n1_
       have HO415 := n2_
       have HO418 := n3_
       have BK405 := n4_
       have HB := n5_
       clear n0_ n1_ n2_ n3_ n4_ n5_
       have hHeld : w20.cell? ⟨gb405, 0, none⟩ = some (.int .i64 a0_0) ∧ w20.cell? ⟨gb405, 1, none⟩ = some (.int .i64 a0_1) ∧ w20.cell? ⟨gb405, 2, none⟩ = some (.int .i64 a0_2) ∧ w20.cell? ⟨gb405, 3, none⟩ = some (.int .i64 a0_3) ∧ w20.cell? ⟨gb405, 4, none⟩ = some (.float .f64 a0_4) ∧ w20.cell? ⟨gb405, 5, none⟩ = some (.slice A0_5 l0_5.length c0_5) ∧ w20.cell? ⟨gb405, 6, none⟩ = some (.int .i64 a0_6) ∧ w20.cell? ⟨gb405, 7, none⟩ = some (.int .i64 a0_7) ∧ w20.cell? ⟨gb405, 8, none⟩ = some (.float .f64 a0_8) ∧ w20.cell? ⟨gb405, 9, none⟩ = some (.slice A0_9 l0_9.length c0_9) := hS_
       refine norm_ (a' := ?_) ?_ ?_
       rotate_left
       ·simp only [putAll, Act.put, List.setIfInBounds_toArray, List.set_cons_zero, List.set_cons_succ]
        rfl
       refine two_ (i := 9) (j := 14) (Ni := some 23) (Nj := some 28) #[true, true, true, true, true, true, true, true, true, true, true, true, true, true, false, true, false, false, false] #[true, true, true, true, true, true, true, true, true, false, true, true, true, true, true, true, false, false, false] rfl rfl rfl rfl (two_of HT_.out (by kernel_rfl)) (by decide) (by decide) (fun K hK => ?_) (fun K hK => ?_)
       ·skip
        refine Kd.R_lit_step (Kd.int .u8) _ 5 ?hg (N := 23) ?hd (xs := ([((t407.length : Int)) % 256] : List Int)) (inner := [.int .u8 (((t407.length : Int)) % 256)]) (ok := fun _ => True) (okp := fun _ => True) ?hr ?hp (fun _ hk => hk) trivial (Below.refl _ _) (Nat.le_refl _) (by simp) ?_; (case hd => rfl); (case hg => rfl); (case hr => first | (go_simp; done) | (go_simp; rfl)); (case hp => exact (Reps.one (show Kd.M (Kd.int .u8) _ _ _ (((t407.length : Int)) % 256) [.int .u8 (((t407.length : Int)) % 256)] from rfl) (Reps.none _ _)))
        intro v420 w21 ho22 hb hg_ hnew_
        clear hg_ hnew_
        (first | rw [← Ny419.out] at ho22 | (simp only [Int.reduceToNat] at ho22; rw [← Ny419.out] at ho22))
        have n0_ := Aside0.mk (Kd.R_elder' (Kd.rup HO409.out) (Kd.R_base ho22) hb)
        have n1_ := Aside0.mk (Kd.R_elder' (Kd.rup HO412.out) (Kd.R_base ho22) hb)
        have n2_ := Aside0.mk (Kd.R_elder' (Kd.rup HO415.out) (Kd.R_base ho22) hb)
        have n3_ := Aside0.mk (Kd.R_elder' (Kd.rup HO418.out) (Kd.R_base ho22) hb)
        have n4_ := Aside0.mk (Kd.R_lower (Kd.R_new' (Kd.R_new' (Kd.R_new' (Kd.R_new' ho22 (Kd.R_lt (Kd.rup HO409.out))) (Kd.R_lt (Kd.rup HO412.out))) (Kd.R_lt (Kd.rup HO415.out))) (Kd.R_lt (Kd.rup HO418.out))) (below_size (hset HB.out)))
        have n5_ := Aside0.mk (blk_below (bup BK405.out) hb)
        have n6_ := Aside0.mk (below_step (hset HB.out) hb)
        clear HO409
        clear HO412
        clear HO415
        clear HO418
        clear BK405
        clear HB
        have HO409 := n0_
        have HO412 := n1_
        have HO415 := n2_
        have HO418 := n3_
        have HO421 := n4_
        have BK405 := n5_
        have HB := n6_
        clear n0_ n1_ n2_ n3_ n4_ n5_ n6_
        clear hb ho22
        refine hK.out _ _ (blk_cells10 BK405.out) (fun hHeld => ?_)
        clear hK K
        refine norm_ (a' := ?_) ?_ ?_
        rotate_left
        ·show Act.put _ (some 23) _ = _
         simp only [Act.put, List.setIfInBounds_toArray, List.set_cons_zero, List.set_cons_succ, i64_w, i32_w]
         rfl
        exact norm_ (by first | (simp only [putAll, Act.put, List.setIfInBounds_toArray, List.set_cons_zero, List.set_cons_succ]; done) | (simp only [putAll, Act.put, List.setIfInBounds_toArray, List.set_cons_zero, List.set_cons_succ]; rfl)) (hJ2_5_9 (v414, v417, v420) _ ⟨hHeld, (by exact Kd.rup (Kd.R_mono HO409.out (fun _ hk => ⟨hk.1.1, ⟨hk.1.2.1, ⟨hk.1.2.2, hk.2⟩⟩⟩))), (by exact Kd.rup (Kd.R_mono HO412.out (fun _ hk => ⟨hk.1.1, ⟨hk.1.2.1, ⟨hk.1.2.2, hk.2⟩⟩⟩))), (by exact Kd.rup (Kd.R_mono HO415.out (fun _ hk => ⟨hk.1.1, ⟨hk.1.2.1, ⟨hk.1.2.2, hk.2⟩⟩⟩))), (by exact Kd.rup (Kd.R_mono HO418.out (fun _ hk => ⟨hk.1.1, ⟨hk.1.2.1, ⟨hk.1.2.2, hk.2⟩⟩⟩))), (by exact Kd.rup (Kd.R_mono HO421.out (fun _ hk => ⟨hk.1.1.1.2, ⟨hk.1.1.2, ⟨hk.1.2, hk.2⟩⟩⟩))), (bup BK405.out), (hset HB.out)⟩)
       ·skip
        refine Kd.R_lit_step (Kd.int .u8) _ 5 ?hg (N := 28) ?hd (xs := ([((t410.length : Int)) % 256] : List Int)) (inner := [.int .u8 (((t410.length : Int)) % 256)]) (ok := fun _ => True) (okp := fun _ => True) ?hr ?hp (fun _ hk => hk) trivial (Below.refl _ _) (Nat.le_refl _) (by simp) ?_; (case hd => rfl); (case hg => rfl); (case hr => first | (go_simp; done) | (go_simp; rfl)); (case hp => exact (Reps.one (show Kd.M (Kd.int .u8) _ _ _ (((t410.length : Int)) % 256) [.int .u8 (((t410.length : Int)) % 256)] from rfl) (Reps.none _ _)))
        intro v423 w21 ho22 hb hg_ hnew_
        clear hg_ hnew_
        (first | rw [← Ny422.out] at ho22 | (simp only [Int.reduceToNat] at ho22; rw [← Ny422.out] at ho22))
        have n0_ := Aside0.mk (Kd.R_elder' (Kd.rup HO409.out) (Kd.R_base ho22) hb)
        have n1_ := Aside0.mk (Kd.R_elder' (Kd.rup HO412.out) (Kd.R_base ho22) hb)
        have n2_ := Aside0.mk (Kd.R_elder' (Kd.rup HO415.out) (Kd.R_base ho22) hb)
        have n3_ := Aside0.mk (Kd.R_elder' (Kd.rup HO418.out) (Kd.R_base ho22) hb)
        have n4_ := Aside0.mk (Kd.R_lower (Kd.R_new' (Kd.R_new' (Kd.R_new' (Kd.R_new' ho22 (Kd.R_lt (Kd.rup HO409.out))) (Kd.R_lt (Kd.rup HO412.out))) (Kd.R_lt (Kd.rup HO415.out))) (Kd.R_lt (Kd.rup HO418.out))) (below_size (hset HB.out)))
        have n5_ := Aside0.mk (blk_below (bup BK405.out) hb)
        have n6_ := Aside0.mk (below_step (hset HB.out) hb)
        clear HO409
        clear HO412
        clear HO415
        clear HO418
        clear BK405
        clear HB
        have HO409 := n0_
        have HO412 := n1_
        have HO415 := n2_
        have HO418 := n3_
        have HO424 := n4_
        have BK405 := n5_
        have HB := n6_
        clear n0_ n1_ n2_ n3_ n4_ n5_ n6_
        clear hb ho22
        refine hK.out _ _ (blk_cells10 BK405.out) (fun hHeld => ?_)
        clear hK K
        refine norm_ (a' := ?_) ?_ ?_
        rotate_left
        ·show Act.put _ (some 28) _ = _
         simp only [Act.put, List.setIfInBounds_toArray, List.set_cons_zero, List.set_cons_succ, i64_w, i32_w]
         rfl
        exact norm_ (by first | (simp only [putAll, Act.put, List.setIfInBounds_toArray, List.set_cons_zero, List.set_cons_succ]; done) | (simp only [putAll, Act.put, List.setIfInBounds_toArray, List.set_cons_zero, List.set_cons_succ]; rfl)) (hJ2_5_14 (v414, v417, v423) _ ⟨hHeld, (by exact Kd.rup (Kd.R_mono HO409.out (fun _ hk => ⟨hk.1.1, ⟨hk.1.2.1, ⟨hk.1.2.2, hk.2⟩⟩⟩))), (by exact Kd.rup (Kd.R_mono HO412.out (fun _ hk => ⟨hk.1.1, ⟨hk.1.2.1, ⟨hk.1.2.2, hk.2⟩⟩⟩))), (by exact Kd.rup (Kd.R_mono HO415.out (fun _ hk => ⟨hk.1.1, ⟨hk.1.2.1, ⟨hk.1.2.2, hk.2⟩⟩⟩))), (by exact Kd.rup (Kd.R_mono HO418.out (fun _ hk => ⟨hk.1.1, ⟨hk.1.2.1, ⟨hk.1.2.2, hk.2⟩⟩⟩))), (by exact Kd.rup (Kd.R_mono HO424.out (fun _ hk => ⟨hk.1.1.1.2, ⟨hk.1.1.2, ⟨hk.1.2, hk.2⟩⟩⟩))), (bup BK405.out), (hset HB.out)⟩)
     ·skip
      rintro ⟨v414, v420, v423⟩ w23 ⟨hS_, h0_, h1_, h2_, h3_, h4_, h5_, h6_⟩
      have n0_ : Aside0 (Kd.R (Kd.int .u8) 5 w23 w.heap.size (fun k_ => some k_ ≠ (.slice Ao17 t410.length co17 : Value).ownBlock ∧ some k_ ≠ (v414 : Value).ownBlock ∧ some k_ ≠ (v420 : Value).ownBlock ∧ some k_ ≠ (v423 : Value).ownBlock) (.slice Ao16 t407.length co16) t407) := ⟨h0_⟩
      have n1_ : Aside0 (Kd.R (Kd.int .u8) 5 w23 w.heap.size (fun k_ => some k_ ≠ (.slice Ao16 t407.length co16 : Value).ownBlock ∧ some k_ ≠ (v414 : Value).ownBlock ∧ some k_ ≠ (v420 : Value).ownBlock ∧ some k_ ≠ (v423 : Value).ownBlock) (.slice Ao17 t410.length co17) t410) := ⟨h1_⟩
      have n2_ : Aside0 (Kd.R (Kd.int .u8) 5 w23 w.heap.size (fun k_ => some k_ ≠ (.slice Ao16 t407.length co16 : Value).ownBlock ∧ some k_ ≠ (.slice Ao17 t410.length co17 : Value).ownBlock ∧ some k_ ≠ (v420 : Value).ownBlock ∧ some k_ ≠ (v423 : Value).ownBlock) v414 t413) := ⟨h2_⟩
      have n3_ : Aside0 (Kd.R (Kd.int .u8) 5 w23 w.heap.size (fun k_ => some k_ ≠ (.slice Ao16 t407.length co16 : Value).ownBlock ∧ some k_ ≠ (.slice Ao17 t410.length co17 : Value).ownBlock ∧ some k_ ≠ (v414 : Value).ownBlock ∧ some k_ ≠ (v423 : Value).ownBlock) v420 y419) := ⟨h3_⟩
      have n4_ : Aside0 (Kd.R (Kd.int .u8) 5 w23 w.heap.size (fun k_ => some k_ ≠ (.slice Ao16 t407.length co16 : Value).ownBlock ∧ some k_ ≠ (.slice Ao17 t410.length co17 : Value).ownBlock ∧ some k_ ≠ (v414 : Value).ownBlock ∧ some k_ ≠ (v420 : Value).ownBlock) v423 y422) := ⟨h4_⟩
      have n5_ : Aside0 (w23.heap[gb405]? = some (.cells #[.int .i64 a0_0, .int .i64 a0_1, .int .i64 a0_2, .int .i64 a0_3, .float .f64 a0_4, .slice A0_5 l0_5.length c0_5, .int .i64 a0_6, .int .i64 a0_7, .float .f64 a0_8, .slice A0_9 l0_9.length c0_9] 49 (0, 0))) := ⟨h5_⟩
      have n6_ : Aside0 (Below w.heap.size w w23) := ⟨h6_⟩
      clear HO409
      clear HO412
      clear BK405
      clear HB
      clear h0_ h1_ h2_ h3_ h4_ h5_ h6_
      have HO409 := n0_
      have HO412 := n1_
      have HO415 := n2_
      have HO421 := n3_
      have HO424 := n4_
      have BK405 := n5_
      have HB := n6_
      clear n0_ n1_ n2_ n3_ n4_ n5_ n6_
      have hHeld : w23.cell? ⟨gb405, 0, none⟩ = some (.int .i64 a0_0) ∧ w23.cell? ⟨gb405, 1, none⟩ = some (.int .i64 a0_1) ∧ w23.cell? ⟨gb405, 2, none⟩ = some (.int .i64 a0_2) ∧ w23.cell? ⟨gb405, 3, none⟩ = some (.int .i64 a0_3) ∧ w23.cell? ⟨gb405, 4, none⟩ = some (.float .f64 a0_4) ∧ w23.cell? ⟨gb405, 5, none⟩ = some (.slice A0_5 l0_5.length c0_5) ∧ w23.cell? ⟨gb405, 6, none⟩ = some (.int .i64 a0_6) ∧ w23.cell? ⟨gb405, 7, none⟩ = some (.int .i64 a0_7) ∧ w23.cell? ⟨gb405, 8, none⟩ = some (.float .f64 a0_8) ∧ w23.cell? ⟨gb405, 9, none⟩ = some (.slice A0_9 l0_9.length c0_9) := hS_
      refine norm_ (a' := ?_) ?_ ?_
      rotate_left
      ·simp only [putAll, Act.put, List.setIfInBounds_toArray, List.set_cons_zero, List.set_cons_succ]
       rfl
      refine one_ (i := 5) (N := some 19) #[true, true, true, true, true, true, true, true, true, true, true, true, true, true, true, true, false, false, false] rfl rfl (one_of HT_.out (by kernel_rfl)) (by decide) (fun K hK => ?_)
      refine goes_ Try.func74 (by kernel_rfl) rfl #[.int .i64 a0_1, .int .i64 4] (by rfl) rfl rfl (by (try simp only [List.map_toArray, List.map_cons, List.map_nil]); first | done | rfl) ?_
      with_reducible refine (impl_PutNum.calls k a0_1 4 t416 _ A7.out).mono ?_
      rintro e w24 ⟨v417, rfl, ho0, hb⟩
      refine ⟨_, rfl, ?_⟩
      have n0_ := Aside0.mk (Kd.R_elder' (Kd.rup HO409.out) (Kd.R_base ho0) hb)
      have n1_ := Aside0.mk (Kd.R_elder' (Kd.rup HO412.out) (Kd.R_base ho0) hb)
      have n2_ := Aside0.mk (Kd.R_elder' (Kd.rup HO415.out) (Kd.R_base ho0) hb)
      have n3_ := Aside0.mk (Kd.R_elder' (Kd.rup HO421.out) (Kd.R_base ho0) hb)
      have n4_ := Aside0.mk (Kd.R_elder' (Kd.rup HO424.out) (Kd.R_base ho0) hb)
      have n5_ := Aside0.mk (Kd.R_lower (Kd.R_new' (Kd.R_new' (Kd.R_new' (Kd.R_new' (Kd.R_new' ho0 (Kd.R_lt (Kd.rup HO409.out))) (Kd.R_lt (Kd.rup HO412.out))) (Kd.R_lt (Kd.rup HO415.out))) (Kd.R_lt (Kd.rup HO421.out))) (Kd.R_lt (Kd.rup HO424.out))) (below_size (hset HB.out)))
      have n6_ := Aside0.mk (blk_below (bup BK405.out) hb)
      have n7_ := Aside0.mk (below_step (hset HB.out) hb)
      clear HO409
      clear HO412
      clear HO415
      clear HO421
      clear HO424
      clear BK405
      clear HB
      have HO409 := n0_
      have HO412 := n1_
      have HO415 := n2_
      have HO421 := n3_
      have HO424 := n4_
      have HO418 := n5_
      have BK405 := n6_
      have HB := n7_
      clear n0_ n1_ n2_ n3_ n4_ n5_ n6_ n7_
      (try clear hb)
      (try clear hb2)
      (try clear hk)
      (try clear hi)
      (try clear ho0)
      refine hK.out _ _ (blk_cells10 BK405.out) (fun hHeld => ?_)
      clear hK K
      refine norm_ (a' := ?_) ?_ ?_
      rotate_left
      ·show Act.put _ (some 19) _ = _
       simp only [Act.put, List.setIfInBounds_toArray, List.set_cons_zero, List.set_cons_succ, i64_w, i32_w]
       rfl
      exact norm_ (by first | (simp only [putAll, Act.put, List.setIfInBounds_toArray, List.set_cons_zero, List.set_cons_succ]; done) | (simp only [putAll, Act.put, List.setIfInBounds_toArray, List.set_cons_zero, List.set_cons_succ]; rfl)) (hJ2_5_9_14 (v414, v417, v420, v423) _ ⟨hHeld, (by exact Kd.rup (Kd.R_mono HO409.out (fun _ hk => ⟨hk.1.1, ⟨hk.1.2.1, ⟨hk.2, ⟨hk.1.2.2.1, hk.1.2.2.2⟩⟩⟩⟩))), (by exact Kd.rup (Kd.R_mono HO412.out (fun _ hk => ⟨hk.1.1, ⟨hk.1.2.1, ⟨hk.2, ⟨hk.1.2.2.1, hk.1.2.2.2⟩⟩⟩⟩))), (by exact Kd.rup (Kd.R_mono HO415.out (fun _ hk => ⟨hk.1.1, ⟨hk.1.2.1, ⟨hk.2, ⟨hk.1.2.2.1, hk.1.2.2.2⟩⟩⟩⟩))), (by exact Kd.rup (Kd.R_mono HO418.out (fun _ hk => ⟨hk.1.1.1.1.2, ⟨hk.1.1.1.2, ⟨hk.1.1.2, ⟨hk.1.2, hk.2⟩⟩⟩⟩))), (by exact Kd.rup (Kd.R_mono HO421.out (fun _ hk => ⟨hk.1.1, ⟨hk.1.2.1, ⟨hk.1.2.2.1, ⟨hk.2, hk.1.2.2.2⟩⟩⟩⟩))), (by exact Kd.rup (Kd.R_mono HO424.out (fun _ hk => ⟨hk.1.1, ⟨hk.1.2.1, ⟨hk.1.2.2.1, ⟨hk.2, hk.1.2.2.2⟩⟩⟩⟩))), (bup BK405.out), (hset HB.out)⟩)
    ·skip
     rintro ⟨v414, v417, v423⟩ w22 ⟨hS_, h0_, h1_, h2_, h3_, h4_, h5_, h6_⟩
     have n0_ : Aside0 (Kd.R (Kd.int .u8) 5 w22 w.heap.size (fun k_ => some k_ ≠ (.slice Ao17 t410.length co17 : Value).ownBlock ∧ some k_ ≠ (v414 : Value).ownBlock ∧ some k_ ≠ (v417 : Value).ownBlock ∧ some k_ ≠ (v423 : Value).ownBlock) (.slice Ao16 t407.length co16) t407) := ⟨h0_⟩
     have n1_ : Aside0 (Kd.R (Kd.int .u8) 5 w22 w.heap.size (fun k_ => some k_ ≠ (.slice Ao16 t407.length co16 : Value).ownBlock ∧ some k_ ≠ (v414 : Value).ownBlock ∧ some k_ ≠ (v417 : Value).ownBlock ∧ some k_ ≠ (v423 : Value).ownBlock) (.slice Ao17 t410.length co17) t410) := ⟨h1_⟩
     have n2_ : Aside0 (Kd.R (Kd.int .u8) 5 w22 w.heap.size (fun k_ => some k_ ≠ (.slice Ao16 t407.length co16 : Value).ownBlock ∧ some k_ ≠ (.slice Ao17 t410.length co17 : Value).ownBlock ∧ some k_ ≠ (v417 : Value).ownBlock ∧ some k_ ≠ (v423 : Value).ownBlock) v414 t413) := ⟨h2_⟩
     have n3_ : Aside0 (Kd.R (Kd.int .u8) 5 w22 w.heap.size (fun k_ => some k_ ≠ (.slice Ao16 t407.length co16 : Value).ownBlock ∧ some k_ ≠ (.slice Ao17 t410.length co17 : Value).ownBlock ∧ some k_ ≠ (v414 : Value).ownBlock ∧ some k_ ≠ (v423 : Value).ownBlock) v417 t416) := ⟨h3_⟩
     have n4_ : Aside0 (Kd.R (Kd.int .u8) 5 w22 w.heap.size (fun k_ => some k_ ≠ (.slice Ao16 t407.length co16 : Value).ownBlock ∧ some k_ ≠ (.slice Ao17 t410.length co17 : Value).ownBlock ∧ some k_ ≠ (v414 : Value).ownBlock ∧ some k_ ≠ (v417 : Value).ownBlock) v423 y422) := ⟨h4_⟩
     have n5_ : Aside0 (w22.heap[gb405]? = some (.cells #[.int .i64 a0_0, .int .i64 a0_1, .int .i64 a0_2, .int .i64 a0_3, .float .f64 a0_4, .slice A0_5 l0_5.length c0_5, .int .i64 a0_6, .int .i64 a0_7, .float .f64 a0_8, .slice A0_9 l0_9.length c0_9] 49 (0, 0))) := ⟨h5_⟩
     have n6_ : Aside0 (Below w.heap.size w w22) := ⟨h6_⟩
     clear HO409
     clear HO412
     clear BK405
     clear HB
     clear h0_ h1_ h2_ h3_ h4_ h5_ h6_
     have HO409 := n0_
     have HO412 := n1_
     have HO415 := n2_
     have HO418 := n3_
     have HO424 := n4_
     have BK405 := n5_
     have HB := n6_
     clear n0_ n1_ n2_ n3_ n4_ n5_ n6_
     have hHeld : w22.cell? ⟨gb405, 0, none⟩ = some (.int .i64 a0_0) ∧ w22.cell? ⟨gb405, 1, none⟩ = some (.int .i64 a0_1) ∧ w22.cell? ⟨gb405, 2, none⟩ = some (.int .i64 a0_2) ∧ w22.cell? ⟨gb405, 3, none⟩ = some (.int .i64 a0_3) ∧ w22.cell? ⟨gb405, 4, none⟩ = some (.float .f64 a0_4) ∧ w22.cell? ⟨gb405, 5, none⟩ = some (.slice A0_5 l0_5.length c0_5) ∧ w22.cell? ⟨gb405, 6, none⟩ = some (.int .i64 a0_6) ∧ w22.cell? ⟨gb405, 7, none⟩ = some (.int .i64 a0_7) ∧ w22.cell? ⟨gb405, 8, none⟩ = some (.float .f64 a0_8) ∧ w22.cell? ⟨gb405, 9, none⟩ = some (.slice A0_9 l0_9.length c0_9) := hS_
     refine norm_ (a' := ?_) ?_ ?_
     rotate_left
     ·simp only [putAll, Act.put, List.setIfInBounds_toArray, List.set_cons_zero, List.set_cons_succ]
      rfl
     refine one_ (i := 9) (N := some 23) #[true, true, true, true, true, true, true, true, true, true, true, true, true, true, true, true, false, false, false] rfl rfl (one_of HT_.out (by kernel_rfl)) (by decide) (fun K hK => ?_)
     refine Kd.R_lit_step (Kd.int .u8) _ 5 ?hg (N := 23) ?hd (xs := ([((t407.length : Int)) % 256] : List Int)) (inner := [.int .u8 (((t407.length : Int)) % 256)]) (ok := fun _ => True) (okp := fun _ => True) ?hr ?hp (fun _ hk => hk) trivial (Below.refl _ _) (Nat.le_refl _) (by simp) ?_; (case hd => rfl); (case hg => rfl); (case hr => first | (go_simp; done) | (go_simp; rfl)); (case hp => exact (Reps.one (show Kd.M (Kd.int .u8) _ _ _ (((t407.length : Int)) % 256) [.int .u8 (((t407.length : Int)) % 256)] from rfl) (Reps.none _ _)))
     intro v420 w23 ho24 hb hg_ hnew_
     clear hg_ hnew_
     (first | rw [← Ny419.out] at ho24 | (simp only [Int.reduceToNat] at ho24; rw [← Ny419.out] at ho24))
     have n0_ := Aside0.mk (Kd.R_elder' (Kd.rup HO409.out) (Kd.R_base ho24) hb)
     have n1_ := Aside0.mk (Kd.R_elder' (Kd.rup HO412.out) (Kd.R_base ho24) hb)
     have n2_ := Aside0.mk (Kd.R_elder' (Kd.rup HO415.out) (Kd.R_base ho24) hb)
     have n3_ := Aside0.mk (Kd.R_elder' (Kd.rup HO418.out) (Kd.R_base ho24) hb)
     have n4_ := Aside0.mk (Kd.R_elder' (Kd.rup HO424.out) (Kd.R_base ho24) hb)
     have n5_ := Aside0.mk (Kd.R_lower (Kd.R_new' (Kd.R_new' (Kd.R_new' (Kd.R_new' (Kd.R_new' ho24 (Kd.R_lt (Kd.rup HO409.out))) (Kd.R_lt (Kd.rup HO412.out))) (Kd.R_lt (Kd.rup HO415.out))) (Kd.R_lt (Kd.rup HO418.out))) (Kd.R_lt (Kd.rup HO424.out))) (below_size (hset HB.out)))
     have n6_ := Aside0.mk (blk_below (bup BK405.out) hb)
     have n7_ := Aside0.mk (below_step (hset HB.out) hb)
     clear HO409
     clear HO412
     clear HO415
     clear HO418
     clear HO424
     clear BK405
     clear HB
     have HO409 := n0_
     have HO412 := n1_
     have HO415 := n2_
     have HO418 := n3_
     have HO424 := n4_
     have HO421 := n5_
     have BK405 := n6_
     have HB := n7_
     clear n0_ n1_ n2_ n3_ n4_ n5_ n6_ n7_
     clear hb ho24
     refine hK.out _ _ (blk_cells10 BK405.out) (fun hHeld => ?_)
     clear hK K
     refine norm_ (a' := ?_) ?_ ?_
     rotate_left
     ·show Act.put _ (some 23) _ = _
      simp only [Act.put, List.setIfInBounds_toArray, List.set_cons_zero, List.set_cons_succ, i64_w, i32_w]
      rfl
     exact norm_ (by first | (simp only [putAll, Act.put, List.setIfInBounds_toArray, List.set_cons_zero, List.set_cons_succ]; done) | (simp only [putAll, Act.put, List.setIfInBounds_toArray, List.set_cons_zero, List.set_cons_succ]; rfl)) (hJ2_5_9_14 (v414, v417, v420, v423) _ ⟨hHeld, (by exact Kd.rup (Kd.R_mono HO409.out (fun _ hk => ⟨hk.1.1, ⟨hk.1.2.1, ⟨hk.1.2.2.1, ⟨hk.2, hk.1.2.2.2⟩⟩⟩⟩))), (by exact Kd.rup (Kd.R_mono HO412.out (fun _ hk => ⟨hk.1.1, ⟨hk.1.2.1, ⟨hk.1.2.2.1, ⟨hk.2, hk.1.2.2.2⟩⟩⟩⟩))), (by exact Kd.rup (Kd.R_mono HO415.out (fun _ hk => ⟨hk.1.1, ⟨hk.1.2.1, ⟨hk.1.2.2.1, ⟨hk.2, hk.1.2.2.2⟩⟩⟩⟩))), (by exact Kd.rup (Kd.R_mono HO418.out (fun _ hk => ⟨hk.1.1, ⟨hk.1.2.1, ⟨hk.1.2.2.1, ⟨hk.2, hk.1.2.2.2⟩⟩⟩⟩))), (by exact Kd.rup (Kd.R_mono HO421.out (fun _ hk => ⟨hk.1.1.1.1.2, ⟨hk.1.1.1.2, ⟨hk.1.1.2, ⟨hk.1.2, hk.2⟩⟩⟩⟩))), (by exact Kd.rup (Kd.R_mono HO424.out (fun _ hk => ⟨hk.1.1, ⟨hk.1.2.1, ⟨hk.1.2.2.1, ⟨hk.1.2.2.2, hk.2⟩⟩⟩⟩))), (bup BK405.out), (hset HB.out)⟩)
   ·skip
    rintro ⟨v414, v417, v420⟩ w22 ⟨hS_, h0_, h1_, h2_, h3_, h4_, h5_, h6_⟩
    have n0_ : Aside0 (Kd.R (Kd.int .u8) 5 w22 w.heap.size (fun k_ => some k_ ≠ (.slice Ao17 t410.length co17 : Value).ownBlock ∧ some k_ ≠ (v414 : Value).ownBlock ∧ some k_ ≠ (v417 : Value).ownBlock ∧ some k_ ≠ (v420 : Value).ownBlock) (.slice Ao16 t407.length co16) t407) := ⟨h0_⟩
    have n1_ : Aside0 (Kd.R (Kd.int .u8) 5 w22 w.heap.size (fun k_ => some k_ ≠ (.slice Ao16 t407.length co16 : Value).ownBlock ∧ some k_ ≠ (v414 : Value).ownBlock ∧ some k_ ≠ (v417 : Value).ownBlock ∧ some k_ ≠ (v420 : Value).ownBlock) (.slice Ao17 t410.length co17) t410) := ⟨h1_⟩
    have n2_ : Aside0 (Kd.R (Kd.int .u8) 5 w22 w.heap.size (fun k_ => some k_ ≠ (.slice Ao16 t407.length co16 : Value).ownBlock ∧ some k_ ≠ (.slice Ao17 t410.length co17 : Value).ownBlock ∧ some k_ ≠ (v417 : Value).ownBlock ∧ some k_ ≠ (v420 : Value).ownBlock) v414 t413) := ⟨h2_⟩
    have n3_ : Aside0 (Kd.R (Kd.int .u8) 5 w22 w.heap.size (fun k_ => some k_ ≠ (.slice Ao16 t407.length co16 : Value).ownBlock ∧ some k_ ≠ (.slice Ao17 t410.length co17 : Value).ownBlock ∧ some k_ ≠ (v414 : Value).ownBlock ∧ some k_ ≠ (v420 : Value).ownBlock) v417 t416) := ⟨h3_⟩
    have n4_ : Aside0 (Kd.R (Kd.int .u8) 5 w22 w.heap.size (fun k_ => some k_ ≠ (.slice Ao16 t407.length co16 : Value).ownBlock ∧ some k_ ≠ (.slice Ao17 t410.length co17 : Value).ownBlock ∧ some k_ ≠ (v414 : Value).ownBlock ∧ some k_ ≠ (v417 : Value).ownBlock) v420 y419) := ⟨h4_⟩
    have n5_ : Aside0 (w22.heap[gb405]? = some (.cells #[.int .i64 a0_0, .int .i64 a0_1, .int .i64 a0_2, .int .i64 a0_3, .float .f64 a0_4, .slice A0_5 l0_5.length c0_5, .int .i64 a0_6, .int .i64 a0_7, .float .f64 a0_8, .slice A0_9 l0_9.length c0_9] 49 (0, 0))) := ⟨h5_⟩
    have n6_ : Aside0 (Below w.heap.size w w22) := ⟨h6_⟩
    clear HO409
    clear HO412
    clear BK405
    clear HB
    clear h0_ h1_ h2_ h3_ h4_ h5_ h6_
    have HO409 := n0_
    have HO412 := n1_
    have HO415 := n2_
    have HO418 := n3_
    have HO421 := n4_
    have BK405 := n5_
    have HB := n6_
    clear n0_ n1_ n2_ n3_ n4_ n5_ n6_
    have hHeld : w22.cell? ⟨gb405, 0, none⟩ = some (.int .i64 a0_0) ∧ w22.cell? ⟨gb405, 1, none⟩ = some (.int .i64 a0_1) ∧ w22.cell? ⟨gb405, 2, none⟩ = some (.int .i64 a0_2) ∧ w22.cell? ⟨gb405, 3, none⟩ = some (.int .i64 a0_3) ∧ w22.cell? ⟨gb405, 4, none⟩ = some (.float .f64 a0_4) ∧ w22.cell? ⟨gb405, 5, none⟩ = some (.slice A0_5 l0_5.length c0_5) ∧ w22.cell? ⟨gb405, 6, none⟩ = some (.int .i64 a0_6) ∧ w22.cell? ⟨gb405, 7, none⟩ = some (.int .i64 a0_7) ∧ w22.cell? ⟨gb405, 8, none⟩ = some (.float .f64 a0_8) ∧ w22.cell? ⟨gb405, 9, none⟩ = some (.slice A0_9 l0_9.length c0_9) := hS_
    refine norm_ (a' := ?_) ?_ ?_
    rotate_left
    ·simp only [putAll, Act.put, List.setIfInBounds_toArray, List.set_cons_zero, List.set_cons_succ]
     rfl
    refine one_ (i := 14) (N := some 28) #[true, true, true, true, true, true, true, true, true, true, true, true, true, true, true, true, false, false, false] rfl rfl (one_of HT_.out (by kernel_rfl)) (by decide) (fun K hK => ?_)
    refine Kd.R_lit_step (Kd.int .u8) _ 5 ?hg (N := 28) ?hd (xs := ([((t410.length : Int)) % 256] : List Int)) (inner := [.int .u8 (((t410.length : Int)) % 256)]) (ok := fun _ => True) (okp := fun _ => True) ?hr ?hp (fun _ hk => hk) trivial (Below.refl _ _) (Nat.le_refl _) (by simp) ?_; (case hd => rfl); (case hg => rfl); (case hr => first | (go_simp; done) | (go_simp; rfl)); (case hp => exact (Reps.one (show Kd.M (Kd.int .u8) _ _ _ (((t410.length : Int)) % 256) [.int .u8 (((t410.length : Int)) % 256)] from rfl) (Reps.none _ _)))
    intro v423 w23 ho24 hb hg_ hnew_
    clear hg_ hnew_
    (first | rw [← Ny422.out] at ho24 | (simp only [Int.reduceToNat] at ho24; rw [← Ny422.out] at ho24))
    have n0_ := Aside0.mk (Kd.R_elder' (Kd.rup HO409.out) (Kd.R_base ho24) hb)
    have n1_ := Aside0.mk (Kd.R_elder' (Kd.rup HO412.out) (Kd.R_base ho24) hb)
    have n2_ := Aside0.mk (Kd.R_elder' (Kd.rup HO415.out) (Kd.R_base ho24) hb)
    have n3_ := Aside0.mk (Kd.R_elder' (Kd.rup HO418.out) (Kd.R_base ho24) hb)
    have n4_ := Aside0.mk (Kd.R_elder' (Kd.rup HO421.out) (Kd.R_base ho24) hb)
    have n5_ := Aside0.mk (Kd.R_lower (Kd.R_new' (Kd.R_new' (Kd.R_new' (Kd.R_new' (Kd.R_new' ho24 (Kd.R_lt (Kd.rup HO409.out))) (Kd.R_lt (Kd.rup HO412.out))) (Kd.R_lt (Kd.rup HO415.out))) (Kd.R_lt (Kd.rup HO418.out))) (Kd.R_lt (Kd.rup HO421.out))) (below_size (hset HB.out)))
    have n6_ := Aside0.mk (blk_below (bup BK405.out) hb)
    have n7_ := Aside0.mk (below_step (hset HB.out) hb)
    clear HO409
    clear HO412
    clear HO415
    clear HO418
    clear HO421
    clear BK405
    clear HB
    have HO409 := n0_
    have HO412 := n1_
    have HO415 := n2_
    have HO418 := n3_
    have HO421 := n4_
    have HO424 := n5_
    have BK405 := n6_
    have HB := n7_
    clear n0_ n1_ n2_ n3_ n4_ n5_ n6_ n7_
    clear hb ho24
    refine hK.out _ _ (blk_cells10 BK405.out) (fun hHeld => ?_)
    clear hK K
    refine norm_ (a' := ?_) ?_ ?_
    rotate_left
    ·show Act.put _ (some 28) _ = _
     simp only [Act.put, List.setIfInBounds_toArray, List.set_cons_zero, List.set_cons_succ, i64_w, i32_w]
     rfl
    exact norm_ (by first | (simp only [putAll, Act.put, List.setIfInBounds_toArray, List.set_cons_zero, List.set_cons_succ]; done) | (simp only [putAll, Act.put, List.setIfInBounds_toArray, List.set_cons_zero, List.set_cons_succ]; rfl)) (hJ2_5_9_14 (v414, v417, v420, v423) _ ⟨hHeld, (by exact Kd.rup (Kd.R_mono HO409.out (fun _ hk => ⟨hk.1.1, ⟨hk.1.2.1, ⟨hk.1.2.2.1, ⟨hk.1.2.2.2, hk.2⟩⟩⟩⟩))), (by exact Kd.rup (Kd.R_mono HO412.out (fun _ hk => ⟨hk.1.1, ⟨hk.1.2.1, ⟨hk.1.2.2.1, ⟨hk.1.2.2.2, hk.2⟩⟩⟩⟩))), (by exact Kd.rup (Kd.R_mono HO415.out (fun _ hk => ⟨hk.1.1, ⟨hk.1.2.1, ⟨hk.1.2.2.1, ⟨hk.1.2.2.2, hk.2⟩⟩⟩⟩))), (by exact Kd.rup (Kd.R_mono HO418.out (fun _ hk => ⟨hk.1.1, ⟨hk.1.2.1, ⟨hk.1.2.2.1, ⟨hk.1.2.2.2, hk.2⟩⟩⟩⟩))), (by exact Kd.rup (Kd.R_mono HO421.out (fun _ hk => ⟨hk.1.1, ⟨hk.1.2.1, ⟨hk.1.2.2.1, ⟨hk.1.2.2.2, hk.2⟩⟩⟩⟩))), (by exact Kd.rup (Kd.R_mono HO424.out (fun _ hk => ⟨hk.1.1.1.1.2, ⟨hk.1.1.1.2, ⟨hk.1.1.2, ⟨hk.1.2, hk.2⟩⟩⟩⟩))), (bup BK405.out), (hset HB.out)⟩)
  rintro ⟨v414, v417, v420, v423⟩ w24 ⟨hS_, h0_, h1_, h2_, h3_, h4_, h5_, h6_, h7_⟩
  have n0_ : Aside0 (Kd.R (Kd.int .u8) 5 w24 w.heap.size (fun k_ => some k_ ≠ (.slice Ao17 t410.length co17 : Value).ownBlock ∧ some k_ ≠ (v414 : Value).ownBlock ∧ some k_ ≠ (v417 : Value).ownBlock ∧ some k_ ≠ (v420 : Value).ownBlock ∧ some k_ ≠ (v423 : Value).ownBlock) (.slice Ao16 t407.length co16) t407) := ⟨h0_⟩
  have n1_ : Aside0 (Kd.R (Kd.int .u8) 5 w24 w.heap.size (fun k_ => some k_ ≠ (.slice Ao16 t407.length co16 : Value).ownBlock ∧ some k_ ≠ (v414 : Value).ownBlock ∧ some k_ ≠ (v417 : Value).ownBlock ∧ some k_ ≠ (v420 : Value).ownBlock ∧ some k_ ≠ (v423 : Value).ownBlock) (.slice Ao17 t410.length co17) t410) := ⟨h1_⟩
  have n2_ : Aside0 (Kd.R (Kd.int .u8) 5 w24 w.heap.size (fun k_ => some k_ ≠ (.slice Ao16 t407.length co16 : Value).ownBlock ∧ some k_ ≠ (.slice Ao17 t410.length co17 : Value).ownBlock ∧ some k_ ≠ (v417 : Value).ownBlock ∧ some k_ ≠ (v420 : Value).ownBlock ∧ some k_ ≠ (v423 : Value).ownBlock) v414 t413) := ⟨h2_⟩
  have n3_ : Aside0 (Kd.R (Kd.int .u8) 5 w24 w.heap.size (fun k_ => some k_ ≠ (.slice Ao16 t407.length co16 : Value).ownBlock ∧ some k_ ≠ (.slice Ao17 t410.length co17 : Value).ownBlock ∧ some k_ ≠ (v414 : Value).ownBlock ∧ some k_ ≠ (v420 : Value).ownBlock ∧ some k_ ≠ (v423 : Value).ownBlock) v417 t416) := ⟨h3_⟩
  have n4_ : Aside0 (Kd.R (Kd.int .u8) 5 w24 w.heap.size (fun k_ => some k_ ≠ (.slice Ao16 t407.length co16 : Value).ownBlock ∧ some k_ ≠ (.slice Ao17 t410.length co17 : Value).ownBlock ∧ some k_ ≠ (v414 : Value).ownBlock ∧ some k_ ≠ (v417 : Value).ownBlock ∧ some k_ ≠ (v423 : Value).ownBlock) v420 y419) := ⟨h4_⟩
  have n5_ : Aside0 (Kd.R (Kd.int .u8) 5 w24 w.heap.size (fun k_ => some k_ ≠ (.slice Ao16 t407.length co16 : Value).ownBlock ∧ some k_ ≠ (.slice Ao17 t410.length co17 : Value).ownBlock ∧ some k_ ≠ (v414 : Value).ownBlock ∧ some k_ ≠ (v417 : Value).ownBlock ∧ some k_ ≠ (v420 : Value).ownBlock) v423 y422) := ⟨h5_⟩
  have n6_ : Aside0 (w24.heap[gb405]? = some (.cells #[.int .i64 a0_0, .int .i64 a0_1, .int .i64 a0_2, .int .i64 a0_3, .float .f64 a0_4, .slice A0_5 l0_5.length c0_5, .int .i64 a0_6, .int .i64 a0_7, .float .f64 a0_8, .slice A0_9 l0_9.length c0_9] 49 (0, 0))) := ⟨h6_⟩
  have n7_ : Aside0 (Below w.heap.size w w24) := ⟨h7_⟩
  clear HO409
  clear HO412
  clear BK405
  clear HB
  clear h0_ h1_ h2_ h3_ h4_ h5_ h6_ h7_
  have HO409 := n0_
  have HO412 := n1_
  have HO415 := n2_
  have HO418 := n3_
  have HO421 := n4_
  have HO424 := n5_
  have BK405 := n6_
  have HB := n7_
  clear n0_ n1_ n2_ n3_ n4_ n5_ n6_ n7_
  have hHeld : w24.cell? ⟨gb405, 0, none⟩ = some (.int .i64 a0_0) ∧ w24.cell? ⟨gb405, 1, none⟩ = some (.int .i64 a0_1) ∧ w24.cell? ⟨gb405, 2, none⟩ = some (.int .i64 a0_2) ∧ w24.cell? ⟨gb405, 3, none⟩ = some (.int .i64 a0_3) ∧ w24.cell? ⟨gb405, 4, none⟩ = some (.float .f64 a0_4) ∧ w24.cell? ⟨gb405, 5, none⟩ = some (.slice A0_5 l0_5.length c0_5) ∧ w24.cell? ⟨gb405, 6, none⟩ = some (.int .i64 a0_6) ∧ w24.cell? ⟨gb405, 7, none⟩ = some (.int .i64 a0_7) ∧ w24.cell? ⟨gb405, 8, none⟩ = some (.float .f64 a0_8) ∧ w24.cell? ⟨gb405, 9, none⟩ = some (.slice A0_9 l0_9.length c0_9) := hS_
  obtain ⟨Ao25, co25, eo25⟩ := Kd.R_slice HO415.out
  (first | subst eo25 | (injection eo25 with f1_ f2_ f3_; have f4_ := f1_.symm; have f5_ := f3_.symm; clear f1_ f2_ f3_; subst f4_; subst f5_))
  obtain ⟨Ao26, co26, eo26⟩ := Kd.R_slice HO418.out
  (first | subst eo26 | (injection eo26 with f1_ f2_ f3_; have f4_ := f1_.symm; have f5_ := f3_.symm; clear f1_ f2_ f3_; subst f4_; subst f5_))
  obtain ⟨Ao27, co27, eo27⟩ := Kd.R_slice HO421.out
  (first | subst eo27 | (injection eo27 with f1_ f2_ f3_; have f4_ := f1_.symm; have f5_ := f3_.symm; clear f1_ f2_ f3_; subst f4_; subst f5_))
  obtain ⟨Ao28, co28, eo28⟩ := Kd.R_slice HO424.out
  (first | subst eo28 | (injection eo28 with f1_ f2_ f3_; have f4_ := f1_.symm; have f5_ := f3_.symm; clear f1_ f2_ f3_; subst f4_; subst f5_))
  refine norm_ (a' := ?_) ?_ ?_
  rotate_left
  ·simp only [putAll, Act.put, List.setIfInBounds_toArray, List.set_cons_zero, List.set_cons_succ]
   rfl
  refine one_ (i := 16) (N := some 30) #[true, true, true, true, true, true, true, true, true, true, true, true, true, true, true, true, true, false, false] rfl rfl (one_of HT_.out (by kernel_rfl)) (by decide) (fun K hK => ?_)
  refine Kd.N_lit_step (Kd.slice 5 (Kd.int .u8)) _ 22 ?hg (N' := 30) ?hd (xs := ([t413, t416, y419, t407, y422, t410] : List (List Int))) (inner := [.slice Ao25 t413.length co25, .slice Ao26 t416.length co26, .slice Ao27 y419.length co27, .slice Ao16 t407.length co16, .slice Ao28 y422.length co28, .slice Ao17 t410.length co17]) (ok := (fun k_ => k_ ≠ gb405)) (okp := (fun k_ => k_ ≠ gb405)) ?hr ?hp (fun _ hk => hk) ((show ∀ k_, w24.heap.size ≤ k_ → (fun k_ => k_ ≠ gb405) k_ from fun k_ hk => Kd.freshB (g := gb405) (o := .cells #[.int .i64 a0_0, .int .i64 a0_1, .int .i64 a0_2, .int .i64 a0_3, .float .f64 a0_4, .slice A0_5 l0_5.length c0_5, .int .i64 a0_6, .int .i64 a0_7, .float .f64 a0_8, .slice A0_9 l0_9.length c0_9] 49 (0, 0)) (bup BK405.out) k_ hk) _ (Nat.le_refl _)) (Below.refl _ _) (Nat.le_refl _) (by simp) ?_; (case hd => rfl); (case hg => rfl); (case hr => first | (go_simp; done) | (go_simp; rfl)); (case hp => exact (Reps.one (show Kd.FK (Kd.slice 5 (Kd.int .u8)) _ _ t413 [.slice Ao25 t413.length co25] from (Kd.FK_slice_mk (Kd.R_reads' (Kd.R_mono (ok' := (fun k_ => k_ ≠ gb405)) (Kd.R_types (HO415.out) BK405.out (by decide)) (fun k_ hk => hk.2))).2.1 (Kd.R_F (Kd.R_mono (ok' := (fun k_ => k_ ≠ gb405)) (Kd.R_types (HO415.out) BK405.out (by decide)) (fun k_ hk => hk.2))))) (Reps.one (show Kd.FK (Kd.slice 5 (Kd.int .u8)) _ _ t416 [.slice Ao26 t416.length co26] from (Kd.FK_slice_mk (Kd.R_reads' (Kd.R_mono (ok' := (fun k_ => k_ ≠ gb405)) (Kd.R_types (HO418.out) BK405.out (by decide)) (fun k_ hk => hk.2))).2.1 (Kd.R_F (Kd.R_mono (ok' := (fun k_ => k_ ≠ gb405)) (Kd.R_types (HO418.out) BK405.out (by decide)) (fun k_ hk => hk.2))))) (Reps.one (show Kd.FK (Kd.slice 5 (Kd.int .u8)) _ _ y419 [.slice Ao27 y419.length co27] from (Kd.FK_slice_mk (Kd.R_reads' (Kd.R_mono (ok' := (fun k_ => k_ ≠ gb405)) (Kd.R_types (HO421.out) BK405.out (by decide)) (fun k_ hk => hk.2))).2.1 (Kd.R_F (Kd.R_mono (ok' := (fun k_ => k_ ≠ gb405)) (Kd.R_types (HO421.out) BK405.out (by decide)) (fun k_ hk => hk.2))))) (Reps.one (show Kd.FK (Kd.slice 5 (Kd.int .u8)) _ _ t407 [.slice Ao16 t407.length co16] from (Kd.FK_slice_mk (Kd.R_reads' (Kd.R_mono (ok' := (fun k_ => k_ ≠ gb405)) (Kd.R_types (HO409.out) BK405.out (by decide)) (fun k_ hk => hk.2))).2.1 (Kd.R_F (Kd.R_mono (ok' := (fun k_ => k_ ≠ gb405)) (Kd.R_types (HO409.out) BK405.out (by decide)) (fun k_ hk => hk.2))))) (Reps.one (show Kd.FK (Kd.slice 5 (Kd.int .u8)) _ _ y422 [.slice Ao28 y422.length co28] from (Kd.FK_slice_mk (Kd.R_reads' (Kd.R_mono (ok' := (fun k_ => k_ ≠ gb405)) (Kd.R_types (HO424.out) BK405.out (by decide)) (fun k_ hk => hk.2))).2.1 (Kd.R_F (Kd.R_mono (ok' := (fun k_ => k_ ≠ gb405)) (Kd.R_types (HO424.out) BK405.out (by decide)) (fun k_ hk => hk.2))))) (Reps.one (show Kd.FK (Kd.slice 5 (Kd.int .u8)) _ _ t410 [.slice Ao17 t410.length co17] from (Kd.FK_slice_mk (Kd.R_reads' (Kd.R_mono (ok' := (fun k_ => k_ ≠ gb405)) (Kd.R_types (HO412.out) BK405.out (by decide)) (fun k_ hk => hk.2))).2.1 (Kd.R_F (Kd.R_mono (ok' := (fun k_ => k_ ≠ gb405)) (Kd.R_types (HO412.out) BK405.out (by decide)) (fun k_ hk => hk.2))))) (Reps.none _ _))))))))
  intro v426 w29 ho30 hb hg_ hnew_
  clear hg_ hnew_
  (first | rw [← Ny425.out] at ho30 | (simp only [Int.reduceToNat] at ho30; rw [← Ny425.out] at ho30))
  have n0_ := Aside0.mk (Kd.N_lower ho30 (below_size (hset HB.out)))
  have n1_ := Aside0.mk (blk_below (bup BK405.out) hb)
  have n2_ := Aside0.mk (below_step (hset HB.out) hb)
  clear BK405
  clear HB
  clear HO409
  clear HO412
  clear HO415
  clear HO418
  clear HO421
  clear HO424
  have HO427 := n0_
  have BK405 := n1_
  have HB := n2_
  clear n0_ n1_ n2_
  clear hb ho30
  obtain ⟨Ao31, co31, eo31⟩ := Kd.N_slice HO427.out
  (first | subst eo31 | (injection eo31 with f1_ f2_ f3_; have f4_ := f1_.symm; have f5_ := f3_.symm; clear f1_ f2_ f3_; subst f4_; subst f5_))
  refine hK.out _ _ (blk_cells10 BK405.out) (fun hHeld => ?_)
  clear hK K
  refine norm_ (a' := ?_) ?_ ?_
  rotate_left
  ·show Act.put _ (some 30) _ = _
   simp only [Act.put, List.setIfInBounds_toArray, List.set_cons_zero, List.set_cons_succ, i64_w, i32_w]
   rfl
  refine one_ (i := 17) (N := some 31) #[true, true, true, true, true, true, true, true, true, true, true, true, true, true, true, true, true, true, false] rfl rfl (one_of HT_.out (by kernel_rfl)) (by decide) (fun K hK => ?_)
  refine goes_ Try.func73 (by kernel_rfl) rfl #[.slice Ao31 y425.length co31] (by rfl) rfl rfl (by (try simp only [List.map_toArray, List.map_cons, List.map_nil]); first | done | rfl) ?_
  with_reducible refine (slices_Concat_byte_byte.calls k _ _ y425 t428 _ ?side1 ?side2 A8.out).mono ?_
  (case side1 => repeat (first | exact (Kd.N_reads' HO427.out).2.2 | (with_reducible refine Kd.C_alloc ?_ _) | (with_reducible refine Kd.C_drewN ?_ _) | (with_reducible refine Kd.C_drew ?_)))
  (case side2 => exact (Kd.N_reads' HO427.out).2.1)
  rintro e w32 ⟨v429, rfl, ho0, hb⟩
  refine ⟨_, rfl, ?_⟩
  have n0_ := Aside0.mk (Kd.N_elder' (by (with_reducible repeat (first | apply Kd.N_alloc | apply Kd.N_drewN | apply Kd.N_drew)); exact HO427.out) (Kd.R_base ho0) hb)
  have n1_ := Aside0.mk (Kd.R_lower ho0 (below_size (hset HB.out)))
  have n2_ := Aside0.mk (blk_below (bup BK405.out) hb)
  have n3_ := Aside0.mk (below_step (hset HB.out) hb)
  clear HO427
  clear BK405
  clear HB
  have HO427 := n0_
  have HO430 := n1_
  have BK405 := n2_
  have HB := n3_
  clear n0_ n1_ n2_ n3_
  (try clear hb)
  (try clear hb2)
  (try clear hk)
  (try clear hi)
  (try clear ho0)
  refine hK.out _ _ (blk_cells10 BK405.out) (fun hHeld => ?_)
  clear hK K
  refine norm_ (a' := ?_) ?_ ?_
  rotate_left
  ·show Act.put _ (some 31) _ = _
   simp only [Act.put, List.setIfInBounds_toArray, List.set_cons_zero, List.set_cons_succ, i64_w, i32_w]
   rfl
  refine pure_ (i := 18) (N := some 2) (v := ?_) (a' := ?_) #[true, true, true, true, true, true, true, true, true, true, true, true, true, true, true, true, true, true, true] rfl rfl (any_of HT_.out (by kernel_rfl)) (fun _ _ _ h => h) (Or.inl ⟨by rfl, ?_⟩) ?_ ?_
  rotate_left
  ·intro w'
   go_simp
   with_reducible rfl
  rotate_left
  ·simp only [Act.put, List.setIfInBounds_toArray, List.set_cons_zero, List.set_cons_succ, i64_w, i32_w]
   rfl
  refine done_ (done_of HT_.out (by kernel_rfl)) ?_
  try go_wp2
  go_ret
  exact ⟨_, by first | rfl | (simp [errW_none, errW_some] <;> rfl) | (simp [*, errW_none, errW_some] <;> rfl), by exact Kd.rup HO430.out, hset HB.out⟩
 ·replace c3 := Bool.eq_false_iff.mpr c3
  subst c3
  rw [if_neg (show ¬ (false = true) by decide)] at H
  (try dsimp only at H)
  obtain rfl := Option.some.inj H
  go_enter Try.func34, Try.ntmps34
  go_wp2_with (first | ((with_reducible refine gate_dst (N := 1) rfl ?_); refine box_event ?hg (N := 1) ?hd (cs := #[.int .i64 a0_0, .int .i64 a0_1, .int .i64 a0_2, .int .i64 a0_3, .float .f64 a0_4, .slice A0_5 l0_5.length c0_5, .int .i64 a0_6, .int .i64 a0_7, .float .f64 a0_8, .slice A0_9 l0_9.length c0_9]) (t := 49) ?hr ?_; (case hd => rfl); (case hg => rfl); (case hr => first | (go_simp; done) | (go_simp; rfl)); intro gb405 hg w33 hbox hb; have n0_ := Aside0.mk (below_step (hup HB.out) hb); have n1_ := Aside0.mk (hbox); have n2_ := Geq.mk ((by rw [hg]; exact (below_size (hup HB.out)) : w.heap.size ≤ gb405)); have n3_ := Geq.mk ((by rw [hg]; exact (below_size (hup HB.out)) : w.heap.size ≤ gb405)); clear HB; have HB := n0_; have BK405 := n1_; have GW405 := n2_; have GE405 := n3_; clear n0_ n1_ n2_ n3_; clear hb hbox hg; obtain ⟨hcz34_0, hcz34_1, hcz34_2, hcz34_3, hcz34_4, hcz34_5, hcz34_6, hcz34_7, hcz34_8, hcz34_9⟩ := blk_cells10 BK405.out; obtain ⟨hfz34_0, hfz34_1, hfz34_2, hfz34_3, hfz34_4, hfz34_5, hfz34_6, hfz34_7, hfz34_8, hfz34_9⟩ := blk_frozens10 BK405.out) | ((with_reducible refine gate_callee (f := 43) rfl ?_); refine goesL_ (some 6) rfl rfl Try.func43 (by kernel_rfl) rfl #[.agg #[.int .i64 a0_0, .int .i64 a0_1, .int .i64 a0_2, .int .i64 a0_3, .float .f64 a0_4, .slice A0_5 l0_5.length c0_5, .int .i64 a0_6, .int .i64 a0_7, .float .f64 a0_8, .slice A0_9 l0_9.length c0_9]] rfl (by (try simp only [List.map_toArray, List.map_cons, List.map_nil]); first | done | rfl) ?_; (with_reducible refine (impl_TupleOk.calls a0_0 a0_1 a0_2 a0_3 a0_4 _ _ l0_5 a0_6 a0_7 a0_8 _ _ l0_9 false _ ?side1 ?side2 ?side3 ?side4 A2.out).mono ?_); (case side1 => repeat (first | exact (Kd.C_below HR0_5.out HB.out) | (with_reducible refine Kd.C_alloc ?_ _) | (with_reducible refine Kd.C_drewN ?_ _) | (with_reducible refine Kd.C_drew ?_))); (case side2 => exact HC0_5.out); (case side3 => repeat (first | exact (Kd.C_below HR0_9.out HB.out) | (with_reducible refine Kd.C_alloc ?_ _) | (with_reducible refine Kd.C_drewN ?_ _) | (with_reducible refine Kd.C_drew ?_))); (case side4 => exact HC0_9.out); rintro e w35 ⟨rfl, hb⟩; refine ⟨_, rfl, ?_⟩; have n0_ := Aside0.mk (blk_below (bup BK405.out) hb); have n1_ := Aside0.mk (below_step (hset HB.out) hb); clear BK405; clear HB; have BK405 := n0_; have HB := n1_; clear n0_ n1_; (try clear hb); (try clear hb2); (try clear hk); (try clear hi)))
  go_ret
  exact ⟨_, by first | rfl | (simp [errW_none, errW_some] <;> rfl) | (simp [*, errW_none, errW_some] <;> rfl), by first | exact Kd.R_nil _ _ _ _ _ | exact Kd.N_nil _ _ _ _ _ | exact Kd.V_nil _ _ _ _ _ | exact Kd.Q_nil _ _ _ _ _ | exact Kd.S_nil _ _ _ _ _, hset HB.out⟩
end Go.Proofs.Ytjjkhlphdbmdfaa.PFnExactTupleRead
