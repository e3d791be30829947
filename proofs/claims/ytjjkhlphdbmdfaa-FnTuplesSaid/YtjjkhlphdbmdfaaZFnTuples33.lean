import Derived.Test.YtjjkhlphdbmdfaaZFnTuples30
import Derived.Test.YtjjkhlphdbmdfaaZFnTuples31
import Derived.Test.YtjjkhlphdbmdfaaZFnTuples32
namespace Go.Proofs.Ytjjkhlphdbmdfaa.PFnTuples
open Go.RowKit Go.Proofs.YtjjkhlphdbmdfaaW.PrintWords Go.Proofs.YtjjkhlphdbmdfaaW.PrintLast Go.Proofs.YtjjkhlphdbmdfaaW.PrintMore
attribute [local go_sem] max2_int min2_int max_two min_two max_three min_three max_four min_four   -- for this text's walks alone
attribute [local go_sem high] fl_eql fl_neq fl_lss fl_leq fl_gtr fl_geq fl_add fl_sub fl_mul fl_quo fl_neg fl_ofInt fl_toInt fl_store sub_sign ext_bits ext_from fl_nan_quo fl_nan_add fl_nan_mul fl_nan_sub
open Go.Proofs.YtjjkhlphdbmdfaaW.PrintWords renaming below_alloc → h1, pw_below_drewN → h2, below_drew1 → h3, below_set → h4, blk_drewN → b1, blk_drew → b2, blk_alloc → b3
set_option linter.unusedVariables false
set_option linter.unusedSimpArgs false
def impl_TupleBytes.f (k : Nat) (a0_0 : Int) (a0_1 : Int) (a0_2 : Int) (a0_3 : Int) (a0_4 : Nat) (l0_5 : List Int) (a0_6 : Int) (a0_7 : Int) (a0_8 : Nat) (l0_9 : List Int) : Option (List Int) := (impl_TupleOk.f a0_0 a0_1 a0_2 a0_3 a0_4 l0_5 a0_6 a0_7 a0_8 l0_9).bind fun t161 => (if t161 = true then ((impl_KeyBytes.f k a0_2 a0_3 a0_4 l0_5).bind fun t162 => ((impl_ValueBytes.f k a0_6 a0_7 a0_8 l0_9).bind fun t165 => ((impl_PutNum.f k a0_0 4).bind fun t168 => ((impl_PutNum.f k a0_1 4).bind fun t171 => ((slices_Concat_byte_byte.f k (([t168, t171, (([((t162.length : Int)) % 256] : List Int)), t162, (([((t165.length : Int)) % 256] : List Int)), t165] : List (List Int)))).bind fun t183 => (some t183)))))) else (some ([] : List Int)))
theorem impl_TupleBytes.mono : ∀ a0 a1 a2 a3 a4 a5 a6 a7 a8 a9 k, LeO (impl_TupleBytes.f k a0 a1 a2 a3 a4 a5 a6 a7 a8 a9) (impl_TupleBytes.f (k + 1) a0 a1 a2 a3 a4 a5 a6 a7 a8 a9) := by
 intro a0 a1 a2 a3 a4 a5 a6 a7 a8 a9 k
 unfold impl_TupleBytes.f
 repeat' with_reducible first | exact impl_KeyBytes.mono _ _ _ _ _ | exact impl_PutNum.mono _ _ _ | exact impl_ValueBytes.mono _ _ _ _ _ | exact slices_Concat_byte_byte.mono _ _ | exact LeO.refl _ | exact LeO.none _ | refine LeO.ite ?_ ?_ | refine LeO.bind ?_ (fun _ => ?_)
def impl_TupleBytes.T3 : Bool × List (List Nat × List Nat) := (true, [([], []), ([0], [0]), ([1], [1]), ([], []), ([3], [3]), ([4, 2], [4]), ([2, 5, 0, 1, 2], [2]), ([5, 6, 0, 1, 2, 3, 4, 5, 6], [5])])
def impl_TupleBytes.B3 : List Nat := [0, 1, 3, 0, 8, 31, 63, 127]
theorem impl_TupleBytes.tab3 : rtab .any (opsOf Try.f34 3) = impl_TupleBytes.T3 := by kernel_rfl
theorem impl_TupleBytes.bits3 : waitsOk impl_TupleBytes.T3.2 impl_TupleBytes.B3 = true := by kernel_rfl
def impl_TupleBytes.T4 : Bool × List (List Nat × List Nat) := (true, [([], []), ([0], [0]), ([1], [1]), ([], []), ([3], [3]), ([4, 2], [4]), ([], []), ([6], [6]), ([7], [7]), ([8], [8]), ([], []), ([], []), ([11], [11]), ([12], [12]), ([13], [13]), ([], []), ([2, 5, 9, 10, 14, 15], [2, 5, 9, 10, 14, 15]), ([16, 5], [16]), ([17, 17, 0, 1, 2, 3, 4, 5, 6, 7, 8, 9, 10, 11, 12, 13, 14, 15, 16, 17], [17])])
def impl_TupleBytes.B4 : List Nat := [0, 1, 3, 0, 8, 31, 0, 64, 192, 448, 0, 0, 2048, 6144, 14336, 0, 65535, 131071, 262143]
theorem impl_TupleBytes.tab4 : rtab .any (opsOf Try.f34 4) = impl_TupleBytes.T4 := by kernel_rfl
theorem impl_TupleBytes.bits4 : waitsOk impl_TupleBytes.T4.2 impl_TupleBytes.B4 = true := by kernel_rfl
set_option maxHeartbeats 8000000 in
set_option maxRecDepth 100000 in
theorem impl_TupleBytes.calls (k : Nat) (a0_0 : Int) (a0_1 : Int) (a0_2 : Int) (a0_3 : Int) (a0_4 : Nat) (A0_5 : Option Addr) (c0_5 : Nat) (l0_5 : List Int) (a0_6 : Int) (a0_7 : Int) (a0_8 : Nat) (A0_9 : Option Addr) (c0_9 : Nat) (l0_9 : List Int) (r : List Int) (w : World) (hr0_5 : Kd.C (Kd.int .u8) w A0_5 l0_5.length l0_5) (hc0_5 : l0_5.length ≤ c0_5) (hr0_9 : Kd.C (Kd.int .u8) w A0_9 l0_9.length l0_9) (hc0_9 : l0_9.length ≤ c0_9) (h : impl_TupleBytes.f k a0_0 a0_1 a0_2 a0_3 a0_4 l0_5 a0_6 a0_7 a0_8 l0_9 = some r) :
  Calls Try.prog 34 #[.agg #[.int .i64 a0_0, .int .i64 a0_1, .int .i64 a0_2, .int .i64 a0_3, .float .f64 a0_4, .slice A0_5 l0_5.length c0_5, .int .i64 a0_6, .int .i64 a0_7, .float .f64 a0_8, .slice A0_9 l0_9.length c0_9]] w fun e w' => ∃ v0_ : Value, e = .returned (v0_) ∧ Kd.R (Kd.int .u8) 5 w' w.heap.size (fun _ => True) v0_ r ∧ Below w.heap.size w w' := by
 have hu49 := Try.underlying49
 have hu25 := Try.underlying25
 have HR0_5 := Aside0.mk hr0_5
 have HC0_5 := Aside0.mk hc0_5
 clear hr0_5 hc0_5
 have HR0_9 := Aside0.mk hr0_9
 have HC0_9 := Aside0.mk hc0_9
 clear hr0_9 hc0_9
 have HB := Aside0.mk (Below.refl w.heap.size w)
 have H := h
 clear h
 unfold impl_TupleBytes.f at H
 replace H := Option.bind_eq_some_iff.mp H
 obtain ⟨t161, A20, H⟩ := H
 (try dsimp only at H)
 have A2 := Aside0.mk A20
 clear A20
 by_cases c3 : t161 = true
 ·subst c3
  rw [if_pos rfl] at H
  (try dsimp only at H)
  replace H := Option.bind_eq_some_iff.mp H
  obtain ⟨t162, A40, H⟩ := H
  (try dsimp only at H)
  have A4 := Aside0.mk A40
  clear A40
  replace H := Option.bind_eq_some_iff.mp H
  obtain ⟨t165, A50, H⟩ := H
  (try dsimp only at H)
  have A5 := Aside0.mk A50
  clear A50
  replace H := Option.bind_eq_some_iff.mp H
  obtain ⟨t168, A60, H⟩ := H
  (try dsimp only at H)
  have A6 := Aside0.mk A60
  clear A60
  replace H := Option.bind_eq_some_iff.mp H
  obtain ⟨t171, A70, H⟩ := H
  (try dsimp only at H)
  have A7 := Aside0.mk A70
  clear A70
  obtain ⟨y174, hy174⟩ : ∃ y_ : List Int, y_ = (([((t162.length : Int)) % 256] : List Int)) := ⟨_, rfl⟩
  replace H : ((slices_Concat_byte_byte.f k (([t168, t171, y174, t162, (([((t165.length : Int)) % 256] : List Int)), t165] : List (List Int)))).bind fun t183 => (some t183)) = some r := by first | (rw [hy174]; with_reducible exact H) | (have H2_ := (Option.bind_some _ _).symm.trans H; rw [hy174]; with_reducible exact H2_) | (have H2_ := (Option.bind_some _ _).symm.trans H; with_reducible exact H2_) | with_reducible exact H | (rw [hy174]; exact H) | exact H
  have Ny174 := Aside0.mk hy174
  clear hy174
  obtain ⟨y177, hy177⟩ : ∃ y_ : List Int, y_ = (([((t165.length : Int)) % 256] : List Int)) := ⟨_, rfl⟩
  replace H : ((slices_Concat_byte_byte.f k (([t168, t171, y174, t162, y177, t165] : List (List Int)))).bind fun t183 => (some t183)) = some r := by first | (rw [hy177]; with_reducible exact H) | (have H2_ := (Option.bind_some _ _).symm.trans H; rw [hy177]; with_reducible exact H2_) | (have H2_ := (Option.bind_some _ _).symm.trans H; with_reducible exact H2_) | with_reducible exact H | (rw [hy177]; exact H) | exact H
  have Ny177 := Aside0.mk hy177
  clear hy177
  obtain ⟨y180, hy180⟩ : ∃ y_ : List (List Int), y_ = (([t168, t171, y174, t162, y177, t165] : List (List Int))) := ⟨_, rfl⟩
  replace H : ((slices_Concat_byte_byte.f k y180).bind fun t183 => (some t183)) = some r := by first | (rw [hy180]; with_reducible exact H) | (have H2_ := (Option.bind_some _ _).symm.trans H; rw [hy180]; with_reducible exact H2_) | (have H2_ := (Option.bind_some _ _).symm.trans H; with_reducible exact H2_) | with_reducible exact H | (rw [hy180]; exact H) | exact H
  have Ny180 := Aside0.mk hy180
  clear hy180
  replace H := Option.bind_eq_some_iff.mp H
  obtain ⟨t183, A80, H⟩ := H
  (try dsimp only at H)
  have A8 := Aside0.mk A80
  clear A80
  obtain rfl := Option.some.inj H
  go_enter Try.func34, Try.ntmps34
  try go_wp2_with (first | ((with_reducible refine gate_dst (N := 1) rfl ?_); refine box_event ?hg (N := 1) ?hd (cs := #[.int .i64 a0_0, .int .i64 a0_1, .int .i64 a0_2, .int .i64 a0_3, .float .f64 a0_4, .slice A0_5 l0_5.length c0_5, .int .i64 a0_6, .int .i64 a0_7, .float .f64 a0_8, .slice A0_9 l0_9.length c0_9]) (t := 49) ?hr ?_; (case hd => rfl); (case hg => rfl); (case hr => first | (go_simp; done) | (go_simp; rfl)); intro gb160 hg w9 hbox hb; have n0_ := Aside0.mk (below_step (hup HB.out) hb); have n1_ := Aside0.mk (hbox); have n2_ := Geq.mk ((by rw [hg]; exact (below_size (hup HB.out)) : w.heap.size ≤ gb160)); have n3_ := Geq.mk ((by rw [hg]; exact (below_size (hup HB.out)) : w.heap.size ≤ gb160)); clear HB; have HB := n0_; have BK160 := n1_; have GW160 := n2_; have GE160 := n3_; clear n0_ n1_ n2_ n3_; clear hb hbox hg; obtain ⟨hcz10_0, hcz10_1, hcz10_2, hcz10_3, hcz10_4, hcz10_5, hcz10_6, hcz10_7, hcz10_8, hcz10_9⟩ := blk_cells10 BK160.out; obtain ⟨hfz10_0, hfz10_1, hfz10_2, hfz10_3, hfz10_4, hfz10_5, hfz10_6, hfz10_7, hfz10_8, hfz10_9⟩ := blk_frozens10 BK160.out) | ((with_reducible refine gate_callee (f := 43) rfl ?_); refine goesL_ (some 6) rfl rfl Try.func43 (by kernel_rfl) rfl #[.agg #[.int .i64 a0_0, .int .i64 a0_1, .int .i64 a0_2, .int .i64 a0_3, .float .f64 a0_4, .slice A0_5 l0_5.length c0_5, .int .i64 a0_6, .int .i64 a0_7, .float .f64 a0_8, .slice A0_9 l0_9.length c0_9]] rfl (by (try simp only [List.map_toArray, List.map_cons, List.map_nil]); first | done | rfl) ?_; (with_reducible refine (impl_TupleOk.calls a0_0 a0_1 a0_2 a0_3 a0_4 _ _ l0_5 a0_6 a0_7 a0_8 _ _ l0_9 true _ ?side1 ?side2 ?side3 ?side4 A2.out).mono ?_); (case side1 => repeat (first | exact (Kd.C_below HR0_5.out HB.out) | (with_reducible refine Kd.C_alloc ?_ _) | (with_reducible refine Kd.C_drewN ?_ _) | (with_reducible refine Kd.C_drew ?_))); (case side2 => exact HC0_5.out); (case side3 => repeat (first | exact (Kd.C_below HR0_9.out HB.out) | (with_reducible refine Kd.C_alloc ?_ _) | (with_reducible refine Kd.C_drewN ?_ _) | (with_reducible refine Kd.C_drew ?_))); (case side4 => exact HC0_9.out); rintro e w11 ⟨rfl, hb⟩; refine ⟨_, rfl, ?_⟩; have n0_ := Aside0.mk (blk_below (bup BK160.out) hb); have n1_ := Aside0.mk (below_step (hset HB.out) hb); clear BK160; clear HB; have BK160 := n0_; have HB := n1_; clear n0_ n1_; (try clear hb); (try clear hb2); (try clear hk); (try clear hi)))
  have n0_ := Aside0.mk (blk_drew BK160.out)
  have n1_ := Aside0.mk (below_drew1 HB.out)
  clear BK160
  clear HB
  have BK160 := n0_
  have HB := n1_
  clear n0_ n1_
  refine start_ (n := 8) (S := fun w' => w'.cell? ⟨gb160, 0, none⟩ = some (.int .i64 a0_0) ∧ w'.cell? ⟨gb160, 1, none⟩ = some (.int .i64 a0_1) ∧ w'.cell? ⟨gb160, 2, none⟩ = some (.int .i64 a0_2) ∧ w'.cell? ⟨gb160, 3, none⟩ = some (.int .i64 a0_3) ∧ w'.cell? ⟨gb160, 4, none⟩ = some (.float .f64 a0_4) ∧ w'.cell? ⟨gb160, 5, none⟩ = some (.slice A0_5 l0_5.length c0_5) ∧ w'.cell? ⟨gb160, 6, none⟩ = some (.int .i64 a0_6) ∧ w'.cell? ⟨gb160, 7, none⟩ = some (.int .i64 a0_7) ∧ w'.cell? ⟨gb160, 8, none⟩ = some (.float .f64 a0_8) ∧ w'.cell? ⟨gb160, 9, none⟩ = some (.slice A0_9 l0_9.length c0_9)) (ds := []) #[false, false, false, false, false, false, false, false] (by kernel_rfl) rfl rfl (blk_cells10 BK160.out) (fun hHeld => ?_); refine with_tabW impl_TupleBytes.tab3 impl_TupleBytes.bits3 (fun HT_ HW_ => ?_)
  generalize w11.drew = w12 at BK160 HB hHeld ⊢
  refine pure_ (i := 0) (N := some 8) (v := ?_) (a' := ?_) #[true, false, false, false, false, false, false, false] rfl rfl (any_of HT_.out (by kernel_rfl)) (fun _ _ _ h => h) (Or.inl ⟨by rfl, ?_⟩) ?_ ?_
  rotate_left
  ·intro w'
   go_simp
   with_reducible rfl
  rotate_left
  ·simp only [Act.put, List.setIfInBounds_toArray, List.set_cons_zero, List.set_cons_succ, i64_w, i32_w]
   rfl
  refine pure_ (i := 3) (N := some 11) (v := ?_) (a' := ?_) #[true, false, false, true, false, false, false, false] rfl rfl (any_of HT_.out (by kernel_rfl)) (fun _ _ _ h => h) (Or.inl ⟨by rfl, ?_⟩) ?_ ?_
  rotate_left
  ·intro w'
   go_simp
   with_reducible rfl
  rotate_left
  ·simp only [Act.put, List.setIfInBounds_toArray, List.set_cons_zero, List.set_cons_succ, i64_w, i32_w]
   rfl
  refine take_ (i := 1) (N := some 9) (v := ?_) (a' := ?_) #[true, true, false, true, false, false, false, false] rfl rfl (take_ofW HT_.out HW_.out (by kernel_rfl)) (fun _ _ _ h => h) (Or.inl ⟨by rfl, ?_⟩) hHeld ?_ ?_
  rotate_left
  ·rintro w' ⟨s0, s1, s2, s3, s4, s5, s6, s7, s8, s9⟩
   go_simp
   with_reducible rfl
  rotate_left
  ·simp only [Act.put, List.setIfInBounds_toArray, List.set_cons_zero, List.set_cons_succ, i64_w, i32_w]
   rfl
  refine take_ (i := 4) (N := some 12) (v := ?_) (a' := ?_) #[true, true, false, true, true, false, false, false] rfl rfl (take_ofW HT_.out HW_.out (by kernel_rfl)) (fun _ _ _ h => h) (Or.inl ⟨by rfl, ?_⟩) hHeld ?_ ?_
  rotate_left
  ·rintro w' ⟨s0, s1, s2, s3, s4, s5, s6, s7, s8, s9⟩
   go_simp
   with_reducible rfl
  rotate_left
  ·simp only [Act.put, List.setIfInBounds_toArray, List.set_cons_zero, List.set_cons_succ, i64_w, i32_w]
   rfl
  refine one_ (i := 2) (N := some 10) #[true, true, true, true, true, false, false, false] rfl rfl (one_of HT_.out (by kernel_rfl)) (by decide) (fun K hK => ?_)
  refine goes_ Try.func24 (by kernel_rfl) rfl #[.agg #[.int .i64 a0_2, .int .i64 a0_3, .float .f64 a0_4, .slice A0_5 l0_5.length c0_5]] (by rfl) rfl rfl (by (try simp only [List.map_toArray, List.map_cons, List.map_nil]); first | done | rfl) ?_
  with_reducible refine (impl_KeyBytes.calls k a0_2 a0_3 a0_4 _ _ l0_5 t162 _ ?side1 ?side2 A4.out).mono ?_
  (case side1 => repeat (first | exact (Kd.C_below HR0_5.out HB.out) | (with_reducible refine Kd.C_alloc ?_ _) | (with_reducible refine Kd.C_drewN ?_ _) | (with_reducible refine Kd.C_drew ?_)))
  (case side2 => exact HC0_5.out)
  rintro e w13 ⟨v163, rfl, ho0, hb⟩
  refine ⟨_, rfl, ?_⟩
  have n0_ := Aside0.mk (Kd.R_lower ho0 (below_size (hset HB.out)))
  have n1_ := Aside0.mk (blk_below (bup BK160.out) hb)
  have n2_ := Aside0.mk (below_step (hset HB.out) hb)
  clear BK160
  clear HB
  have HO164 := n0_
  have BK160 := n1_
  have HB := n2_
  clear n0_ n1_ n2_
  (try clear hb)
  (try clear hb2)
  (try clear hk)
  (try clear hi)
  (try clear ho0)
  refine hK.out _ _ (blk_cells10 BK160.out) (fun hHeld => ?_)
  clear hK K
  refine norm_ (a' := ?_) ?_ ?_
  rotate_left
  ·show Act.put _ (some 10) _ = _
   simp only [Act.put, List.setIfInBounds_toArray, List.set_cons_zero, List.set_cons_succ, i64_w, i32_w]
   rfl
  refine one_ (i := 5) (N := some 13) #[true, true, true, true, true, true, false, false] rfl rfl (one_of HT_.out (by kernel_rfl)) (by decide) (fun K hK => ?_)
  refine goes_ Try.func29 (by kernel_rfl) rfl #[.agg #[.int .i64 a0_6, .int .i64 a0_7, .float .f64 a0_8, .slice A0_9 l0_9.length c0_9]] (by rfl) rfl rfl (by (try simp only [List.map_toArray, List.map_cons, List.map_nil]); first | done | rfl) ?_
  with_reducible refine (impl_ValueBytes.calls k a0_6 a0_7 a0_8 _ _ l0_9 t165 _ ?side1 ?side2 A5.out).mono ?_
  (case side1 => repeat (first | exact (Kd.C_below HR0_9.out HB.out) | (with_reducible refine Kd.C_alloc ?_ _) | (with_reducible refine Kd.C_drewN ?_ _) | (with_reducible refine Kd.C_drew ?_)))
  (case side2 => exact HC0_9.out)
  rintro e w14 ⟨v166, rfl, ho0, hb⟩
  refine ⟨_, rfl, ?_⟩
  have n0_ := Aside0.mk (Kd.R_elder' (Kd.rup HO164.out) (Kd.R_base ho0) hb)
  have n1_ := Aside0.mk (Kd.R_lower (Kd.R_new' ho0 (Kd.R_lt (Kd.rup HO164.out))) (below_size (hset HB.out)))
  have n2_ := Aside0.mk (blk_below (bup BK160.out) hb)
  have n3_ := Aside0.mk (below_step (hset HB.out) hb)
  clear HO164
  clear BK160
  clear HB
  have HO164 := n0_
  have HO167 := n1_
  have BK160 := n2_
  have HB := n3_
  clear n0_ n1_ n2_ n3_
  (try clear hb)
  (try clear hb2)
  (try clear hk)
  (try clear hi)
  (try clear ho0)
  refine hK.out _ _ (blk_cells10 BK160.out) (fun hHeld => ?_)
  clear hK K
  refine norm_ (a' := ?_) ?_ ?_
  rotate_left
  ·show Act.put _ (some 13) _ = _
   simp only [Act.put, List.setIfInBounds_toArray, List.set_cons_zero, List.set_cons_succ, i64_w, i32_w]
   rfl
  refine pure_ (i := 6) (N := some 3) (v := ?_) (a' := ?_) #[true, true, true, true, true, true, true, false] rfl rfl (any_of HT_.out (by kernel_rfl)) (fun _ _ _ h => h) (Or.inl ⟨by rfl, ?_⟩) ?_ ?_
  rotate_left
  ·intro w'
   go_simp
   with_reducible rfl
  rotate_left
  ·simp only [Act.put, List.setIfInBounds_toArray, List.set_cons_zero, List.set_cons_succ, i64_w, i32_w]
   rfl
  refine pure_ (i := 7) (N := some 4) (v := ?_) (a' := ?_) #[true, true, true, true, true, true, true, true] rfl rfl (any_of HT_.out (by kernel_rfl)) (fun _ _ _ h => h) (Or.inl ⟨by rfl, ?_⟩) ?_ ?_
  rotate_left
  ·intro w'
   go_simp
   with_reducible rfl
  rotate_left
  ·simp only [Act.put, List.setIfInBounds_toArray, List.set_cons_zero, List.set_cons_succ, i64_w, i32_w]
   rfl
  refine done_ (done_of HT_.out (by kernel_rfl)) ?_
  try go_wp2
  have n0_ := Aside0.mk (Kd.R_drew HO164.out)
  have n1_ := Aside0.mk (Kd.R_drew HO167.out)
  have n2_ := Aside0.mk (blk_drew BK160.out)
  have n3_ := Aside0.mk (below_drew1 HB.out)
  clear HO164
  clear HO167
  clear BK160
  clear HB
  have HO164 := n0_
  have HO167 := n1_
  have BK160 := n2_
  have HB := n3_
  clear n0_ n1_ n2_ n3_
  obtain ⟨Ao16, co16, eo16⟩ := Kd.R_slice HO164.out
  (first | subst eo16 | (injection eo16 with f1_ f2_ f3_; have f4_ := f1_.symm; have f5_ := f3_.symm; clear f1_ f2_ f3_; subst f4_; subst f5_))
  obtain ⟨Ao17, co17, eo17⟩ := Kd.R_slice HO167.out
  (first | subst eo17 | (injection eo17 with f1_ f2_ f3_; have f4_ := f1_.symm; have f5_ := f3_.symm; clear f1_ f2_ f3_; subst f4_; subst f5_))
  refine start_ (n := 19) (S := fun w' => w'.cell? ⟨gb160, 0, none⟩ = some (.int .i64 a0_0) ∧ w'.cell? ⟨gb160, 1, none⟩ = some (.int .i64 a0_1) ∧ w'.cell? ⟨gb160, 2, none⟩ = some (.int .i64 a0_2) ∧ w'.cell? ⟨gb160, 3, none⟩ = some (.int .i64 a0_3) ∧ w'.cell? ⟨gb160, 4, none⟩ = some (.float .f64 a0_4) ∧ w'.cell? ⟨gb160, 5, none⟩ = some (.slice A0_5 l0_5.length c0_5) ∧ w'.cell? ⟨gb160, 6, none⟩ = some (.int .i64 a0_6) ∧ w'.cell? ⟨gb160, 7, none⟩ = some (.int .i64 a0_7) ∧ w'.cell? ⟨gb160, 8, none⟩ = some (.float .f64 a0_8) ∧ w'.cell? ⟨gb160, 9, none⟩ = some (.slice A0_9 l0_9.length c0_9)) (ds := []) #[false, false, false, false, false, false, false, false, false, false, false, false, false, false, false, false, false, false, false] (by kernel_rfl) rfl rfl (blk_cells10 BK160.out) (fun hHeld => ?_); refine with_tabW impl_TupleBytes.tab4 impl_TupleBytes.bits4 (fun HT_ HW_ => ?_)
  generalize w14.drew = w15 at HO164 HO167 BK160 HB hHeld ⊢
  refine pure_ (i := 0) (N := some 14) (v := ?_) (a' := ?_) #[true, false, false, false, false, false, false, false, false, false, false, false, false, false, false, false, false, false, false] rfl rfl (any_of HT_.out (by kernel_rfl)) (fun _ _ _ h => h) (Or.inl ⟨by rfl, ?_⟩) ?_ ?_
  rotate_left
  ·intro w'
   go_simp
   with_reducible rfl
  rotate_left
  ·simp only [Act.put, List.setIfInBounds_toArray, List.set_cons_zero, List.set_cons_succ, i64_w, i32_w]
   rfl
  refine pure_ (i := 3) (N := some 17) (v := ?_) (a' := ?_) #[true, false, false, true, false, false, false, false, false, false, false, false, false, false, false, false, false, false, false] rfl rfl (any_of HT_.out (by kernel_rfl)) (fun _ _ _ h => h) (Or.inl ⟨by rfl, ?_⟩) ?_ ?_
  rotate_left
  ·intro w'
   go_simp
   with_reducible rfl
  rotate_left
  ·simp only [Act.put, List.setIfInBounds_toArray, List.set_cons_zero, List.set_cons_succ, i64_w, i32_w]
   rfl
  refine pure_ (i := 6) (N := some 20) (v := ?_) (a' := ?_) #[true, false, false, true, false, false, true, false, false, false, false, false, false, false, false, false, false, false, false] rfl rfl (any_of HT_.out (by kernel_rfl)) (fun _ _ _ h => h) (Or.inl ⟨by rfl, ?_⟩) ?_ ?_
  rotate_left
  ·intro w'
   go_simp
   with_reducible rfl
  rotate_left
  ·simp only [Act.put, List.setIfInBounds_toArray, List.set_cons_zero, List.set_cons_succ, i64_w, i32_w]
   rfl
  refine pure_ (i := 7) (N := some 21) (v := ?_) (a' := ?_) #[true, false, false, true, false, false, true, true, false, false, false, false, false, false, false, false, false, false, false] rfl rfl (any_of HT_.out (by kernel_rfl)) (fun _ _ _ h => h) (Or.inl ⟨by rfl, ?_⟩) ?_ ?_
  rotate_left
  ·intro w'
   go_simp
   with_reducible rfl
  rotate_left
  ·simp only [Act.put, List.setIfInBounds_toArray, List.set_cons_zero, List.set_cons_succ, i64_w, i32_w]
   rfl
  refine pure_ (i := 8) (N := some 22) (v := ?_) (a' := ?_) #[true, false, false, true, false, false, true, true, true, false, false, false, false, false, false, false, false, false, false] rfl rfl (any_of HT_.out (by kernel_rfl)) (fun _ _ _ h => h) (Or.inl ⟨by rfl, ?_⟩) ?_ ?_
  rotate_left
  ·intro w'
   go_simp
   with_reducible rfl
  rotate_left
  ·simp only [Act.put, List.setIfInBounds_toArray, List.set_cons_zero, List.set_cons_succ, i64_w, i32_w]
   rfl
  refine pure_ (i := 10) (N := some 24) (v := ?_) (a' := ?_) #[true, false, false, true, false, false, true, true, true, false, true, false, false, false, false, false, false, false, false] rfl rfl (any_of HT_.out (by kernel_rfl)) (fun _ _ _ h => h) (Or.inl ⟨by rfl, ?_⟩) ?_ ?_
  rotate_left
  ·intro w'
   go_simp
   with_reducible rfl
  rotate_left
  ·simp only [Act.put, List.setIfInBounds_toArray, List.set_cons_zero, List.set_cons_succ, i64_w, i32_w]
   rfl
  refine pure_ (i := 11) (N := some 25) (v := ?_) (a' := ?_) #[true, false, false, true, false, false, true, true, true, false, true, true, false, false, false, false, false, false, false] rfl rfl (any_of HT_.out (by kernel_rfl)) (fun _ _ _ h => h) (Or.inl ⟨by rfl, ?_⟩) ?_ ?_
  rotate_left
  ·intro w'
   go_simp
   with_reducible rfl
  rotate_left
  ·simp only [Act.put, List.setIfInBounds_toArray, List.set_cons_zero, List.set_cons_succ, i64_w, i32_w]
   rfl
  refine pure_ (i := 12) (N := some 26) (v := ?_) (a' := ?_) #[true, false, false, true, false, false, true, true, true, false, true, true, true, false, false, false, false, false, false] rfl rfl (any_of HT_.out (by kernel_rfl)) (fun _ _ _ h => h) (Or.inl ⟨by rfl, ?_⟩) ?_ ?_
  rotate_left
  ·intro w'
   go_simp
   with_reducible rfl
  rotate_left
  ·simp only [Act.put, List.setIfInBounds_toArray, List.set_cons_zero, List.set_cons_succ, i64_w, i32_w]
   rfl
  refine pure_ (i := 13) (N := some 27) (v := ?_) (a' := ?_) #[true, false, false, true, false, false, true, true, true, false, true, true, true, true, false, false, false, false, false] rfl rfl (any_of HT_.out (by kernel_rfl)) (fun _ _ _ h => h) (Or.inl ⟨by rfl, ?_⟩) ?_ ?_
  rotate_left
  ·intro w'
   go_simp
   with_reducible rfl
  rotate_left
  ·simp only [Act.put, List.setIfInBounds_toArray, List.set_cons_zero, List.set_cons_succ, i64_w, i32_w]
   rfl
  refine pure_ (i := 15) (N := some 29) (v := ?_) (a' := ?_) #[true, false, false, true, false, false, true, true, true, false, true, true, true, true, false, true, false, false, false] rfl rfl (any_of HT_.out (by kernel_rfl)) (fun _ _ _ h => h) (Or.inl ⟨by rfl, ?_⟩) ?_ ?_
  rotate_left
  ·intro w'
   go_simp
   with_reducible rfl
  rotate_left
  ·simp only [Act.put, List.setIfInBounds_toArray, List.set_cons_zero, List.set_cons_succ, i64_w, i32_w]
   rfl
  refine take_ (i := 1) (N := some 15) (v := ?_) (a' := ?_) #[true, true, false, true, false, false, true, true, true, false, true, true, true, true, false, true, false, false, false] rfl rfl (take_ofW HT_.out HW_.out (by kernel_rfl)) (fun _ _ _ h => h) (Or.inl ⟨by rfl, ?_⟩) hHeld ?_ ?_
  rotate_left
  ·rintro w' ⟨s0, s1, s2, s3, s4, s5, s6, s7, s8, s9⟩
   go_simp
   with_reducible rfl
  rotate_left
  ·simp only [Act.put, List.setIfInBounds_toArray, List.set_cons_zero, List.set_cons_succ, i64_w, i32_w]
   rfl
  refine take_ (i := 4) (N := some 18) (v := ?_) (a' := ?_) #[true, true, false, true, true, false, true, true, true, false, true, true, true, true, false, true, false, false, false] rfl rfl (take_ofW HT_.out HW_.out (by kernel_rfl)) (fun _ _ _ h => h) (Or.inl ⟨by rfl, ?_⟩) hHeld ?_ ?_
  rotate_left
  ·rintro w' ⟨s0, s1, s2, s3, s4, s5, s6, s7, s8, s9⟩
   go_simp
   with_reducible rfl
  rotate_left
  ·simp only [Act.put, List.setIfInBounds_toArray, List.set_cons_zero, List.set_cons_succ, i64_w, i32_w]
   rfl
  refine join_ (σ := Value × Value × Value × Value) 3 #[true, true, true, true, true, true, true, true, true, true, true, true, true, true, true, true, false, false, false] (fun s_ => [(16, s_.1), (19, s_.2.1), (23, s_.2.2.1), (28, s_.2.2.2)]) (fun s_ w' => (w'.cell? ⟨gb160, 0, none⟩ = some (.int .i64 a0_0) ∧ w'.cell? ⟨gb160, 1, none⟩ = some (.int .i64 a0_1) ∧ w'.cell? ⟨gb160, 2, none⟩ = some (.int .i64 a0_2) ∧ w'.cell? ⟨gb160, 3, none⟩ = some (.int .i64 a0_3) ∧ w'.cell? ⟨gb160, 4, none⟩ = some (.float .f64 a0_4) ∧ w'.cell? ⟨gb160, 5, none⟩ = some (.slice A0_5 l0_5.length c0_5) ∧ w'.cell? ⟨gb160, 6, none⟩ = some (.int .i64 a0_6) ∧ w'.cell? ⟨gb160, 7, none⟩ = some (.int .i64 a0_7) ∧ w'.cell? ⟨gb160, 8, none⟩ = some (.float .f64 a0_8) ∧ w'.cell? ⟨gb160, 9, none⟩ = some (.slice A0_9 l0_9.length c0_9)) ∧ (Kd.R (Kd.int .u8) 5 w' w.heap.size (fun k_ => some k_ ≠ (.slice Ao17 t165.length co17 : Value).ownBlock ∧ some k_ ≠ (s_.1 : Value).ownBlock ∧ some k_ ≠ (s_.2.1 : Value).ownBlock ∧ some k_ ≠ (s_.2.2.1 : Value).ownBlock ∧ some k_ ≠ (s_.2.2.2 : Value).ownBlock) (.slice Ao16 t162.length co16) t162) ∧ (Kd.R (Kd.int .u8) 5 w' w.heap.size (fun k_ => some k_ ≠ (.slice Ao16 t162.length co16 : Value).ownBlock ∧ some k_ ≠ (s_.1 : Value).ownBlock ∧ some k_ ≠ (s_.2.1 : Value).ownBlock ∧ some k_ ≠ (s_.2.2.1 : Value).ownBlock ∧ some k_ ≠ (s_.2.2.2 : Value).ownBlock) (.slice Ao17 t165.length co17) t165) ∧ (Kd.R (Kd.int .u8) 5 w' w.heap.size (fun k_ => some k_ ≠ (.slice Ao16 t162.length co16 : Value).ownBlock ∧ some k_ ≠ (.slice Ao17 t165.length co17 : Value).ownBlock ∧ some k_ ≠ (s_.2.1 : Value).ownBlock ∧ some k_ ≠ (s_.2.2.1 : Value).ownBlock ∧ some k_ ≠ (s_.2.2.2 : Value).ownBlock) s_.1 t168) ∧ (Kd.R (Kd.int .u8) 5 w' w.heap.size (fun k_ => some k_ ≠ (.slice Ao16 t162.length co16 : Value).ownBlock ∧ some k_ ≠ (.slice Ao17 t165.length co17 : Value).ownBlock ∧ some k_ ≠ (s_.1 : Value).ownBlock ∧ some k_ ≠ (s_.2.2.1 : Value).ownBlock ∧ some k_ ≠ (s_.2.2.2 : Value).ownBlock) s_.2.1 t171) ∧ (Kd.R (Kd.int .u8) 5 w' w.heap.size (fun k_ => some k_ ≠ (.slice Ao16 t162.length co16 : Value).ownBlock ∧ some k_ ≠ (.slice Ao17 t165.length co17 : Value).ownBlock ∧ some k_ ≠ (s_.1 : Value).ownBlock ∧ some k_ ≠ (s_.2.1 : Value).ownBlock ∧ some k_ ≠ (s_.2.2.2 : Value).ownBlock) s_.2.2.1 y174) ∧ (Kd.R (Kd.int .u8) 5 w' w.heap.size (fun k_ => some k_ ≠ (.slice Ao16 t162.length co16 : Value).ownBlock ∧ some k_ ≠ (.slice Ao17 t165.length co17 : Value).ownBlock ∧ some k_ ≠ (s_.1 : Value).ownBlock ∧ some k_ ≠ (s_.2.1 : Value).ownBlock ∧ some k_ ≠ (s_.2.2.1 : Value).ownBlock) s_.2.2.2 y177) ∧ (w'.heap[gb160]? = some (.cells #[.int .i64 a0_0, .int .i64 a0_1, .int .i64 a0_2, .int .i64 a0_3, .float .f64 a0_4, .slice A0_5 l0_5.length c0_5, .int .i64 a0_6, .int .i64 a0_7, .float .f64 a0_8, .slice A0_9 l0_9.length c0_9] 49 (0, 0))) ∧ (Below w.heap.size w w')) ?_ ?_
  rotate_left
  ·intro hJ2_5_9_14
   refine join_ (σ := Value × Value × Value) 4 #[true, true, true, true, true, true, true, true, true, true, true, true, true, true, false, true, false, false, false] (fun s_ => [(16, s_.1), (19, s_.2.1), (23, s_.2.2)]) (fun s_ w' => (w'.cell? ⟨gb160, 0, none⟩ = some (.int .i64 a0_0) ∧ w'.cell? ⟨gb160, 1, none⟩ = some (.int .i64 a0_1) ∧ w'.cell? ⟨gb160, 2, none⟩ = some (.int .i64 a0_2) ∧ w'.cell? ⟨gb160, 3, none⟩ = some (.int .i64 a0_3) ∧ w'.cell? ⟨gb160, 4, none⟩ = some (.float .f64 a0_4) ∧ w'.cell? ⟨gb160, 5, none⟩ = some (.slice A0_5 l0_5.length c0_5) ∧ w'.cell? ⟨gb160, 6, none⟩ = some (.int .i64 a0_6) ∧ w'.cell? ⟨gb160, 7, none⟩ = some (.int .i64 a0_7) ∧ w'.cell? ⟨gb160, 8, none⟩ = some (.float .f64 a0_8) ∧ w'.cell? ⟨gb160, 9, none⟩ = some (.slice A0_9 l0_9.length c0_9)) ∧ (Kd.R (Kd.int .u8) 5 w' w.heap.size (fun k_ => some k_ ≠ (.slice Ao17 t165.length co17 : Value).ownBlock ∧ some k_ ≠ (s_.1 : Value).ownBlock ∧ some k_ ≠ (s_.2.1 : Value).ownBlock ∧ some k_ ≠ (s_.2.2 : Value).ownBlock) (.slice Ao16 t162.length co16) t162) ∧ (Kd.R (Kd.int .u8) 5 w' w.heap.size (fun k_ => some k_ ≠ (.slice Ao16 t162.length co16 : Value).ownBlock ∧ some k_ ≠ (s_.1 : Value).ownBlock ∧ some k_ ≠ (s_.2.1 : Value).ownBlock ∧ some k_ ≠ (s_.2.2 : Value).ownBlock) (.slice Ao17 t165.length co17) t165) ∧ (Kd.R (Kd.int .u8) 5 w' w.heap.size (fun k_ => some k_ ≠ (.slice Ao16 t162.length co16 : Value).ownBlock ∧ some k_ ≠ (.slice Ao17 t165.length co17 : Value).ownBlock ∧ some k_ ≠ (s_.2.1 : Value).ownBlock ∧ some k_ ≠ (s_.2.2 : Value).ownBlock) s_.1 t168) ∧ (Kd.R (Kd.int .u8) 5 w' w.heap.size (fun k_ => some k_ ≠ (.slice Ao16 t162.length co16 : Value).ownBlock ∧ some k_ ≠ (.slice Ao17 t165.length co17 : Value).ownBlock ∧ some k_ ≠ (s_.1 : Value).ownBlock ∧ some k_ ≠ (s_.2.2 : Value).ownBlock) s_.2.1 t171) ∧ (Kd.R (Kd.int .u8) 5 w' w.heap.size (fun k_ => some k_ ≠ (.slice Ao16 t162.length co16 : Value).ownBlock ∧ some k_ ≠ (.slice Ao17 t165.length co17 : Value).ownBlock ∧ some k_ ≠ (s_.1 : Value).ownBlock ∧ some k_ ≠ (s_.2.1 : Value).ownBlock) s_.2.2 y174) ∧ (w'.heap[gb160]? = some (.cells #[.int .i64 a0_0, .int .i64 a0_1, .int .i64 a0_2, .int .i64 a0_3, .float .f64 a0_4, .slice A0_5 l0_5.length c0_5, .int .i64 a0_6, .int .i64 a0_7, .float .f64 a0_8, .slice A0_9 l0_9.length c0_9] 49 (0, 0))) ∧ (Below w.heap.size w w')) ?_ ?_
   rotate_left
   ·intro hJ2_5_9
    refine join_ (σ := Value × Value × Value) 4 #[true, true, true, true, true, true, true, true, true, false, true, true, true, true, true, true, false, false, false] (fun s_ => [(16, s_.1), (19, s_.2.1), (28, s_.2.2)]) (fun s_ w' => (w'.cell? ⟨gb160, 0, none⟩ = some (.int .i64 a0_0) ∧ w'.cell? ⟨gb160, 1, none⟩ = some (.int .i64 a0_1) ∧ w'.cell? ⟨gb160, 2, none⟩ = some (.int .i64 a0_2) ∧ w'.cell? ⟨gb160, 3, none⟩ = some (.int .i64 a0_3) ∧ w'.cell? ⟨gb160, 4, none⟩ = some (.float .f64 a0_4) ∧ w'.cell? ⟨gb160, 5, none⟩ = some (.slice A0_5 l0_5.length c0_5) ∧ w'.cell? ⟨gb160, 6, none⟩ = some (.int .i64 a0_6) ∧ w'.cell? ⟨gb160, 7, none⟩ = some (.int .i64 a0_7) ∧ w'.cell? ⟨gb160, 8, none⟩ = some (.float .f64 a0_8) ∧ w'.cell? ⟨gb160, 9, none⟩ = some (.slice A0_9 l0_9.length c0_9)) ∧ (Kd.R (Kd.int .u8) 5 w' w.heap.size (fun k_ => some k_ ≠ (.slice Ao17 t165.length co17 : Value).ownBlock ∧ some k_ ≠ (s_.1 : Value).ownBlock ∧ some k_ ≠ (s_.2.1 : Value).ownBlock ∧ some k_ ≠ (s_.2.2 : Value).ownBlock) (.slice Ao16 t162.length co16) t162) ∧ (Kd.R (Kd.int .u8) 5 w' w.heap.size (fun k_ => some k_ ≠ (.slice Ao16 t162.length co16 : Value).ownBlock ∧ some k_ ≠ (s_.1 : Value).ownBlock ∧ some k_ ≠ (s_.2.1 : Value).ownBlock ∧ some k_ ≠ (s_.2.2 : Value).ownBlock) (.slice Ao17 t165.length co17) t165) ∧ (Kd.R (Kd.int .u8) 5 w' w.heap.size (fun k_ => some k_ ≠ (.slice Ao16 t162.length co16 : Value).ownBlock ∧ some k_ ≠ (.slice Ao17 t165.length co17 : Value).ownBlock ∧ some k_ ≠ (s_.2.1 : Value).ownBlock ∧ some k_ ≠ (s_.2.2 : Value).ownBlock) s_.1 t168) ∧ (Kd.R (Kd.int .u8) 5 w' w.heap.size (fun k_ => some k_ ≠ (.slice Ao16 t162.length co16 : Value).ownBlock ∧ some k_ ≠ (.slice Ao17 t165.length co17 : Value).ownBlock ∧ some k_ ≠ (s_.1 : Value).ownBlock ∧ some k_ ≠ (s_.2.2 : Value).ownBlock) s_.2.1 t171) ∧ (Kd.R (Kd.int .u8) 5 w' w.heap.size (fun k_ => some k_ ≠ (.slice Ao16 t162.length co16 : Value).ownBlock ∧ some k_ ≠ (.slice Ao17 t165.length co17 : Value).ownBlock ∧ some k_ ≠ (s_.1 : Value).ownBlock ∧ some k_ ≠ (s_.2.1 : Value).ownBlock) s_.2.2 y177) ∧ (w'.heap[gb160]? = some (.cells #[.int .i64 a0_0, .int .i64 a0_1, .int .i64 a0_2, .int .i64 a0_3, .float .f64 a0_4, .slice A0_5 l0_5.length c0_5, .int .i64 a0_6, .int .i64 a0_7, .float .f64 a0_8, .slice A0_9 l0_9.length c0_9] 49 (0, 0))) ∧ (Below w.heap.size w w')) ?_ ?_
    rotate_left
    ·intro hJ2_5_14
     refine join_ (σ := Value × Value × Value) 4 #[true, true, true, true, true, false, true, true, true, true, true, true, true, true, true, true, false, false, false] (fun s_ => [(16, s_.1), (23, s_.2.1), (28, s_.2.2)]) (fun s_ w' => (w'.cell? ⟨gb160, 0, none⟩ = some (.int .i64 a0_0) ∧ w'.cell? ⟨gb160, 1, none⟩ = some (.int .i64 a0_1) ∧ w'.cell? ⟨gb160, 2, none⟩ = some (.int .i64 a0_2) ∧ w'.cell? ⟨gb160, 3, none⟩ = some (.int .i64 a0_3) ∧ w'.cell? ⟨gb160, 4, none⟩ = some (.float .f64 a0_4) ∧ w'.cell? ⟨gb160, 5, none⟩ = some (.slice A0_5 l0_5.length c0_5) ∧ w'.cell? ⟨gb160, 6, none⟩ = some (.int .i64 a0_6) ∧ w'.cell? ⟨gb160, 7, none⟩ = some (.int .i64 a0_7) ∧ w'.cell? ⟨gb160, 8, none⟩ = some (.float .f64 a0_8) ∧ w'.cell? ⟨gb160, 9, none⟩ = some (.slice A0_9 l0_9.length c0_9)) ∧ (Kd.R (Kd.int .u8) 5 w' w.heap.size (fun k_ => some k_ ≠ (.slice Ao17 t165.length co17 : Value).ownBlock ∧ some k_ ≠ (s_.1 : Value).ownBlock ∧ some k_ ≠ (s_.2.1 : Value).ownBlock ∧ some k_ ≠ (s_.2.2 : Value).ownBlock) (.slice Ao16 t162.length co16) t162) ∧ (Kd.R (Kd.int .u8) 5 w' w.heap.size (fun k_ => some k_ ≠ (.slice Ao16 t162.length co16 : Value).ownBlock ∧ some k_ ≠ (s_.1 : Value).ownBlock ∧ some k_ ≠ (s_.2.1 : Value).ownBlock ∧ some k_ ≠ (s_.2.2 : Value).ownBlock) (.slice Ao17 t165.length co17) t165) ∧ (Kd.R (Kd.int .u8) 5 w' w.heap.size (fun k_ => some k_ ≠ (.slice Ao16 t162.length co16 : Value).ownBlock ∧ some k_ ≠ (.slice Ao17 t165.length co17 : Value).ownBlock ∧ some k_ ≠ (s_.2.1 : Value).ownBlock ∧ some k_ ≠ (s_.2.2 : Value).ownBlock) s_.1 t168) ∧ (Kd.R (Kd.int .u8) 5 w' w.heap.size (fun k_ => some k_ ≠ (.slice Ao16 t162.length co16 : Value).ownBlock ∧ some k_ ≠ (.slice Ao17 t165.length co17 : Value).ownBlock ∧ some k_ ≠ (s_.1 : Value).ownBlock ∧ some k_ ≠ (s_.2.2 : Value).ownBlock) s_.2.1 y174) ∧ (Kd.R (Kd.int .u8) 5 w' w.heap.size (fun k_ => some k_ ≠ (.slice Ao16 t162.length co16 : Value).ownBlock ∧ some k_ ≠ (.slice Ao17 t165.length co17 : Value).ownBlock ∧ some k_ ≠ (s_.1 : Value).ownBlock ∧ some k_ ≠ (s_.2.1 : Value).ownBlock) s_.2.2 y177) ∧ (w'.heap[gb160]? = some (.cells #[.int .i64 a0_0, .int .i64 a0_1, .int .i64 a0_2, .int .i64 a0_3, .float .f64 a0_4, .slice A0_5 l0_5.length c0_5, .int .i64 a0_6, .int .i64 a0_7, .float .f64 a0_8, .slice A0_9 l0_9.length c0_9] 49 (0, 0))) ∧ (Below w.heap.size w w')) ?_ ?_
     rotate_left
     ·intro hJ2_9_14
      refine join_ (σ := Value × Value) 5 #[true, true, true, true, true, true, true, true, true, false, true, true, true, true, false, true, false, false, false] (fun s_ => [(16, s_.1), (19, s_.2)]) (fun s_ w' => (w'.cell? ⟨gb160, 0, none⟩ = some (.int .i64 a0_0) ∧ w'.cell? ⟨gb160, 1, none⟩ = some (.int .i64 a0_1) ∧ w'.cell? ⟨gb160, 2, none⟩ = some (.int .i64 a0_2) ∧ w'.cell? ⟨gb160, 3, none⟩ = some (.int .i64 a0_3) ∧ w'.cell? ⟨gb160, 4, none⟩ = some (.float .f64 a0_4) ∧ w'.cell? ⟨gb160, 5, none⟩ = some (.slice A0_5 l0_5.length c0_5) ∧ w'.cell? ⟨gb160, 6, none⟩ = some (.int .i64 a0_6) ∧ w'.cell? ⟨gb160, 7, none⟩ = some (.int .i64 a0_7) ∧ w'.cell? ⟨gb160, 8, none⟩ = some (.float .f64 a0_8) ∧ w'.cell? ⟨gb160, 9, none⟩ = some (.slice A0_9 l0_9.length c0_9)) ∧ (Kd.R (Kd.int .u8) 5 w' w.heap.size (fun k_ => some k_ ≠ (.slice Ao17 t165.length co17 : Value).ownBlock ∧ some k_ ≠ (s_.1 : Value).ownBlock ∧ some k_ ≠ (s_.2 : Value).ownBlock) (.slice Ao16 t162.length co16) t162) ∧ (Kd.R (Kd.int .u8) 5 w' w.heap.size (fun k_ => some k_ ≠ (.slice Ao16 t162.length co16 : Value).ownBlock ∧ some k_ ≠ (s_.1 : Value).ownBlock ∧ some k_ ≠ (s_.2 : Value).ownBlock) (.slice Ao17 t165.length co17) t165) ∧ (Kd.R (Kd.int .u8) 5 w' w.heap.size (fun k_ => some k_ ≠ (.slice Ao16 t162.length co16 : Value).ownBlock ∧ some k_ ≠ (.slice Ao17 t165.length co17 : Value).ownBlock ∧ some k_ ≠ (s_.2 : Value).ownBlock) s_.1 t168) ∧ (Kd.R (Kd.int .u8) 5 w' w.heap.size (fun k_ => some k_ ≠ (.slice Ao16 t162.length co16 : Value).ownBlock ∧ some k_ ≠ (.slice Ao17 t165.length co17 : Value).ownBlock ∧ some k_ ≠ (s_.1 : Value).ownBlock) s_.2 t171) ∧ (w'.heap[gb160]? = some (.cells #[.int .i64 a0_0, .int .i64 a0_1, .int .i64 a0_2, .int .i64 a0_3, .float .f64 a0_4, .slice A0_5 l0_5.length c0_5, .int .i64 a0_6, .int .i64 a0_7, .float .f64 a0_8, .slice A0_9 l0_9.length c0_9] 49 (0, 0))) ∧ (Below w.heap.size w w')) ?_ ?_
      rotate_left
      ·intro hJ2_5
       refine join_ (σ := Value × Value) 5 #[true, true, true, true, true, false, true, true, true, true, true, true, true, true, false, true, false, false, false] (fun s_ => [(16, s_.1), (23, s_.2)]) (fun s_ w' => (w'.cell? ⟨gb160, 0, none⟩ = some (.int .i64 a0_0) ∧ w'.cell? ⟨gb160, 1, none⟩ = some (.int .i64 a0_1) ∧ w'.cell? ⟨gb160, 2, none⟩ = some (.int .i64 a0_2) ∧ w'.cell? ⟨gb160, 3, none⟩ = some (.int .i64 a0_3) ∧ w'.cell? ⟨gb160, 4, none⟩ = some (.float .f64 a0_4) ∧ w'.cell? ⟨gb160, 5, none⟩ = some (.slice A0_5 l0_5.length c0_5) ∧ w'.cell? ⟨gb160, 6, none⟩ = some (.int .i64 a0_6) ∧ w'.cell? ⟨gb160, 7, none⟩ = some (.int .i64 a0_7) ∧ w'.cell? ⟨gb160, 8, none⟩ = some (.float .f64 a0_8) ∧ w'.cell? ⟨gb160, 9, none⟩ = some (.slice A0_9 l0_9.length c0_9)) ∧ (Kd.R (Kd.int .u8) 5 w' w.heap.size (fun k_ => some k_ ≠ (.slice Ao17 t165.length co17 : Value).ownBlock ∧ some k_ ≠ (s_.1 : Value).ownBlock ∧ some k_ ≠ (s_.2 : Value).ownBlock) (.slice Ao16 t162.length co16) t162) ∧ (Kd.R (Kd.int .u8) 5 w' w.heap.size (fun k_ => some k_ ≠ (.slice Ao16 t162.length co16 : Value).ownBlock ∧ some k_ ≠ (s_.1 : Value).ownBlock ∧ some k_ ≠ (s_.2 : Value).ownBlock) (.slice Ao17 t165.length co17) t165) ∧ (Kd.R (Kd.int .u8) 5 w' w.heap.size (fun k_ => some k_ ≠ (.slice Ao16 t162.length co16 : Value).ownBlock ∧ some k_ ≠ (.slice Ao17 t165.length co17 : Value).ownBlock ∧ some k_ ≠ (s_.2 : Value).ownBlock) s_.1 t168) ∧ (Kd.R (Kd.int .u8) 5 w' w.heap.size (fun k_ => some k_ ≠ (.slice Ao16 t162.length co16 : Value).ownBlock ∧ some k_ ≠ (.slice Ao17 t165.length co17 : Value).ownBlock ∧ some k_ ≠ (s_.1 : Value).ownBlock) s_.2 y174) ∧ (w'.heap[gb160]? = some (.cells #[.int .i64 a0_0, .int .i64 a0_1, .int .i64 a0_2, .int .i64 a0_3, .float .f64 a0_4, .slice A0_5 l0_5.length c0_5, .int .i64 a0_6, .int .i64 a0_7, .float .f64 a0_8, .slice A0_9 l0_9.length c0_9] 49 (0, 0))) ∧ (Below w.heap.size w w')) ?_ ?_
       rotate_left
       ·intro hJ2_9
        refine join_ (σ := Value × Value) 5 #[true, true, true, true, true, false, true, true, true, false, true, true, true, true, true, true, false, false, false] (fun s_ => [(16, s_.1), (28, s_.2)]) (fun s_ w' => (w'.cell? ⟨gb160, 0, none⟩ = some (.int .i64 a0_0) ∧ w'.cell? ⟨gb160, 1, none⟩ = some (.int .i64 a0_1) ∧ w'.cell? ⟨gb160, 2, none⟩ = some (.int .i64 a0_2) ∧ w'.cell? ⟨gb160, 3, none⟩ = some (.int .i64 a0_3) ∧ w'.cell? ⟨gb160, 4, none⟩ = some (.float .f64 a0_4) ∧ w'.cell? ⟨gb160, 5, none⟩ = some (.slice A0_5 l0_5.length c0_5) ∧ w'.cell? ⟨gb160, 6, none⟩ = some (.int .i64 a0_6) ∧ w'.cell? ⟨gb160, 7, none⟩ = some (.int .i64 a0_7) ∧ w'.cell? ⟨gb160, 8, none⟩ = some (.float .f64 a0_8) ∧ w'.cell? ⟨gb160, 9, none⟩ = some (.slice A0_9 l0_9.length c0_9)) ∧ (Kd.R (Kd.int .u8) 5 w' w.heap.size (fun k_ => some k_ ≠ (.slice Ao17 t165.length co17 : Value).ownBlock ∧ some k_ ≠ (s_.1 : Value).ownBlock ∧ some k_ ≠ (s_.2 : Value).ownBlock) (.slice Ao16 t162.length co16) t162) ∧ (Kd.R (Kd.int .u8) 5 w' w.heap.size (fun k_ => some k_ ≠ (.slice Ao16 t162.length co16 : Value).ownBlock ∧ some k_ ≠ (s_.1 : Value).ownBlock ∧ some k_ ≠ (s_.2 : Value).ownBlock) (.slice Ao17 t165.length co17) t165) ∧ (Kd.R (Kd.int .u8) 5 w' w.heap.size (fun k_ => some k_ ≠ (.slice Ao16 t162.length co16 : Value).ownBlock ∧ some k_ ≠ (.slice Ao17 t165.length co17 : Value).ownBlock ∧ some k_ ≠ (s_.2 : Value).ownBlock) s_.1 t168) ∧ (Kd.R (Kd.int .u8) 5 w' w.heap.size (fun k_ => some k_ ≠ (.slice Ao16 t162.length co16 : Value).ownBlock ∧ some k_ ≠ (.slice Ao17 t165.length co17 : Value).ownBlock ∧ some k_ ≠ (s_.1 : Value).ownBlock) s_.2 y177) ∧ (w'.heap[gb160]? = some (.cells #[.int .i64 a0_0, .int .i64 a0_1, .int .i64 a0_2, .int .i64 a0_3, .float .f64 a0_4, .slice A0_5 l0_5.length c0_5, .int .i64 a0_6, .int .i64 a0_7, .float .f64 a0_8, .slice A0_9 l0_9.length c0_9] 49 (0, 0))) ∧ (Below w.heap.size w w')) ?_ ?_
        rotate_left
        ·intro hJ2_14
         refine join_ (σ := Value × Value) 5 #[true, true, false, true, true, false, true, true, true, true, true, true, true, true, true, true, false, false, false] (fun s_ => [(23, s_.1), (28, s_.2)]) (fun s_ w' => (w'.cell? ⟨gb160, 0, none⟩ = some (.int .i64 a0_0) ∧ w'.cell? ⟨gb160, 1, none⟩ = some (.int .i64 a0_1) ∧ w'.cell? ⟨gb160, 2, none⟩ = some (.int .i64 a0_2) ∧ w'.cell? ⟨gb160, 3, none⟩ = some (.int .i64 a0_3) ∧ w'.cell? ⟨gb160, 4, none⟩ = some (.float .f64 a0_4) ∧ w'.cell? ⟨gb160, 5, none⟩ = some (.slice A0_5 l0_5.length c0_5) ∧ w'.cell? ⟨gb160, 6, none⟩ = some (.int .i64 a0_6) ∧ w'.cell? ⟨gb160, 7, none⟩ = some (.int .i64 a0_7) ∧ w'.cell? ⟨gb160, 8, none⟩ = some (.float .f64 a0_8) ∧ w'.cell? ⟨gb160, 9, none⟩ = some (.slice A0_9 l0_9.length c0_9)) ∧ (Kd.R (Kd.int .u8) 5 w' w.heap.size (fun k_ => some k_ ≠ (.slice Ao17 t165.length co17 : Value).ownBlock ∧ some k_ ≠ (s_.1 : Value).ownBlock ∧ some k_ ≠ (s_.2 : Value).ownBlock) (.slice Ao16 t162.length co16) t162) ∧ (Kd.R (Kd.int .u8) 5 w' w.heap.size (fun k_ => some k_ ≠ (.slice Ao16 t162.length co16 : Value).ownBlock ∧ some k_ ≠ (s_.1 : Value).ownBlock ∧ some k_ ≠ (s_.2 : Value).ownBlock) (.slice Ao17 t165.length co17) t165) ∧ (Kd.R (Kd.int .u8) 5 w' w.heap.size (fun k_ => some k_ ≠ (.slice Ao16 t162.length co16 : Value).ownBlock ∧ some k_ ≠ (.slice Ao17 t165.length co17 : Value).ownBlock ∧ some k_ ≠ (s_.2 : Value).ownBlock) s_.1 y174) ∧ (Kd.R (Kd.int .u8) 5 w' w.heap.size (fun k_ => some k_ ≠ (.slice Ao16 t162.length co16 : Value).ownBlock ∧ some k_ ≠ (.slice Ao17 t165.length co17 : Value).ownBlock ∧ some k_ ≠ (s_.1 : Value).ownBlock) s_.2 y177) ∧ (w'.heap[gb160]? = some (.cells #[.int .i64 a0_0, .int .i64 a0_1, .int .i64 a0_2, .int .i64 a0_3, .float .f64 a0_4, .slice A0_5 l0_5.length c0_5, .int .i64 a0_6, .int .i64 a0_7, .float .f64 a0_8, .slice A0_9 l0_9.length c0_9] 49 (0, 0))) ∧ (Below w.heap.size w w')) ?_ ?_
         rotate_left
         ·intro hJ9_14
          refine join_ (σ := Value) 6 #[true, true, true, true, true, false, true, true, true, false, true, true, true, true, false, true, false, false, false] (fun s_ => [(16, s_)]) (fun s_ w' => (w'.cell? ⟨gb160, 0, none⟩ = some (.int .i64 a0_0) ∧ w'.cell? ⟨gb160, 1, none⟩ = some (.int .i64 a0_1) ∧ w'.cell? ⟨gb160, 2, none⟩ = some (.int .i64 a0_2) ∧ w'.cell? ⟨gb160, 3, none⟩ = some (.int .i64 a0_3) ∧ w'.cell? ⟨gb160, 4, none⟩ = some (.float .f64 a0_4) ∧ w'.cell? ⟨gb160, 5, none⟩ = some (.slice A0_5 l0_5.length c0_5) ∧ w'.cell? ⟨gb160, 6, none⟩ = some (.int .i64 a0_6) ∧ w'.cell? ⟨gb160, 7, none⟩ = some (.int .i64 a0_7) ∧ w'.cell? ⟨gb160, 8, none⟩ = some (.float .f64 a0_8) ∧ w'.cell? ⟨gb160, 9, none⟩ = some (.slice A0_9 l0_9.length c0_9)) ∧ (Kd.R (Kd.int .u8) 5 w' w.heap.size (fun k_ => some k_ ≠ (.slice Ao17 t165.length co17 : Value).ownBlock ∧ some k_ ≠ (s_ : Value).ownBlock) (.slice Ao16 t162.length co16) t162) ∧ (Kd.R (Kd.int .u8) 5 w' w.heap.size (fun k_ => some k_ ≠ (.slice Ao16 t162.length co16 : Value).ownBlock ∧ some k_ ≠ (s_ : Value).ownBlock) (.slice Ao17 t165.length co17) t165) ∧ (Kd.R (Kd.int .u8) 5 w' w.heap.size (fun k_ => some k_ ≠ (.slice Ao16 t162.length co16 : Value).ownBlock ∧ some k_ ≠ (.slice Ao17 t165.length co17 : Value).ownBlock) s_ t168) ∧ (w'.heap[gb160]? = some (.cells #[.int .i64 a0_0, .int .i64 a0_1, .int .i64 a0_2, .int .i64 a0_3, .float .f64 a0_4, .slice A0_5 l0_5.length c0_5, .int .i64 a0_6, .int .i64 a0_7, .float .f64 a0_8, .slice A0_9 l0_9.length c0_9] 49 (0, 0))) ∧ (Below w.heap.size w w')) ?_ ?_
          rotate_left
          ·intro hJ2
           refine join_ (σ := Value) 6 #[true, true, false, true, true, false, true, true, true, true, true, true, true, true, false, true, false, false, false] (fun s_ => [(23, s_)]) (fun s_ w' => (w'.cell? ⟨gb160, 0, none⟩ = some (.int .i64 a0_0) ∧ w'.cell? ⟨gb160, 1, none⟩ = some (.int .i64 a0_1) ∧ w'.cell? ⟨gb160, 2, none⟩ = some (.int .i64 a0_2) ∧ w'.cell? ⟨gb160, 3, none⟩ = some (.int .i64 a0_3) ∧ w'.cell? ⟨gb160, 4, none⟩ = some (.float .f64 a0_4) ∧ w'.cell? ⟨gb160, 5, none⟩ = some (.slice A0_5 l0_5.length c0_5) ∧ w'.cell? ⟨gb160, 6, none⟩ = some (.int .i64 a0_6) ∧ w'.cell? ⟨gb160, 7, none⟩ = some (.int .i64 a0_7) ∧ w'.cell? ⟨gb160, 8, none⟩ = some (.float .f64 a0_8) ∧ w'.cell? ⟨gb160, 9, none⟩ = some (.slice A0_9 l0_9.length c0_9)) ∧ (Kd.R (Kd.int .u8) 5 w' w.heap.size (fun k_ => some k_ ≠ (.slice Ao17 t165.length co17 : Value).ownBlock ∧ some k_ ≠ (s_ : Value).ownBlock) (.slice Ao16 t162.length co16) t162) ∧ (Kd.R (Kd.int .u8) 5 w' w.heap.size (fun k_ => some k_ ≠ (.slice Ao16 t162.length co16 : Value).ownBlock ∧ some k_ ≠ (s_ : Value).ownBlock) (.slice Ao17 t165.length co17) t165) ∧ (Kd.R (Kd.int .u8) 5 w' w.heap.size (fun k_ => some k_ ≠ (.slice Ao16 t162.length co16 : Value).ownBlock ∧ some k_ ≠ (.slice Ao17 t165.length co17 : Value).ownBlock) s_ y174) ∧ (w'.heap[gb160]? = some (.cells #[.int .i64 a0_0, .int .i64 a0_1, .int .i64 a0_2, .int .i64 a0_3, .float .f64 a0_4, .slice A0_5 l0_5.length c0_5, .int .i64 a0_6, .int .i64 a0_7, .float .f64 a0_8, .slice A0_9 l0_9.length c0_9] 49 (0, 0))) ∧ (Below w.heap.size w w')) ?_ ?_
           rotate_left
           ·intro hJ9
            refine join_ (σ := Value) 6 #[true, true, false, true, true, false, true, true, true, false, true, true, true, true, true, true, false, false, false] (fun s_ => [(28, s_)]) (fun s_ w' => (w'.cell? ⟨gb160, 0, none⟩ = some (.int .i64 a0_0) ∧ w'.cell? ⟨gb160, 1, none⟩ = some (.int .i64 a0_1) ∧ w'.cell? ⟨gb160, 2, none⟩ = some (.int .i64 a0_2) ∧ w'.cell? ⟨gb160, 3, none⟩ = some (.int .i64 a0_3) ∧ w'.cell? ⟨gb160, 4, none⟩ = some (.float .f64 a0_4) ∧ w'.cell? ⟨gb160, 5, none⟩ = some (.slice A0_5 l0_5.length c0_5) ∧ w'.cell? ⟨gb160, 6, none⟩ = some (.int .i64 a0_6) ∧ w'.cell? ⟨gb160, 7, none⟩ = some (.int .i64 a0_7) ∧ w'.cell? ⟨gb160, 8, none⟩ = some (.float .f64 a0_8) ∧ w'.cell? ⟨gb160, 9, none⟩ = some (.slice A0_9 l0_9.length c0_9)) ∧ (Kd.R (Kd.int .u8) 5 w' w.heap.size (fun k_ => some k_ ≠ (.slice Ao17 t165.length co17 : Value).ownBlock ∧ some k_ ≠ (s_ : Value).ownBlock) (.slice Ao16 t162.length co16) t162) ∧ (Kd.R (Kd.int .u8) 5 w' w.heap.size (fun k_ => some k_ ≠ (.slice Ao16 t162.length co16 : Value).ownBlock ∧ some k_ ≠ (s_ : Value).ownBlock) (.slice Ao17 t165.length co17) t165) ∧ (Kd.R (Kd.int .u8) 5 w' w.heap.size (fun k_ => some k_ ≠ (.slice Ao16 t162.length co16 : Value).ownBlock ∧ some k_ ≠ (.slice Ao17 t165.length co17 : Value).ownBlock) s_ y177) ∧ (w'.heap[gb160]? = some (.cells #[.int .i64 a0_0, .int .i64 a0_1, .int .i64 a0_2, .int .i64 a0_3, .float .f64 a0_4, .slice A0_5 l0_5.length c0_5, .int .i64 a0_6, .int .i64 a0_7, .float .f64 a0_8, .slice A0_9 l0_9.length c0_9] 49 (0, 0))) ∧ (Below w.heap.size w w')) ?_ ?_
            rotate_left
            ·intro hJ14
             refine three_ (i := 2) (j := 9) (k := 14) (Ni := some 16) (Nj := some 23) (Nk := some 28) #[true, true, true, true, true, false, true, true, true, false, true, true, true, true, false, true, false, false, false] #[true, true, false, true, true, false, true, true, true, true, true, true, true, true, false, true, false, false, false] #[true, true, false, true, true, false, true, true, true, false, true, true, true, true, true, true, false, false, false] rfl rfl rfl rfl rfl rfl (three_of HT_.out (by kernel_rfl)) (by decide) (by decide) (by decide) (fun K hK => ?_) (fun K hK => ?_) (fun K hK => ?_)
             ·skip
              refine goes_ Try.func74 (by kernel_rfl) rfl #[.int .i64 a0_0, .int .i64 4] (by rfl) rfl rfl (by (try simp only [List.map_toArray, List.map_cons, List.map_nil]); first | done | rfl) ?_
              with_reducible refine (impl_PutNum.calls k a0_0 4 t168 _ A6.out).mono ?_
              rintro e w18 ⟨v169, rfl, ho0, hb⟩
              refine ⟨_, rfl, ?_⟩
              have n0_ := Aside0.mk (Kd.R_elder' (Kd.rup HO164.out) (Kd.R_base ho0) hb)
              have n1_ := Aside0.mk (Kd.R_elder' (Kd.rup HO167.out) (Kd.R_base ho0) hb)
              have n2_ := Aside0.mk (Kd.R_lower (Kd.R_new' (Kd.R_new' ho0 (Kd.R_lt (Kd.rup HO164.out))) (Kd.R_lt (Kd.rup HO167.out))) (below_size (hset HB.out)))
              have n3_ := Aside0.mk (blk_below (bup BK160.out) hb)
              have n4_ := Aside0.mk (below_step (hset HB.out) hb)
              clear HO164
              clear HO167
              clear BK160
              clear HB
              have HO164 := n0_
              have HO167 := n1_
              have HO170 := n2_
              have BK160 := n3_
              have HB := n4_
              clear n0_ n1_ n2_ n3_ n4_
              (try clear hb)
              (try clear hb2)
              (try clear hk)
              (try clear hi)
              (try clear ho0)
              refine hK.out _ _ (blk_cells10 BK160.out) (fun hHeld => ?_)
              clear hK K
              refine norm_ (a' := ?_) ?_ ?_
              rotate_left
              ·show Act.put _ (some 16) _ = _
               simp only [Act.put, List.setIfInBounds_toArray, List.set_cons_zero, List.set_cons_succ, i64_w, i32_w]
               rfl
              exact norm_ (by first | (simp only [putAll, Act.put, List.setIfInBounds_toArray, List.set_cons_zero, List.set_cons_succ]; done) | (simp only [putAll, Act.put, List.setIfInBounds_toArray, List.set_cons_zero, List.set_cons_succ]; rfl)) (hJ2 (v169) _ ⟨hHeld, (by exact Kd.rup (Kd.R_mono HO164.out (fun _ hk => ⟨hk.1.2, hk.2⟩))), (by exact Kd.rup (Kd.R_mono HO167.out (fun _ hk => ⟨hk.1.2, hk.2⟩))), (by exact Kd.rup (Kd.R_mono HO170.out (fun _ hk => ⟨hk.1.2, hk.2⟩))), (bup BK160.out), (hset HB.out)⟩)
             ·skip
              refine Kd.R_lit_step (Kd.int .u8) _ 5 ?hg (N := 23) ?hd (xs := ([((t162.length : Int)) % 256] : List Int)) (inner := [.int .u8 (((t162.length : Int)) % 256)]) (ok := fun _ => True) (okp := fun _ => True) ?hr ?hp (fun _ hk => hk) trivial (Below.refl _ _) (Nat.le_refl _) (by simp) ?_; (case hd => rfl); (case hg => rfl); (case hr => first | (go_simp; done) | (go_simp; rfl)); (case hp => exact (Reps.one (show Kd.M (Kd.int .u8) _ _ _ (((t162.length : Int)) % 256) [.int .u8 (((t162.length : Int)) % 256)] from rfl) (Reps.none _ _)))
              intro v175 w18 ho19 hb hg_ hnew_
              clear hg_ hnew_
              (first | rw [← Ny174.out] at ho19 | (simp only [Int.reduceToNat] at ho19; rw [← Ny174.out] at ho19))
              have n0_ := Aside0.mk (Kd.R_elder' (Kd.rup HO164.out) (Kd.R_base ho19) hb)
              have n1_ := Aside0.mk (Kd.R_elder' (Kd.rup HO167.out) (Kd.R_base ho19) hb)
              have n2_ := Aside0.mk (Kd.R_lower (Kd.R_new' (Kd.R_new' ho19 (Kd.R_lt (Kd.rup HO164.out))) (Kd.R_lt (Kd.rup HO167.out))) (below_size (hset HB.out)))
              have n3_ := Aside0.mk (blk_below (bup BK160.out) hb)
              have n4_ := Aside0.mk (below_step (hset HB.out) hb)
              clear HO164
              clear HO167
              clear BK160
              clear HB
              have HO164 := n0_
              have HO167 := n1_
              have HO176 := n2_
              have BK160 := n3_
              have HB := n4_
              clear n0_ n1_ n2_ n3_ n4_
              clear hb ho19
              refine hK.out _ _ (blk_cells10 BK160.out) (fun hHeld => ?_)
              clear hK K
              refine norm_ (a' := ?_) ?_ ?_
              rotate_left
              ·show Act.put _ (some 23) _ = _
               simp only [Act.put, List.setIfInBounds_toArray, List.set_cons_zero, List.set_cons_succ, i64_w, i32_w]
               rfl
              exact norm_ (by first | (simp only [putAll, Act.put, List.setIfInBounds_toArray, List.set_cons_zero, List.set_cons_succ]; done) | (simp only [putAll, Act.put, List.setIfInBounds_toArray, List.set_cons_zero, List.set_cons_succ]; rfl)) (hJ9 (v175) _ ⟨hHeld, (by exact Kd.rup (Kd.R_mono HO164.out (fun _ hk => ⟨hk.1.2, hk.2⟩))), (by exact Kd.rup (Kd.R_mono HO167.out (fun _ hk => ⟨hk.1.2, hk.2⟩))), (by exact Kd.rup (Kd.R_mono HO176.out (fun _ hk => ⟨hk.1.2, hk.2⟩))), (bup BK160.out), (hset HB.out)⟩)
             ·skip
              refine Kd.R_lit_step (Kd.int .u8) _ 5 ?hg (N := 28) ?hd (xs := ([((t165.length : Int)) % 256] : List Int)) (inner := [.int .u8 (((t165.length : Int)) % 256)]) (ok := fun _ => True) (okp := fun _ => True) ?hr ?hp (fun _ hk => hk) trivial (Below.refl _ _) (Nat.le_refl _) (by simp) ?_; (case hd => rfl); (case hg => rfl); (case hr => first | (go_simp; done) | (go_simp; rfl)); (case hp => exact (Reps.one (show Kd.M (Kd.int .u8) _ _ _ (((t165.length : Int)) % 256) [.int .u8 (((t165.length : Int)) % 256)] from rfl) (Reps.none _ _)))
              intro v178 w18 ho19 hb hg_ hnew_
              clear hg_ hnew_
              (first | rw [← Ny177.out] at ho19 | (simp only [Int.reduceToNat] at ho19; rw [← Ny177.out] at ho19))
              have n0_ := Aside0.mk (Kd.R_elder' (Kd.rup HO164.out) (Kd.R_base ho19) hb)
              have n1_ := Aside0.mk (Kd.R_elder' (Kd.rup HO167.out) (Kd.R_base ho19) hb)
              have n2_ := Aside0.mk (Kd.R_lower (Kd.R_new' (Kd.R_new' ho19 (Kd.R_lt (Kd.rup HO164.out))) (Kd.R_lt (Kd.rup HO167.out))) (below_size (hset HB.out)))
              have n3_ := Aside0.mk (blk_below (bup BK160.out) hb)
              have n4_ := Aside0.mk (below_step (hset HB.out) hb)
              clear HO164
              clear HO167
              clear BK160
              clear HB
              have HO164 := n0_
              have HO167 := n1_
              have HO179 := n2_
              have BK160 := n3_
              have HB := n4_
              clear n0_ n1_ n2_ n3_ n4_
              clear hb ho19
              refine hK.out _ _ (blk_cells10 BK160.out) (fun hHeld => ?_)
              clear hK K
              refine norm_ (a' := ?_) ?_ ?_
              rotate_left
              ·show Act.put _ (some 28) _ = _
               simp only [Act.put, List.setIfInBounds_toArray, List.set_cons_zero, List.set_cons_succ, i64_w, i32_w]
               rfl
              exact norm_ (by first | (simp only [putAll, Act.put, List.setIfInBounds_toArray, List.set_cons_zero, List.set_cons_succ]; done) | (simp only [putAll, Act.put, List.setIfInBounds_toArray, List.set_cons_zero, List.set_cons_succ]; rfl)) (hJ14 (v178) _ ⟨hHeld, (by exact Kd.rup (Kd.R_mono HO164.out (fun _ hk => ⟨hk.1.2, hk.2⟩))), (by exact Kd.rup (Kd.R_mono HO167.out (fun _ hk => ⟨hk.1.2, hk.2⟩))), (by exact Kd.rup (Kd.R_mono HO179.out (fun _ hk => ⟨hk.1.2, hk.2⟩))), (bup BK160.out), (hset HB.out)⟩)
            ·skip
             rintro v178 w20 ⟨hS_, h0_, h1_, h2_, h3_, h4_⟩
             have n0_ : Aside0 (Kd.R (Kd.int .u8) 5 w20 w.heap.size (fun k_ => some k_ ≠ (.slice Ao17 t165.length co17 : Value).ownBlock ∧ some k_ ≠ (v178 : Value).ownBlock) (.slice Ao16 t162.length co16) t162) := ⟨h0_⟩
             have n1_ : Aside0 (Kd.R (Kd.int .u8) 5 w20 w.heap.size (fun k_ => some k_ ≠ (.slice Ao16 t162.length co16 : Value).ownBlock ∧ some k_ ≠ (v178 : Value).ownBlock) (.slice Ao17 t165.length co17) t165) := ⟨h1_⟩
             have n2_ : Aside0 (Kd.R (Kd.int .u8) 5 w20 w.heap.size (fun k_ => some k_ ≠ (.slice Ao16 t162.length co16 : Value).ownBlock ∧ some k_ ≠ (.slice Ao17 t165.length co17 : Value).ownBlock) v178 y177) := ⟨h2_⟩
             have n3_ : Aside0 (w20.heap[gb160]? = some (.cells #[.int .i64 a0_0, .int .i64 a0_1, .int .i64 a0_2, .int .i64 a0_3, .float .f64 a0_4, .slice A0_5 l0_5.length c0_5, .int .i64 a0_6, .int .i64 a0_7, .float .f64 a0_8, .slice A0_9 l0_9.length c0_9] 49 (0, 0))) := ⟨h3_⟩
             have n4_ : Aside0 (Below w.heap.size w w20) := ⟨h4_⟩
             clear HO164
             clear HO167
             clear BK160
             clear HB
             clear h0_ h1_ h2_ h3_ h4_
             have HO164 := n0_
             have HO167 := n1_
             have HO179 := n2_
             have BK160 := n3_
             have HB := n4_
             clear n0_ n1_ n2_ n3_ n4_
             have hHeld : w20.cell? ⟨gb160, 0, none⟩ = some (.int .i64 a0_0) ∧ w20.cell? ⟨gb160, 1, none⟩ = some (.int .i64 a0_1) ∧ w20.cell? ⟨gb160, 2, none⟩ = some (.int .i64 a0_2) ∧ w20.cell? ⟨gb160, 3, none⟩ = some (.int .i64 a0_3) ∧ w20.cell? ⟨gb160, 4, none⟩ = some (.float .f64 a0_4) ∧ w20.cell? ⟨gb160, 5, none⟩ = some (.slice A0_5 l0_5.length c0_5) ∧ w20.cell? ⟨gb160, 6, none⟩ = some (.int .i64 a0_6) ∧ w20.cell? ⟨gb160, 7, none⟩ = some (.int .i64 a0_7) ∧ w20.cell? ⟨gb160, 8, none⟩ = some (.float .f64 a0_8) ∧ w20.cell? ⟨gb160, 9, none⟩ = some (.slice A0_9 l0_9.length c0_9) := hS_
             refine norm_ (a' := ?_) ?_ ?_
             rotate_left
             ·simp only [putAll, Act.put, List.setIfInBounds_toArray, List.set_cons_zero, List.set_cons_succ]
              rfl
             refine two_ (i := 2) (j := 9) (Ni := some 16) (Nj := some 23) #[true, true, true, true, true, false, true, true, true, false, true, true, true, true, true, true, false, false, false] #[true, true, false, true, true, false, true, true, true, true, true, true, true, true, true, true, false, false, false] rfl rfl rfl rfl (two_of HT_.out (by kernel_rfl)) (by decide) (by decide) (fun K hK => ?_) (fun K hK => ?_)
             ·skip
              refine goes_ Try.func74 (by kernel_rfl) rfl #[.int .i64 a0_0, .int .i64 4] (by rfl) rfl rfl (by (try simp only [List.map_toArray, List.map_cons, List.map_nil]); first | done | rfl) ?_
              with_reducible refine (impl_PutNum.calls k a0_0 4 t168 _ A6.out).mono ?_
              rintro e w21 ⟨v169, rfl, ho0, hb⟩
              refine ⟨_, rfl, ?_⟩
              have n0_ := Aside0.mk (Kd.R_elder' (Kd.rup HO164.out) (Kd.R_base ho0) hb)
              have n1_ := Aside0.mk (Kd.R_elder' (Kd.rup HO167.out) (Kd.R_base ho0) hb)
              have n2_ := Aside0.mk (Kd.R_elder' (Kd.rup HO179.out) (Kd.R_base ho0) hb)
              have n3_ := Aside0.mk (Kd.R_lower (Kd.R_new' (Kd.R_new' (Kd.R_new' ho0 (Kd.R_lt (Kd.rup HO164.out))) (Kd.R_lt (Kd.rup HO167.out))) (Kd.R_lt (Kd.rup HO179.out))) (below_size (hset HB.out)))
              have n4_ := Aside0.mk (blk_below (bup BK160.out) hb)
              have n5_ := Aside0.mk (below_step (hset HB.out) hb)
              clear HO164
              clear HO167
              clear HO179
              clear BK160
              clear HB
              have HO164 := n0_
              have HO167 := n1_
              have HO179 := n2_
              have HO170 := n3_
              have BK160 := n4_
              have HB := n5_
              clear n0_ n1_ n2_ n3_ n4_ n5_
              (try clear hb)
              (try clear hb2)
              (try clear hk)
              (try clear hi)
              (try clear ho0)
              refine hK.out _ _ (blk_cells10 BK160.out) (fun hHeld => ?_)
              clear hK K
              refine norm_ (a' := ?_) ?_ ?_
              rotate_left
              ·show Act.put _ (some 16) _ = _
               simp only [Act.put, List.setIfInBounds_toArray, List.set_cons_zero, List.set_cons_succ, i64_w, i32_w]
               rfl
              exact norm_ (by first | (simp only [putAll, Act.put, List.setIfInBounds_toArray, List.set_cons_zero, List.set_cons_succ]; done) | (simp only [putAll, Act.put, List.setIfInBounds_toArray, List.set_cons_zero, List.set_cons_succ]; rfl)) (hJ2_14 (v169, v178) _ ⟨hHeld, (by exact Kd.rup (Kd.R_mono HO164.out (fun _ hk => ⟨hk.1.1, ⟨hk.2, hk.1.2⟩⟩))), (by exact Kd.rup (Kd.R_mono HO167.out (fun _ hk => ⟨hk.1.1, ⟨hk.2, hk.1.2⟩⟩))), (by exact Kd.rup (Kd.R_mono HO170.out (fun _ hk => ⟨hk.1.1.2, ⟨hk.1.2, hk.2⟩⟩))), (by exact Kd.rup (Kd.R_mono HO179.out (fun _ hk => ⟨hk.1.1, ⟨hk.1.2, hk.2⟩⟩))), (bup BK160.out), (hset HB.out)⟩)
             ·skip
              refine Kd.R_lit_step (Kd.int .u8) _ 5 ?hg (N := 23) ?hd (xs := ([((t162.length : Int)) % 256] : List Int)) (inner := [.int .u8 (((t162.length : Int)) % 256)]) (ok := fun _ => True) (okp := fun _ => True) ?hr ?hp (fun _ hk => hk) trivial (Below.refl _ _) (Nat.le_refl _) (by simp) ?_; (case hd => rfl); (case hg => rfl); (case hr => first | (go_simp; done) | (go_simp; rfl)); (case hp => exact (Reps.one (show Kd.M (Kd.int .u8) _ _ _ (((t162.length : Int)) % 256) [.int .u8 (((t162.length : Int)) % 256)] from rfl) (Reps.none _ _)))
              intro v175 w21 ho22 hb hg_ hnew_
              clear hg_ hnew_
              (first | rw [← Ny174.out] at ho22 | (simp only [Int.reduceToNat] at ho22; rw [← Ny174.out] at ho22))
              have n0_ := Aside0.mk (Kd.R_elder' (Kd.rup HO164.out) (Kd.R_base ho22) hb)
              have n1_ := Aside0.mk (Kd.R_elder' (Kd.rup HO167.out) (Kd.R_base ho22) hb)
              have n2_ := Aside0.mk (Kd.R_elder' (Kd.rup HO179.out) (Kd.R_base ho22) hb)
              have n3_ := Aside0.mk (Kd.R_lower (Kd.R_new' (Kd.R_new' (Kd.R_new' ho22 (Kd.R_lt (Kd.rup HO164.out))) (Kd.R_lt (Kd.rup HO167.out))) (Kd.R_lt (Kd.rup HO179.out))) (below_size (hset HB.out)))
              have n4_ := Aside0.mk (blk_below (bup BK160.out) hb)
              have n5_ := Aside0.mk (below_step (hset HB.out) hb)
              clear HO164
              clear HO167
              clear HO179
              clear BK160
              clear HB
              have HO164 := n0_
              have HO167 := n1_
              have HO179 := n2_
              have HO176 := n3_
              have BK160 := n4_
              have HB := n5_
              clear n0_ n1_ n2_ n3_ n4_ n5_
              clear hb ho22
              refine hK.out _ _ (blk_cells10 BK160.out) (fun hHeld => ?_)
              clear hK K
              refine norm_ (a' := ?_) ?_ ?_
              rotate_left
              ·show Act.put _ (some 23) _ = _
               simp only [Act.put, List.setIfInBounds_toArray, List.set_cons_zero, List.set_cons_succ, i64_w, i32_w]
               rfl
              exact norm_ (by first | (simp only [putAll, Act.put, List.setIfInBounds_toArray, List.set_cons_zero, List.set_cons_succ]; done) | (simp only [putAll, Act.put, List.setIfInBounds_toArray, List.set_cons_zero, List.set_cons_succ]; rfl)) (hJ9_14 (v175, v178) _ ⟨hHeld, (by exact Kd.rup (Kd.R_mono HO164.out (fun _ hk => ⟨hk.1.1, ⟨hk.2, hk.1.2⟩⟩))), (by exact Kd.rup (Kd.R_mono HO167.out (fun _ hk => ⟨hk.1.1, ⟨hk.2, hk.1.2⟩⟩))), (by exact Kd.rup (Kd.R_mono HO176.out (fun _ hk => ⟨hk.1.1.2, ⟨hk.1.2, hk.2⟩⟩))), (by exact Kd.rup (Kd.R_mono HO179.out (fun _ hk => ⟨hk.1.1, ⟨hk.1.2, hk.2⟩⟩))), (bup BK160.out), (hset HB.out)⟩)
           ·skip
            rintro v175 w20 ⟨hS_, h0_, h1_, h2_, h3_, h4_⟩
            have n0_ : Aside0 (Kd.R (Kd.int .u8) 5 w20 w.heap.size (fun k_ => some k_ ≠ (.slice Ao17 t165.length co17 : Value).ownBlock ∧ some k_ ≠ (v175 : Value).ownBlock) (.slice Ao16 t162.length co16) t162) := ⟨h0_⟩
            have n1_ : Aside0 (Kd.R (Kd.int .u8) 5 w20 w.heap.size (fun k_ => some k_ ≠ (.slice Ao16 t162.length co16 : Value).ownBlock ∧ some k_ ≠ (v175 : Value).ownBlock) (.slice Ao17 t165.length co17) t165) := ⟨h1_⟩
            have n2_ : Aside0 (Kd.R (Kd.int .u8) 5 w20 w.heap.size (fun k_ => some k_ ≠ (.slice Ao16 t162.length co16 : Value).ownBlock ∧ some k_ ≠ (.slice Ao17 t165.length co17 : Value).ownBlock) v175 y174) := ⟨h2_⟩
            have n3_ : Aside0 (w20.heap[gb160]? = some (.cells #[.int .i64 a0_0, .int .i64 a0_1, .int .i64 a0_2, .int .i64 a0_3, .float .f64 a0_4, .slice A0_5 l0_5.length c0_5, .int .i64 a0_6, .int .i64 a0_7, .float .f64 a0_8, .slice A0_9 l0_9.length c0_9] 49 (0, 0))) := ⟨h3_⟩
            have n4_ : Aside0 (Below w.heap.size w w20) := ⟨h4_⟩
            clear HO164
            clear HO167
            clear BK160
            clear HB
            clear h0_ h1_ h2_ h3_ h4_
            have HO164 := n0_
            have HO167 := n1_
            have HO176 := n2_
            have BK160 := n3_
            have HB := n4_
            clear n0_ n1_ n2_ n3_ n4_
            have hHeld : w20.cell? ⟨gb160, 0, none⟩ = some (.int .i64 a0_0) ∧ w20.cell? ⟨gb160, 1, none⟩ = some (.int .i64 a0_1) ∧ w20.cell? ⟨gb160, 2, none⟩ = some (.int .i64 a0_2) ∧ w20.cell? ⟨gb160, 3, none⟩ = some (.int .i64 a0_3) ∧ w20.cell? ⟨gb160, 4, none⟩ = some (.float .f64 a0_4) ∧ w20.cell? ⟨gb160, 5, none⟩ = some (.slice A0_5 l0_5.length c0_5) ∧ w20.cell? ⟨gb160, 6, none⟩ = some (.int .i64 a0_6) ∧ w20.cell? ⟨gb160, 7, none⟩ = some (.int .i64 a0_7) ∧ w20.cell? ⟨gb160, 8, none⟩ = some (.float .f64 a0_8) ∧ w20.cell? ⟨gb160, 9, none⟩ = some (.slice A0_9 l0_9.length c0_9) := hS_
            refine norm_ (a' := ?_) ?_ ?_
            rotate_left
            ·simp only [putAll, Act.put, List.setIfInBounds_toArray, List.set_cons_zero, List.set_cons_succ]
             rfl
            refine two_ (i := 2) (j := 14) (Ni := some 16) (Nj := some 28) #[true, true, true, true, true, false, true, true, true, true, true, true, true, true, false, true, false, false, false] #[true, true, false, true, true, false, true, true, true, true, true, true, true, true, true, true, false, false, false] rfl rfl rfl rfl (two_of HT_.out (by kernel_rfl)) (by decide) (by decide) (fun K hK => ?_) (fun K hK => ?_)
            ·skip
             refine goes_ Try.func74 (by kernel_rfl) rfl #[.int .i64 a0_0, .int .i64 4] (by rfl) rfl rfl (by (try simp only [List.map_toArray, List.map_cons, List.map_nil]); first | done | rfl) ?_
             with_reducible refine (impl_PutNum.calls k a0_0 4 t168 _ A6.out).mono ?_
             rintro e w21 ⟨v169, rfl, ho0, hb⟩
             refine ⟨_, rfl, ?_⟩
             have n0_ := Aside0.mk (Kd.R_elder' (Kd.rup HO164.out) (Kd.R_base ho0) hb)
             have n1_ := Aside0.mk (Kd.R_elder' (Kd.rup HO167.out) (Kd.R_base ho0) hb)
             have n2_ := Aside0.mk (Kd.R_elder' (Kd.rup HO176.out) (Kd.R_base ho0) hb)
             have n3_ := Aside0.mk (Kd.R_lower (Kd.R_new' (Kd.R_new' (Kd.R_new' ho0 (Kd.R_lt (Kd.rup HO164.out))) (Kd.R_lt (Kd.rup HO167.out))) (Kd.R_lt (Kd.rup HO176.out))) (below_size (hset HB.out)))
             have n4_ := Aside0.mk (blk_below (bup BK160.out) hb)
             have n5_ := Aside0.mk (below_step (hset HB.out) hb)
             clear HO164
             clear HO167
             clear HO176
             clear BK160
             clear HB
             have HO164 := n0_
             have HO167 := n1_
             have HO176 := n2_
             have HO170 := n3_
             have BK160 := n4_
             have HB := n5_
             clear n0_ n1_ n2_ n3_ n4_ n5_
             (try clear hb)
             (try clear hb2)
             (try clear hk)
             (try clear hi)
             (try clear ho0)
             refine hK.out _ _ (blk_cells10 BK160.out) (fun hHeld => ?_)
             clear hK K
             refine norm_ (a' := ?_) ?_ ?_
             rotate_left
             ·show Act.put _ (some 16) _ = _
              simp only [Act.put, List.setIfInBounds_toArray, List.set_cons_zero, List.set_cons_succ, i64_w, i32_w]
              rfl
             exact norm_ (by first | (simp only [putAll, Act.put, List.setIfInBounds_toArray, List.set_cons_zero, List.set_cons_succ]; done) | (simp only [putAll, Act.put, List.setIfInBounds_toArray, List.set_cons_zero, List.set_cons_succ]; rfl)) (hJ2_9 (v169, v175) _ ⟨hHeld, (by exact Kd.rup (Kd.R_mono HO164.out (fun _ hk => ⟨hk.1.1, ⟨hk.2, hk.1.2⟩⟩))), (by exact Kd.rup (Kd.R_mono HO167.out (fun _ hk => ⟨hk.1.1, ⟨hk.2, hk.1.2⟩⟩))), (by exact Kd.rup (Kd.R_mono HO170.out (fun _ hk => ⟨hk.1.1.2, ⟨hk.1.2, hk.2⟩⟩))), (by exact Kd.rup (Kd.R_mono HO176.out (fun _ hk => ⟨hk.1.1, ⟨hk.1.2, hk.2⟩⟩))), (bup BK160.out), (hset HB.out)⟩)
            ·skip
             refine Kd.R_lit_step (Kd.int .u8) _ 5 ?hg (N := 28) ?hd (xs := ([((t165.length : Int)) % 256] : List Int)) (inner := [.int .u8 (((t165.length : Int)) % 256)]) (ok := fun _ => True) (okp := fun _ => True) ?hr ?hp (fun _ hk => hk) trivial (Below.refl _ _) (Nat.le_refl _) (by simp) ?_; (case hd => rfl); (case hg => rfl); (case hr => first | (go_simp; done) | (go_simp; rfl)); (case hp => exact (Reps.one (show Kd.M (Kd.int .u8) _ _ _ (((t165.length : Int)) % 256) [.int .u8 (((t165.length : Int)) % 256)] from rfl) (Reps.none _ _)))
             intro v178 w21 ho22 hb hg_ hnew_
             clear hg_ hnew_
             (first | rw [← Ny177.out] at ho22 | (simp only [Int.reduceToNat] at ho22; rw [← Ny177.out] at ho22))
             have n0_ := Aside0.mk (Kd.R_elder' (Kd.rup HO164.out) (Kd.R_base ho22) hb)
             have n1_ := Aside0.mk (Kd.R_elder' (Kd.rup HO167.out) (Kd.R_base ho22) hb)
             have n2_ := Aside0.mk (Kd.R_elder' (Kd.rup HO176.out) (Kd.R_base ho22) hb)
             have n3_ := Aside0.mk (Kd.R_lower (Kd.R_new' (Kd.R_new' (Kd.R_new' ho22 (Kd.R_lt (Kd.rup HO164.out))) (Kd.R_lt (Kd.rup HO167.out))) (Kd.R_lt (Kd.rup HO176.out))) (below_size (hset HB.out)))
             have n4_ := Aside0.mk (blk_below (bup BK160.out) hb)
             have n5_ := Aside0.mk (below_step (hset HB.out) hb)
             clear HO164
             clear HO167
             clear HO176
             clear BK160
             clear HB
             have HO164 := n0_
             have HO167 := n1_
             have HO176 := n2_
             have HO179 := n3_
             have BK160 := n4_
             have HB := n5_
             clear n0_ n1_ n2_ n3_ n4_ n5_
             clear hb ho22
             refine hK.out _ _ (blk_cells10 BK160.out) (fun hHeld => ?_)
             clear hK K
             refine norm_ (a' := ?_) ?_ ?_
             rotate_left
             ·show Act.put _ (some 28) _ = _
              simp only [Act.put, List.setIfInBounds_toArray, List.set_cons_zero, List.set_cons_succ, i64_w, i32_w]
              rfl
             exact norm_ (by first | (simp only [putAll, Act.put, List.setIfInBounds_toArray, List.set_cons_zero, List.set_cons_succ]; done) | (simp only [putAll, Act.put, List.setIfInBounds_toArray, List.set_cons_zero, List.set_cons_succ]; rfl)) (hJ9_14 (v175, v178) _ ⟨hHeld, (by exact Kd.rup (Kd.R_mono HO164.out (fun _ hk => ⟨hk.1.1, ⟨hk.1.2, hk.2⟩⟩))), (by exact Kd.rup (Kd.R_mono HO167.out (fun _ hk => ⟨hk.1.1, ⟨hk.1.2, hk.2⟩⟩))), (by exact Kd.rup (Kd.R_mono HO176.out (fun _ hk => ⟨hk.1.1, ⟨hk.1.2, hk.2⟩⟩))), (by exact Kd.rup (Kd.R_mono HO179.out (fun _ hk => ⟨hk.1.1.2, ⟨hk.1.2, hk.2⟩⟩))), (bup BK160.out), (hset HB.out)⟩)
          ·skip
           rintro v169 w19 ⟨hS_, h0_, h1_, h2_, h3_, h4_⟩
           have n0_ : Aside0 (Kd.R (Kd.int .u8) 5 w19 w.heap.size (fun k_ => some k_ ≠ (.slice Ao17 t165.length co17 : Value).ownBlock ∧ some k_ ≠ (v169 : Value).ownBlock) (.slice Ao16 t162.length co16) t162) := ⟨h0_⟩
           have n1_ : Aside0 (Kd.R (Kd.int .u8) 5 w19 w.heap.size (fun k_ => some k_ ≠ (.slice Ao16 t162.length co16 : Value).ownBlock ∧ some k_ ≠ (v169 : Value).ownBlock) (.slice Ao17 t165.length co17) t165) := ⟨h1_⟩
           have n2_ : Aside0 (Kd.R (Kd.int .u8) 5 w19 w.heap.size (fun k_ => some k_ ≠ (.slice Ao16 t162.length co16 : Value).ownBlock ∧ some k_ ≠ (.slice Ao17 t165.length co17 : Value).ownBlock) v169 t168) := ⟨h2_⟩
           have n3_ : Aside0 (w19.heap[gb160]? = some (.cells #[.int .i64 a0_0, .int .i64 a0_1, .int .i64 a0_2, .int .i64 a0_3, .float .f64 a0_4, .slice A0_5 l0_5.length c0_5, .int .i64 a0_6, .int .i64 a0_7, .float .f64 a0_8, .slice A0_9 l0_9.length c0_9] 49 (0, 0))) := ⟨h3_⟩
           have n4_ : Aside0 (Below w.heap.size w w19) := ⟨h4_⟩
           clear HO164
           clear HO167
           clear BK160
           clear HB
           clear h0_ h1_ h2_ h3_ h4_
           have HO164 := n0_
           have HO167 := n1_
           have HO170 := n2_
           have BK160 := n3_
           have HB := n4_
           clear n0_ n1_ n2_ n3_ n4_
           have hHeld : w19.cell? ⟨gb160, 0, none⟩ = some (.int .i64 a0_0) ∧ w19.cell? ⟨gb160, 1, none⟩ = some (.int .i64 a0_1) ∧ w19.cell? ⟨gb160, 2, none⟩ = some (.int .i64 a0_2) ∧ w19.cell? ⟨gb160, 3, none⟩ = some (.int .i64 a0_3) ∧ w19.cell? ⟨gb160, 4, none⟩ = some (.float .f64 a0_4) ∧ w19.cell? ⟨gb160, 5, none⟩ = some (.slice A0_5 l0_5.length c0_5) ∧ w19.cell? ⟨gb160, 6, none⟩ = some (.int .i64 a0_6) ∧ w19.cell? ⟨gb160, 7, none⟩ = some (.int .i64 a0_7) ∧ w19.cell? ⟨gb160, 8, none⟩ = some (.float .f64 a0_8) ∧ w19.cell? ⟨gb160, 9, none⟩ = some (.slice A0_9 l0_9.length c0_9) := hS_
           refine norm_ (a' := ?_) ?_ ?_
           rotate_left
           ·simp only [putAll, Act.put, List.setIfInBounds_toArray, List.set_cons_zero, List.set_cons_succ]
            rfl
           refine three_ (i := 5) (j := 9) (k := 14) (Ni := some 19) (Nj := some 23) (Nk := some 28) #[true, true, true, true, true, true, true, true, true, false, true, true, true, true, false, true, false, false, false] #[true, true, true, true, true, false, true, true, true, true, true, true, true, true, false, true, false, false, false] #[true, true, true, true, true, false, true, true, true, false, true, true, true, true, true, true, false, false, false] rfl rfl rfl rfl rfl rfl (three_of HT_.out (by kernel_rfl)) (by decide) (by decide) (by decide) (fun K hK => ?_) (fun K hK => ?_) (fun K hK => ?_)
           ·skip
            refine goes_ Try.func74 (by kernel_rfl) rfl #[.int .i64 a0_1, .int .i64 4] (by rfl) rfl rfl (by (try simp only [List.map_toArray, List.map_cons, List.map_nil]); first | done | rfl) ?_
            with_reducible refine (impl_PutNum.calls k a0_1 4 t171 _ A7.out).mono ?_
            rintro e w20 ⟨v172, rfl, ho0, hb⟩
            refine ⟨_, rfl, ?_⟩
            have n0_ := Aside0.mk (Kd.R_elder' (Kd.rup HO164.out) (Kd.R_base ho0) hb)
            have n1_ := Aside0.mk (Kd.R_elder' (Kd.rup HO167.out) (Kd.R_base ho0) hb)
            have n2_ := Aside0.mk (Kd.R_elder' (Kd.rup HO170.out) (Kd.R_base ho0) hb)
            have n3_ := Aside0.mk (Kd.R_lower (Kd.R_new' (Kd.R_new' (Kd.R_new' ho0 (Kd.R_lt (Kd.rup HO164.out))) (Kd.R_lt (Kd.rup HO167.out))) (Kd.R_lt (Kd.rup HO170.out))) (below_size (hset HB.out)))
            have n4_ := Aside0.mk (blk_below (bup BK160.out) hb)
            have n5_ := Aside0.mk (below_step (hset HB.out) hb)
            clear HO164
            clear HO167
            clear HO170
            clear BK160
            clear HB
            have HO164 := n0_
            have HO167 := n1_
            have HO170 := n2_
            have HO173 := n3_
            have BK160 := n4_
            have HB := n5_
            clear n0_ n1_ n2_ n3_ n4_ n5_
            (try clear hb)
            (try clear hb2)
            (try clear hk)
            (try clear hi)
            (try clear ho0)
            refine hK.out _ _ (blk_cells10 BK160.out) (fun hHeld => ?_)
            clear hK K
            refine norm_ (a' := ?_) ?_ ?_
            rotate_left
            ·show Act.put _ (some 19) _ = _
             simp only [Act.put, List.setIfInBounds_toArray, List.set_cons_zero, List.set_cons_succ, i64_w, i32_w]
             rfl
            exact norm_ (by first | (simp only [putAll, Act.put, List.setIfInBounds_toArray, List.set_cons_zero, List.set_cons_succ]; done) | (simp only [putAll, Act.put, List.setIfInBounds_toArray, List.set_cons_zero, List.set_cons_succ]; rfl)) (hJ2_5 (v169, v172) _ ⟨hHeld, (by exact Kd.rup (Kd.R_mono HO164.out (fun _ hk => ⟨hk.1.1, ⟨hk.1.2, hk.2⟩⟩))), (by exact Kd.rup (Kd.R_mono HO167.out (fun _ hk => ⟨hk.1.1, ⟨hk.1.2, hk.2⟩⟩))), (by exact Kd.rup (Kd.R_mono HO170.out (fun _ hk => ⟨hk.1.1, ⟨hk.1.2, hk.2⟩⟩))), (by exact Kd.rup (Kd.R_mono HO173.out (fun _ hk => ⟨hk.1.1.2, ⟨hk.1.2, hk.2⟩⟩))), (bup BK160.out), (hset HB.out)⟩)
           ·skip
            refine Kd.R_lit_step (Kd.int .u8) _ 5 ?hg (N := 23) ?hd (xs := ([((t162.length : Int)) % 256] : List Int)) (inner := [.int .u8 (((t162.length : Int)) % 256)]) (ok := fun _ => True) (okp := fun _ => True) ?hr ?hp (fun _ hk => hk) trivial (Below.refl _ _) (Nat.le_refl _) (by simp) ?_; (case hd => rfl); (case hg => rfl); (case hr => first | (go_simp; done) | (go_simp; rfl)); (case hp => exact (Reps.one (show Kd.M (Kd.int .u8) _ _ _ (((t162.length : Int)) % 256) [.int .u8 (((t162.length : Int)) % 256)] from rfl) (Reps.none _ _)))
            intro v175 w20 ho21 hb hg_ hnew_
            clear hg_ hnew_
            (first | rw [← Ny174.out] at ho21 | (simp only [Int.reduceToNat] at ho21; rw [← Ny174.out] at ho21))
            have n0_ := Aside0.mk (Kd.R_elder' (Kd.rup HO164.out) (Kd.R_base ho21) hb)
            have n1_ := Aside0.mk (Kd.R_elder' (Kd.rup HO167.out) (Kd.R_base ho21) hb)
            have n2_ := Aside0.mk (Kd.R_elder' (Kd.rup HO170.out) (Kd.R_base ho21) hb)
            have n3_ := Aside0.mk (Kd.R_lower (Kd.R_new' (Kd.R_new' (Kd.R_new' ho21 (Kd.R_lt (Kd.rup HO164.out))) (Kd.R_lt (Kd.rup HO167.out))) (Kd.R_lt (Kd.rup HO170.out))) (below_size (hset HB.out)))
            have n4_ := Aside0.mk (blk_below (bup BK160.out) hb)
            have n5_ := Aside0.mk (below_step (hset HB.out) hb)
            clear HO164
            clear HO167
            clear HO170
            clear BK160
            clear HB
            have HO164 := n0_
            have HO167 := n1_
            have HO170 := n2_
            have HO176 := n3_
            have BK160 := n4_
            have HB := n5_
            clear n0_ n1_ n2_ n3_ n4_ n5_
            clear hb ho21
            refine hK.out _ _ (blk_cells10 BK160.out) (fun hHeld => ?_)
            clear hK K
            refine norm_ (a' := ?_) ?_ ?_
            rotate_left
            ·show Act.put _ (some 23) _ = _
             simp only [Act.put, List.setIfInBounds_toArray, List.set_cons_zero, List.set_cons_succ, i64_w, i32_w]
             rfl
            exact norm_ (by first | (simp only [putAll, Act.put, List.setIfInBounds_toArray, List.set_cons_zero, List.set_cons_succ]; done) | (simp only [putAll, Act.put, List.setIfInBounds_toArray, List.set_cons_zero, List.set_cons_succ]; rfl)) (hJ2_9 (v169, v175) _ ⟨hHeld, (by exact Kd.rup (Kd.R_mono HO164.out (fun _ hk => ⟨hk.1.1, ⟨hk.1.2, hk.2⟩⟩))), (by exact Kd.rup (Kd.R_mono HO167.out (fun _ hk => ⟨hk.1.1, ⟨hk.1.2, hk.2⟩⟩))), (by exact Kd.rup (Kd.R_mono HO170.out (fun _ hk => ⟨hk.1.1, ⟨hk.1.2, hk.2⟩⟩))), (by exact Kd.rup (Kd.R_mono HO176.out (fun _ hk => ⟨hk.1.1.2, ⟨hk.1.2, hk.2⟩⟩))), (bup BK160.out), (hset HB.out)⟩)
           ·skip
            refine Kd.R_lit_step (Kd.int .u8) _ 5 ?hg (N := 28) ?hd (xs := ([((t165.length : Int)) % 256] : List Int)) (inner := [.int .u8 (((t165.length : Int)) % 256)]) (ok := fun _ => True) (okp := fun _ => True) ?hr ?hp (fun _ hk => hk) trivial (Below.refl _ _) (Nat.le_refl _) (by simp) ?_; (case hd => rfl); (case hg => rfl); (case hr => first | (go_simp; done) | (go_simp; rfl)); (case hp => exact (Reps.one (show Kd.M (Kd.int .u8) _ _ _ (((t165.length : Int)) % 256) [.int .u8 (((t165.length : Int)) % 256)] from rfl) (Reps.none _ _)))
            intro v178 w20 ho21 hb hg_ hnew_
            clear hg_ hnew_
            (first | rw [← Ny177.out] at ho21 | (simp only [Int.reduceToNat] at ho21; rw [← Ny177.out] at ho21))
            have n0_ := Aside0.mk (Kd.R_elder' (Kd.rup HO164.out) (Kd.R_base ho21) hb)
            have n1_ := Aside0.mk (Kd.R_elder' (Kd.rup HO167.out) (Kd.R_base ho21) hb)
            have n2_ := Aside0.mk (Kd.R_elder' (Kd.rup HO170.out) (Kd.R_base ho21) hb)
            have n3_ := Aside0.mk (Kd.R_lower (Kd.R_new' (Kd.R_new' (Kd.R_new' ho21 (Kd.R_lt (Kd.rup HO164.out))) (Kd.R_lt (Kd.rup HO167.out))) (Kd.R_lt (Kd.rup HO170.out))) (below_size (hset HB.out)))
            have n4_ := Aside0.mk (blk_below (bup BK160.out) hb)
            have n5_ := Aside0.mk (below_step (hset HB.out) hb)
            clear HO164
            clear HO167
            clear HO170
            clear BK160
            clear HB
            have HO164 := n0_
            have HO167 := n1_
            have HO170 := n2_
            have HO179 := n3_
            have BK160 := n4_
            have HB := n5_
            clear n0_ n1_ n2_ n3_ n4_ n5_
            clear hb ho21
            refine hK.out _ _ (blk_cells10 BK160.out) (fun hHeld => ?_)
            clear hK K
            refine norm_ (a' := ?_) ?_ ?_
            rotate_left
            ·show Act.put _ (some 28) _ = _
             simp only [Act.put, List.setIfInBounds_toArray, List.set_cons_zero, List.set_cons_succ, i64_w, i32_w]
             rfl
            exact norm_ (by first | (simp only [putAll, Act.put, List.setIfInBounds_toArray, List.set_cons_zero, List.set_cons_succ]; done) | (simp only [putAll, Act.put, List.setIfInBounds_toArray, List.set_cons_zero, List.set_cons_succ]; rfl)) (hJ2_14 (v169, v178) _ ⟨hHeld, (by exact Kd.rup (Kd.R_mono HO164.out (fun _ hk => ⟨hk.1.1, ⟨hk.1.2, hk.2⟩⟩))), (by exact Kd.rup (Kd.R_mono HO167.out (fun _ hk => ⟨hk.1.1, ⟨hk.1.2, hk.2⟩⟩))), (by exact Kd.rup (Kd.R_mono HO170.out (fun _ hk => ⟨hk.1.1, ⟨hk.1.2, hk.2⟩⟩))), (by exact Kd.rup (Kd.R_mono HO179.out (fun _ hk => ⟨hk.1.1.2, ⟨hk.1.2, hk.2⟩⟩))), (bup BK160.out), (hset HB.out)⟩)
         ·skip
          rintro ⟨v175, v178⟩ w22 ⟨hS_, h0_, h1_, h2_, h3_, h4_, h5_⟩
          have n0_ : Aside0 (Kd.R (Kd.int .u8) 5 w22 w.heap.size (fun k_ => some k_ ≠ (.slice Ao17 t165.length co17 : Value).ownBlock ∧ some k_ ≠ (v175 : Value).ownBlock ∧ some k_ ≠ (v178 : Value).ownBlock) (.slice Ao16 t162.length co16) t162) := ⟨h0_⟩
          have n1_ : Aside0 (Kd.R (Kd.int .u8) 5 w22 w.heap.size (fun k_ => some k_ ≠ (.slice Ao16 t162.length co16 : Value).ownBlock ∧ some k_ ≠ (v175 : Value).ownBlock ∧ some k_ ≠ (v178 : Value).ownBlock) (.slice Ao17 t165.length co17) t165) := ⟨h1_⟩
          have n2_ : Aside0 (Kd.R (Kd.int .u8) 5 w22 w.heap.size (fun k_ => some k_ ≠ (.slice Ao16 t162.length co16 : Value).ownBlock ∧ some k_ ≠ (.slice Ao17 t165.length co17 : Value).ownBlock ∧ some k_ ≠ (v178 : Value).ownBlock) v175 y174) := ⟨h2_⟩
          have n3_ : Aside0 (Kd.R (Kd.int .u8) 5 w22 w.heap.size (fun k_ => some k_ ≠ (.slice Ao16 t162.length co16 : Value).ownBlock ∧ some k_ ≠ (.slice Ao17 t165.length co17 : Value).ownBlock ∧ some k_ ≠ (v175 : Value).ownBlock) v178 y177) := ⟨h3_⟩
          have n4_ : Aside0 (w22.heap[gb160]? = some (.cells #[.int .i64 a0_0, .int .i64 a0_1, .int .i64 a0_2, .int .i64 a0_3, .float .f64 a0_4, .slice A0_5 l0_5.length c0_5, .int .i64 a0_6, .int .i64 a0_7, .float .f64 a0_8, .slice A0_9 l0_9.length c0_9] 49 (0, 0))) := ⟨h4_⟩
          have n5_ : Aside0 (Below w.heap.size w w22) := ⟨h5_⟩
          clear HO164
          clear HO167
          clear BK160
          clear HB
          clear h0_ h1_ h2_ h3_ h4_ h5_
          have HO164 := n0_
          have HO167 := n1_
          have HO176 := n2_
          have HO179 := n3_
          have BK160 := n4_
          have HB := n5_
          clear n0_ n1_ n2_ n3_ n4_ n5_
          have hHeld : w22.cell? ⟨gb160, 0, none⟩ = some (.int .i64 a0_0) ∧ w22.cell? ⟨gb160, 1, none⟩ = some (.int .i64 a0_1) ∧ w22.cell? ⟨gb160, 2, none⟩ = some (.int .i64 a0_2) ∧ w22.cell? ⟨gb160, 3, none⟩ = some (.int .i64 a0_3) ∧ w22.cell? ⟨gb160, 4, none⟩ = some (.float .f64 a0_4) ∧ w22.cell? ⟨gb160, 5, none⟩ = some (.slice A0_5 l0_5.length c0_5) ∧ w22.cell? ⟨gb160, 6, none⟩ = some (.int .i64 a0_6) ∧ w22.cell? ⟨gb160, 7, none⟩ = some (.int .i64 a0_7) ∧ w22.cell? ⟨gb160, 8, none⟩ = some (.float .f64 a0_8) ∧ w22.cell? ⟨gb160, 9, none⟩ = some (.slice A0_9 l0_9.length c0_9) := hS_
          refine norm_ (a' := ?_) ?_ ?_
          rotate_left
          ·simp only [putAll, Act.put, List.setIfInBounds_toArray, List.set_cons_zero, List.set_cons_succ]
           rfl
          refine one_ (i := 2) (N := some 16) #[true, true, true, true, true, false, true, true, true, true, true, true, true, true, true, true, false, false, false] rfl rfl (one_of HT_.out (by kernel_rfl)) (by decide) (fun K hK => ?_)
          refine goes_ Try.func74 (by kernel_rfl) rfl #[.int .i64 a0_0, .int .i64 4] (by rfl) rfl rfl (by (try simp only [List.map_toArray, List.map_cons, List.map_nil]); first | done | rfl) ?_
          with_reducible refine (impl_PutNum.calls k a0_0 4 t168 _ A6.out).mono ?_
          rintro e w23 ⟨v169, rfl, ho0, hb⟩
          refine ⟨_, rfl, ?_⟩
          have n0_ := Aside0.mk (Kd.R_elder' (Kd.rup HO164.out) (Kd.R_base ho0) hb)
          have n1_ := Aside0.mk (Kd.R_elder' (Kd.rup HO167.out) (Kd.R_base ho0) hb)
          have n2_ := Aside0.mk (Kd.R_elder' (Kd.rup HO176.out) (Kd.R_base ho0) hb)
          have n3_ := Aside0.mk (Kd.R_elder' (Kd.rup HO179.out) (Kd.R_base ho0) hb)
          have n4_ := Aside0.mk (Kd.R_lower (Kd.R_new' (Kd.R_new' (Kd.R_new' (Kd.R_new' ho0 (Kd.R_lt (Kd.rup HO164.out))) (Kd.R_lt (Kd.rup HO167.out))) (Kd.R_lt (Kd.rup HO176.out))) (Kd.R_lt (Kd.rup HO179.out))) (below_size (hset HB.out)))
          have n5_ := Aside0.mk (blk_below (bup BK160.out) hb)
          have n6_ := Aside0.mk (below_step (hset HB.out) hb)
          clear HO164
          clear HO167
          clear HO176
          clear HO179
          clear BK160
          clear HB
          have HO164 := n0_
          have HO167 := n1_
          have HO176 := n2_
          have HO179 := n3_
          have HO170 := n4_
          have BK160 := n5_
          have HB := n6_
          clear n0_ n1_ n2_ n3_ n4_ n5_ n6_
          (try clear hb)
          (try clear hb2)
          (try clear hk)
          (try clear hi)
          (try clear ho0)
          refine hK.out _ _ (blk_cells10 BK160.out) (fun hHeld => ?_)
          clear hK K
          refine norm_ (a' := ?_) ?_ ?_
          rotate_left
          ·show Act.put _ (some 16) _ = _
           simp only [Act.put, List.setIfInBounds_toArray, List.set_cons_zero, List.set_cons_succ, i64_w, i32_w]
           rfl
          exact norm_ (by first | (simp only [putAll, Act.put, List.setIfInBounds_toArray, List.set_cons_zero, List.set_cons_succ]; done) | (simp only [putAll, Act.put, List.setIfInBounds_toArray, List.set_cons_zero, List.set_cons_succ]; rfl)) (hJ2_9_14 (v169, v175, v178) _ ⟨hHeld, (by exact Kd.rup (Kd.R_mono HO164.out (fun _ hk => ⟨hk.1.1, ⟨hk.2, ⟨hk.1.2.1, hk.1.2.2⟩⟩⟩))), (by exact Kd.rup (Kd.R_mono HO167.out (fun _ hk => ⟨hk.1.1, ⟨hk.2, ⟨hk.1.2.1, hk.1.2.2⟩⟩⟩))), (by exact Kd.rup (Kd.R_mono HO170.out (fun _ hk => ⟨hk.1.1.1.2, ⟨hk.1.1.2, ⟨hk.1.2, hk.2⟩⟩⟩))), (by exact Kd.rup (Kd.R_mono HO176.out (fun _ hk => ⟨hk.1.1, ⟨hk.1.2.1, ⟨hk.2, hk.1.2.2⟩⟩⟩))), (by exact Kd.rup (Kd.R_mono HO179.out (fun _ hk => ⟨hk.1.1, ⟨hk.1.2.1, ⟨hk.2, hk.1.2.2⟩⟩⟩))), (bup BK160.out), (hset HB.out)⟩)
        ·skip
         rintro ⟨v169, v178⟩ w21 ⟨hS_, h0_, h1_, h2_, h3_, h4_, h5_⟩
         have n0_ : Aside0 (Kd.R (Kd.int .u8) 5 w21 w.heap.size (fun k_ => some k_ ≠ (.slice Ao17 t165.length co17 : Value).ownBlock ∧ some k_ ≠ (v169 : Value).ownBlock ∧ some k_ ≠ (v178 : Value).ownBlock) (.slice Ao16 t162.length co16) t162) := ⟨h0_⟩
         have n1_ : Aside0 (Kd.R (Kd.int .u8) 5 w21 w.heap.size (fun k_ => some k_ ≠ (.slice Ao16 t162.length co16 : Value).ownBlock ∧ some k_ ≠ (v169 : Value).ownBlock ∧ some k_ ≠ (v178 : Value).ownBlock) (.slice Ao17 t165.length co17) t165) := ⟨h1_⟩
         have n2_ : Aside0 (Kd.R (Kd.int .u8) 5 w21 w.heap.size (fun k_ => some k_ ≠ (.slice Ao16 t162.length co16 : Value).ownBlock ∧ some k_ ≠ (.slice Ao17 t165.length co17 : Value).ownBlock ∧ some k_ ≠ (v178 : Value).ownBlock) v169 t168) := ⟨h2_⟩
         have n3_ : Aside0 (Kd.R (Kd.int .u8) 5 w21 w.heap.size (fun k_ => some k_ ≠ (.slice Ao16 t162.length co16 : Value).ownBlock ∧ some k_ ≠ (.slice Ao17 t165.length co17 : Value).ownBlock ∧ some k_ ≠ (v169 : Value).ownBlock) v178 y177) := ⟨h3_⟩
         have n4_ : Aside0 (w21.heap[gb160]? = some (.cells #[.int .i64 a0_0, .int .i64 a0_1, .int .i64 a0_2, .int .i64 a0_3, .float .f64 a0_4, .slice A0_5 l0_5.length c0_5, .int .i64 a0_6, .int .i64 a0_7, .float .f64 a0_8, .slice A0_9 l0_9.length c0_9] 49 (0, 0))) := ⟨h4_⟩
         have n5_ : Aside0 (Below w.heap.size w w21) := ⟨h5_⟩
         clear HO164
         clear HO167
         clear BK160
         clear HB
         clear h0_ h1_ h2_ h3_ h4_ h5_
         have HO164 := n0_
         have HO167 := n1_
         have HO170 := n2_
         have HO179 := n3_
         have BK160 := n4_
         have HB := n5_
         clear n0_ n1_ n2_ n3_ n4_ n5_
         have hHeld : w21.cell? ⟨gb160, 0, none⟩ = some (.int .i64 a0_0) ∧ w21.cell? ⟨gb160, 1, none⟩ = some (.int .i64 a0_1) ∧ w21.cell? ⟨gb160, 2, none⟩ = some (.int .i64 a0_2) ∧ w21.cell? ⟨gb160, 3, none⟩ = some (.int .i64 a0_3) ∧ w21.cell? ⟨gb160, 4, none⟩ = some (.float .f64 a0_4) ∧ w21.cell? ⟨gb160, 5, none⟩ = some (.slice A0_5 l0_5.length c0_5) ∧ w21.cell? ⟨gb160, 6, none⟩ = some (.int .i64 a0_6) ∧ w21.cell? ⟨gb160, 7, none⟩ = some (.int .i64 a0_7) ∧ w21.cell? ⟨gb160, 8, none⟩ = some (.float .f64 a0_8) ∧ w21.cell? ⟨gb160, 9, none⟩ = some (.slice A0_9 l0_9.length c0_9) := hS_
         refine norm_ (a' := ?_) ?_ ?_
         rotate_left
         ·simp only [putAll, Act.put, List.setIfInBounds_toArray, List.set_cons_zero, List.set_cons_succ]
          rfl
         refine two_ (i := 5) (j := 9) (Ni := some 19) (Nj := some 23) #[true, true, true, true, true, true, true, true, true, false, true, true, true, true, true, true, false, false, false] #[true, true, true, true, true, false, true, true, true, true, true, true, true, true, true, true, false, false, false] rfl rfl rfl rfl (two_of HT_.out (by kernel_rfl)) (by decide) (by decide) (fun K hK => ?_) (fun K hK => ?_)
         ·skip
          refine goes_ Try.func74 (by kernel_rfl) rfl #[.int .i64 a0_1, .int .i64 4] (by rfl) rfl rfl (by (try simp only [List.map_toArray, List.map_cons, List.map_nil]); first | done | rfl) ?_
          with_reducible refine (impl_PutNum.calls k a0_1 4 t171 _ A7.out).mono ?_
          rintro e w22 ⟨v172, rfl, ho0, hb⟩
          refine ⟨_, rfl, ?_⟩
          have n0_ := Aside0.mk (Kd.R_elder' (Kd.rup HO164.out) (Kd.R_base ho0) hb)
          have n1_ := Aside0.mk (Kd.R_elder' (Kd.rup HO167.out) (Kd.R_base ho0) hb)
          have n2_ := Aside0.mk (Kd.R_elder' (Kd.rup HO170.out) (Kd.R_base ho0) hb)
          have n3_ := Aside0.mk (Kd.R_elder' (Kd.rup HO179.out) (Kd.R_base ho0) hb)
          have n4_ := Aside0.mk (Kd.R_lower (Kd.R_new' (Kd.R_new' (Kd.R_new' (Kd.R_new' ho0 (Kd.R_lt (Kd.rup HO164.out))) (Kd.R_lt (Kd.rup HO167.out))) (Kd.R_lt (Kd.rup HO170.out))) (Kd.R_lt (Kd.rup HO179.out))) (below_size (hset HB.out)))
          have n5_ := Aside0.mk (blk_below (bup BK160.out) hb)
          have n6_ := Aside0.mk (below_step (hset HB.out) hb)
          clear HO164
          clear HO167
          clear HO170
          clear HO179
          clear BK160
          clear HB
          have HO164 := n0_
          have HO167 := n1_
          have HO170 := n2_
          have HO179 := n3_
          have HO173 := n4_
          have BK160 := n5_
          have HB := n6_
          clear n0_ n1_ n2_ n3_ n4_ n5_ n6_
          (try clear hb)
          (try clear hb2)
          (try clear hk)
          (try clear hi)
          (try clear ho0)
          refine hK.out _ _ (blk_cells10 BK160.out) (fun hHeld => ?_)
          clear hK K
          refine norm_ (a' := ?_) ?_ ?_
          rotate_left
          ·show Act.put _ (some 19) _ = _
           simp only [Act.put, List.setIfInBounds_toArray, List.set_cons_zero, List.set_cons_succ, i64_w, i32_w]
           rfl
          exact norm_ (by first | (simp only [putAll, Act.put, List.setIfInBounds_toArray, List.set_cons_zero, List.set_cons_succ]; done) | (simp only [putAll, Act.put, List.setIfInBounds_toArray, List.set_cons_zero, List.set_cons_succ]; rfl)) (hJ2_5_14 (v169, v172, v178) _ ⟨hHeld, (by exact Kd.rup (Kd.R_mono HO164.out (fun _ hk => ⟨hk.1.1, ⟨hk.1.2.1, ⟨hk.2, hk.1.2.2⟩⟩⟩))), (by exact Kd.rup (Kd.R_mono HO167.out (fun _ hk => ⟨hk.1.1, ⟨hk.1.2.1, ⟨hk.2, hk.1.2.2⟩⟩⟩))), (by exact Kd.rup (Kd.R_mono HO170.out (fun _ hk => ⟨hk.1.1, ⟨hk.1.2.1, ⟨hk.2, hk.1.2.2⟩⟩⟩))), (by exact Kd.rup (Kd.R_mono HO173.out (fun _ hk => ⟨hk.1.1.1.2, ⟨hk.1.1.2, ⟨hk.1.2, hk.2⟩⟩⟩))), (by exact Kd.rup (Kd.R_mono HO179.out (fun _ hk => ⟨hk.1.1, ⟨hk.1.2.1, ⟨hk.1.2.2, hk.2⟩⟩⟩))), (bup BK160.out), (hset HB.out)⟩)
         ·skip
          refine Kd.R_lit_step (Kd.int .u8) _ 5 ?hg (N := 23) ?hd (xs := ([((t162.length : Int)) % 256] : List Int)) (inner := [.int .u8 (((t162.length : Int)) % 256)]) (ok := fun _ => True) (okp := fun _ => True) ?hr ?hp (fun _ hk => hk) trivial (Below.refl _ _) (Nat.le_refl _) (by simp) ?_; (case hd => rfl); (case hg => rfl); (case hr => first | (go_simp; done) | (go_simp; rfl)); (case hp => exact (Reps.one (show Kd.M (Kd.int .u8) _ _ _ (((t162.length : Int)) % 256) [.int .u8 (((t162.length : Int)) % 256)] from rfl) (Reps.none _ _)))
          intro v175 w22 ho23 hb hg_ hnew_
          clear hg_ hnew_
          (first | rw [← Ny174.out] at ho23 | (simp only [Int.reduceToNat] at ho23; rw [← Ny174.out] at ho23))
          have n0_ := Aside0.mk (Kd.R_elder' (Kd.rup HO164.out) (Kd.R_base ho23) hb)
          have n1_ := Aside0.mk (Kd.R_elder' (Kd.rup HO167.out) (Kd.R_base ho23) hb)
          have n2_ := Aside0.mk (Kd.R_elder' (Kd.rup HO170.out) (Kd.R_base ho23) hb)
          have n3_ := Aside0.mk (Kd.R_elder' (Kd.rup HO179.out) (Kd.R_base ho23) hb)
          have n4_ := Aside0.mk (Kd.R_lower (Kd.R_new' (Kd.R_new' (Kd.R_new' (Kd.R_new' ho23 (Kd.R_lt (Kd.rup HO164.out))) (Kd.R_lt (Kd.rup HO167.out))) (Kd.R_lt (Kd.rup HO170.out))) (Kd.R_lt (Kd.rup HO179.out))) (below_size (hset HB.out)))
          have n5_ := Aside0.mk (blk_below (bup BK160.out) hb)
          have n6_ := Aside0.mk (below_step (hset HB.out) hb)
          clear HO164
          clear HO167
          clear HO170
          clear HO179
          clear BK160
          clear HB
          have HO164 := n0_
          have HO167 := n1_
          have HO170 := n2_
          have HO179 := n3_
          have HO176 := n4_
          have BK160 := n5_
          have HB := n6_
          clear n0_ n1_ n2_ n3_ n4_ n5_ n6_
          clear hb ho23
          refine hK.out _ _ (blk_cells10 BK160.out) (fun hHeld => ?_)
          clear hK K
          refine norm_ (a' := ?_) ?_ ?_
          rotate_left
          ·show Act.put _ (some 23) _ = _
           simp only [Act.put, List.setIfInBounds_toArray, List.set_cons_zero, List.set_cons_succ, i64_w, i32_w]
           rfl
          exact norm_ (by first | (simp only [putAll, Act.put, List.setIfInBounds_toArray, List.set_cons_zero, List.set_cons_succ]; done) | (simp only [putAll, Act.put, List.setIfInBounds_toArray, List.set_cons_zero, List.set_cons_succ]; rfl)) (hJ2_9_14 (v169, v175, v178) _ ⟨hHeld, (by exact Kd.rup (Kd.R_mono HO164.out (fun _ hk => ⟨hk.1.1, ⟨hk.1.2.1, ⟨hk.2, hk.1.2.2⟩⟩⟩))), (by exact Kd.rup (Kd.R_mono HO167.out (fun _ hk => ⟨hk.1.1, ⟨hk.1.2.1, ⟨hk.2, hk.1.2.2⟩⟩⟩))), (by exact Kd.rup (Kd.R_mono HO170.out (fun _ hk => ⟨hk.1.1, ⟨hk.1.2.1, ⟨hk.2, hk.1.2.2⟩⟩⟩))), (by exact Kd.rup (Kd.R_mono HO176.out (fun _ hk => ⟨hk.1.1.1.2, ⟨hk.1.1.2, ⟨hk.1.2, hk.2⟩⟩⟩))), (by exact Kd.rup (Kd.R_mono HO179.out (fun _ hk => ⟨hk.1.1, ⟨hk.1.2.1, ⟨hk.1.2.2, hk.2⟩⟩⟩))), (bup BK160.out), (hset HB.out)⟩)
       ·skip
        rintro ⟨v169, v175⟩ w21 ⟨hS_, h0_, h1_, h2_, h3_, h4_, h5_⟩
        have n0_ : Aside0 (Kd.R (Kd.int .u8) 5 w21 w.heap.size (fun k_ => some k_ ≠ (.slice Ao17 t165.length co17 : Value).ownBlock ∧ some k_ ≠ (v169 : Value).ownBlock ∧ some k_ ≠ (v175 : Value).ownBlock) (.slice Ao16 t162.length co16) t162) := ⟨h0_⟩
        have n1_ : Aside0 (Kd.R (Kd.int .u8) 5 w21 w.heap.size (fun k_ => some k_ ≠ (.slice Ao16 t162.length co16 : Value).ownBlock ∧ some k_ ≠ (v169 : Value).ownBlock ∧ some k_ ≠ (v175 : Value).ownBlock) (.slice Ao17 t165.length co17) t165) := ⟨h1_⟩
        have n2_ : Aside0 (Kd.R (Kd.int .u8) 5 w21 w.heap.size (fun k_ => some k_ ≠ (.slice Ao16 t162.length co16 : Value).ownBlock ∧ some k_ ≠ (.slice Ao17 t165.length co17 : Value).ownBlock ∧ some k_ ≠ (v175 : Value).ownBlock) v169 t168) := ⟨h2_⟩
        have n3_ : Aside0 (Kd.R (Kd.int .u8) 5 w21 w.heap.size (fun k_ => some k_ ≠ (.slice Ao16 t162.length co16 : Value).ownBlock ∧ some k_ ≠ (.slice Ao17 t165.length co17 : Value).ownBlock ∧ some k_ ≠ (v169 : Value).ownBlock) v175 y174) := ⟨h3_⟩
        have n4_ : Aside0 (w21.heap[gb160]? = some (.cells #[.int .i64 a0_0, .int .i64 a0_1, .int .i64 a0_2, .int .i64 a0_3, .float .f64 a0_4, .slice A0_5 l0_5.length c0_5, .int .i64 a0_6, .int .i64 a0_7, .float .f64 a0_8, .slice A0_9 l0_9.length c0_9] 49 (0, 0))) := ⟨h4_⟩
        have n5_ : Aside0 (Below w.heap.size w w21) := ⟨h5_⟩
        clear HO164
        clear HO167
        clear BK160
        clear HB
        clear h0_ h1_ h2_ h3_ h4_ h5_
        have HO164 := n0_
        have HO167 := n1_
        have HO170 := n2_
        have HO176 := n3_
        have BK160 := n4_
        have HB := n5_
        clear n0_ n1_ n2_ n3_ n4_ n5_
        have hHeld : w21.cell? ⟨gb160, 0, none⟩ = some (.int .i64 a0_0) ∧ w21.cell? ⟨gb160, 1, none⟩ = some (.int .i64 a0_1) ∧ w21.cell? ⟨gb160, 2, none⟩ = some (.int .i64 a0_2) ∧ w21.cell? ⟨gb160, 3, none⟩ = some (.int .i64 a0_3) ∧ w21.cell? ⟨gb160, 4, none⟩ = some (.float .f64 a0_4) ∧ w21.cell? ⟨gb160, 5, none⟩ = some (.slice A0_5 l0_5.length c0_5) ∧ w21.cell? ⟨gb160, 6, none⟩ = some (.int .i64 a0_6) ∧ w21.cell? ⟨gb160, 7, none⟩ = some (.int .i64 a0_7) ∧ w21.cell? ⟨gb160, 8, none⟩ = some (.float .f64 a0_8) ∧ w21.cell? ⟨gb160, 9, none⟩ = some (.slice A0_9 l0_9.length c0_9) := hS_
        refine norm_ (a' := ?_) ?_ ?_
        rotate_left
        ·simp only [putAll, Act.put, List.setIfInBounds_toArray, List.set_cons_zero, List.set_cons_succ]
         rfl
        refine two_ (i := 5) (j := 14) (Ni := some 19) (Nj := some 28) #[true, true, true, true, true, true, true, true, true, true, true, true, true, true, false, true, false, false, false] #[true, true, true, true, true, false, true, true, true, true, true, true, true, true, true, true, false, false, false] rfl rfl rfl rfl (two_of HT_.out (by kernel_rfl)) (by decide) (by decide) (fun K hK => ?_) (fun K hK => ?_)
        ·skip
         refine goes_ Try.func74 (by kernel_rfl) rfl #[.int .i64 a0_1, .int .i64 4] (by rfl) rfl rfl (by (try simp only [List.map_toArray, List.map_cons, List.map_nil]); first | done | rfl) ?_
         with_reducible refine (impl_PutNum.calls k a0_1 4 t171 _ A7.out).mono ?_
         rintro e w22 ⟨v172, rfl, ho0, hb⟩
         refine ⟨_, rfl, ?_⟩
         have n0_ := Aside0.mk (Kd.R_elder' (Kd.rup HO164.out) (Kd.R_base ho0) hb)
         have n1_ := Aside0.mk (Kd.R_elder' (Kd.rup HO167.out) (Kd.R_base ho0) hb)
         have n2_ := Aside0.mk (Kd.R_elder' (Kd.rup HO170.out) (Kd.R_base ho0) hb)
         have n3_ := Aside0.mk (Kd.R_elder' (Kd.rup HO176.out) (Kd.R_base ho0) hb)
         have n4_ := Aside0.mk (Kd.R_lower (Kd.R_new' (Kd.R_new' (Kd.R_new' (Kd.R_new' ho0 (Kd.R_lt (Kd.rup HO164.out))) (Kd.R_lt (Kd.rup HO167.out))) (Kd.R_lt (Kd.rup HO170.out))) (Kd.R_lt (Kd.rup HO176.out))) (below_size (hset HB.out)))
         have n5_ := Aside0.mk (blk_below (bup BK160.out) hb)
         have n6_ := Aside0.mk (below_step (hset HB.out) hb)
         clear HO164
         clear HO167
         clear HO170
         clear HO176
         clear BK160
         clear HB
         have HO164 := n0_
         have HO167 := n1_
         have HO170 := n2_
         have HO176 := n3_
         have HO173 := n4_
         have BK160 := n5_
         have HB := n6_
         clear n0_ n1_ n2_ n3_ n4_ n5_ n6_
         (try clear hb)
         (try clear hb2)
         (try clear hk)
         (try clear hi)
         (try clear ho0)
         refine hK.out _ _ (blk_cells10 BK160.out) (fun hHeld => ?_)
         clear hK K
         refine norm_ (a' := ?_) ?_ ?_
         rotate_left
         ·show Act.put _ (some 19) _ = _
          simp only [Act.put, List.setIfInBounds_toArray, List.set_cons_zero, List.set_cons_succ, i64_w, i32_w]
          rfl
         exact norm_ (by first | (simp only [putAll, Act.put, List.setIfInBounds_toArray, List.set_cons_zero, List.set_cons_succ]; done) | (simp only [putAll, Act.put, List.setIfInBounds_toArray, List.set_cons_zero, List.set_cons_succ]; rfl)) (hJ2_5_9 (v169, v172, v175) _ ⟨hHeld, (by exact Kd.rup (Kd.R_mono HO164.out (fun _ hk => ⟨hk.1.1, ⟨hk.1.2.1, ⟨hk.2, hk.1.2.2⟩⟩⟩))), (by exact Kd.rup (Kd.R_mono HO167.out (fun _ hk => ⟨hk.1.1, ⟨hk.1.2.1, ⟨hk.2, hk.1.2.2⟩⟩⟩))), (by exact Kd.rup (Kd.R_mono HO170.out (fun _ hk => ⟨hk.1.1, ⟨hk.1.2.1, ⟨hk.2, hk.1.2.2⟩⟩⟩))), (by exact Kd.rup (Kd.R_mono HO173.out (fun _ hk => ⟨hk.1.1.1.2, ⟨hk.1.1.2, ⟨hk.1.2, hk.2⟩⟩⟩))), (by exact Kd.rup (Kd.R_mono HO176.out (fun _ hk => ⟨hk.1.1, ⟨hk.1.2.1, ⟨hk.1.2.2, hk.2⟩⟩⟩))), (bup BK160.out), (hset HB.out)⟩)
        ·skip
         refine Kd.R_lit_step (Kd.int .u8) _ 5 ?hg (N := 28) ?hd (xs := ([((t165.length : Int)) % 256] : List Int)) (inner := [.int .u8 (((t165.length : Int)) % 256)]) (ok := fun _ => True) (okp := fun _ => True) ?hr ?hp (fun _ hk => hk) trivial (Below.refl _ _) (Nat.le_refl _) (by simp) ?_; (case hd => rfl); (case hg => rfl); (case hr => first | (go_simp; done) | (go_simp; rfl)); (case hp => exact (Reps.one (show Kd.M (Kd.int .u8) _ _ _ (((t165.length : Int)) % 256) [.int .u8 (((t165.length : Int)) % 256)] from rfl) (Reps.none _ _)))
         intro v178 w22 ho23 hb hg_ hnew_
         clear hg_ hnew_
         (first | rw [← Ny177.out] at ho23 | (simp only [Int.reduceToNat] at ho23; rw [← Ny177.out] at ho23))
         have n0_ := Aside0.mk (Kd.R_elder' (Kd.rup HO164.out) (Kd.R_base ho23) hb)
         have n1_ := Aside0.mk (Kd.R_elder' (Kd.rup HO167.out) (Kd.R_base ho23) hb)
         have n2_ := Aside0.mk (Kd.R_elder' (Kd.rup HO170.out) (Kd.R_base ho23) hb)
         have n3_ := Aside0.mk (Kd.R_elder' (Kd.rup HO176.out) (Kd.R_base ho23) hb)
         have n4_ := Aside0.mk (Kd.R_lower (Kd.R_new' (Kd.R_new' (Kd.R_new' (Kd.R_new' ho23 (Kd.R_lt (Kd.rup HO164.out))) (Kd.R_lt (Kd.rup HO167.out))) (Kd.R_lt (Kd.rup HO170.out))) (Kd.R_lt (Kd.rup HO176.out))) (below_size (hset HB.out)))
         have n5_ := Aside0.mk (blk_below (bup BK160.out) hb)
         have n6_ := Aside0.mk (below_step (hset HB.out) hb)
         clear HO164
         clear HO167
         clear HO170
         clear HO176
         clear BK160
         clear HB
         have HO164 := n0_
         have HO167 := n1_
         have HO170 := n2_
         have HO176 := n3_
         have HO179 := n4_
         have BK160 := n5_
         have HB := n6_
         clear n0_ n1_ n2_ n3_ n4_ n5_ n6_
         clear hb ho23
         refine hK.out _ _ (blk_cells10 BK160.out) (fun hHeld => ?_)
         clear hK K
         refine norm_ (a' := ?_) ?_ ?_
         rotate_left
         ·show Act.put _ (some 28) _ = _
          simp only [Act.put, List.setIfInBounds_toArray, List.set_cons_zero, List.set_cons_succ, i64_w, i32_w]
          rfl
         exact norm_ (by first | (simp only [putAll, Act.put, List.setIfInBounds_toArray, List.set_cons_zero, List.set_cons_succ]; done) | (simp only [putAll, Act.put, List.setIfInBounds_toArray, List.set_cons_zero, List.set_cons_succ]; rfl)) (hJ2_9_14 (v169, v175, v178) _ ⟨hHeld, (by exact Kd.rup (Kd.R_mono HO164.out (fun _ hk => ⟨hk.1.1, ⟨hk.1.2.1, ⟨hk.1.2.2, hk.2⟩⟩⟩))), (by exact Kd.rup (Kd.R_mono HO167.out (fun _ hk => ⟨hk.1.1, ⟨hk.1.2.1, ⟨hk.1.2.2, hk.2⟩⟩⟩))), (by exact Kd.rup (Kd.R_mono HO170.out (fun _ hk => ⟨hk.1.1, ⟨hk.1.2.1, ⟨hk.1.2.2, hk.2⟩⟩⟩))), (by exact Kd.rup (Kd.R_mono HO176.out (fun _ hk => ⟨hk.1.1, ⟨hk.1.2.1, ⟨hk.1.2.2, hk.2⟩⟩⟩))), (by exact Kd.rup (Kd.R_mono HO179.out (fun _ hk => ⟨hk.1.1.1.2, ⟨hk.1.1.2, ⟨hk.1.2, hk.2⟩⟩⟩))), (bup BK160.out), (hset HB.out)⟩)
      ·skip
       rintro ⟨v169, v172⟩ w20 ⟨hS_, h0_, h1_, h2_, h3_, h4_, h5_⟩
       have n0_ : Aside0 (Kd.R (Kd.int .u8) 5 w20 w.heap.size (fun k_ => some k_ ≠ (.slice Ao17 t165.length co17 : Value).ownBlock ∧ some k_ ≠ (v169 : Value).ownBlock ∧ some k_ ≠ (v172 : Value).ownBlock) (.slice Ao16 t162.length co16) t162) := ⟨h0_⟩
       have n1_ : Aside0 (Kd.R (Kd.int .u8) 5 w20 w.heap.size (fun k_ => some k_ ≠ (.slice Ao16 t162.length co16 : Value).ownBlock ∧ some k_ ≠ (v169 : Value).ownBlock ∧ some k_ ≠ (v172 : Value).ownBlock) (.slice Ao17 t165.length co17) t165) := ⟨h1_⟩
       have n2_ : Aside0 (Kd.R (Kd.int .u8) 5 w20 w.heap.size (fun k_ => some k_ ≠ (.slice Ao16 t162.length co16 : Value).ownBlock ∧ some k_ ≠ (.slice Ao17 t165.length co17 : Value).ownBlock ∧ some k_ ≠ (v172 : Value).ownBlock) v169 t168) := ⟨h2_⟩
       have n3_ : Aside0 (Kd.R (Kd.int .u8) 5 w20 w.heap.size (fun k_ => some k_ ≠ (.slice Ao16 t162.length co16 : Value).ownBlock ∧ some k_ ≠ (.slice Ao17 t165.length co17 : Value).ownBlock ∧ some k_ ≠ (v169 : Value).ownBlock) v172 t171) := ⟨h3_⟩
       have n4_ : Aside0 (w20.heap[gb160]? = some (.cells #[.int .i64 a0_0, .int .i64 a0_1, .int .i64 a0_2, .int .i64 a0_3, .float .f64 a0_4, .slice A0_5 l0_5.length c0_5, .int .i64 a0_6, .int .i64 a0_7, .float .f64 a0_8, .slice A0_9 l0_9.length c0_9] 49 (0, 0))) := ⟨h4_⟩
       have n5_ : Aside0 (Below w.heap.size w w20) := ⟨h5_⟩
       clear HO164
       clear HO167
       clear BK160
       clear HB
       clear h0_ h1_ h2_ h3_ h4_ h5_
       have HO164 := n0_
       have HO167 := n1_
       have HO170 := n2_
       have HO173 := n3_
       have BK160 := n4_
       have HB := n5_
       clear n0_ n1_ n2_ n3_ n4_ n5_
       have hHeld : w20.cell? ⟨gb160, 0, none⟩ = some (.int .i64 a0_0) ∧ w20.cell? ⟨gb160, 1, none⟩ = some (.int .i64 a0_1) ∧ w20.cell? ⟨gb160, 2, none⟩ = some (.int .i64 a0_2) ∧ w20.cell? ⟨gb160, 3, none⟩ = some (.int .i64 a0_3) ∧ w20.cell? ⟨gb160, 4, none⟩ = some (.float .f64 a0_4) ∧ w20.cell? ⟨gb160, 5, none⟩ = some (.slice A0_5 l0_5.length c0_5) ∧ w20.cell? ⟨gb160, 6, none⟩ = some (.int .i64 a0_6) ∧ w20.cell? ⟨gb160, 7, none⟩ = some (.int .i64 a0_7) ∧ w20.cell? ⟨gb160, 8, none⟩ = some (.float .f64 a0_8) ∧ w20.cell? ⟨gb160, 9, none⟩ = some (.slice A0_9 l0_9.length c0_9) := hS_
       refine norm_ (a' := ?_) ?_ ?_
       rotate_left
       ·simp only [putAll, Act.put, List.setIfInBounds_toArray, List.set_cons_zero, List.set_cons_succ]
        rfl
       refine two_ (i := 9) (j := 14) (Ni := some 23) (Nj := some 28) #[true, true, true, true, true, true, true, true, true, true, true, true, true, true, false, true, false, false, false] #[true, true, true, true, true, true, true, true, true, false, true, true, true, true, true, true, false, false, false] rfl rfl rfl rfl (two_of HT_.out (by kernel_rfl)) (by decide) (by decide) (fun K hK => ?_) (fun K hK => ?_)
       ·skip
        refine Kd.R_lit_step (Kd.int .u8) _ 5 ?hg (N := 23) ?hd (xs := ([((t162.length : Int)) % 256] : List Int)) (inner := [.int .u8 (((t162.length : Int)) % 256)]) (ok := fun _ => True) (okp := fun _ => True) ?hr ?hp (fun _ hk => hk) trivial (Below.refl _ _) (Nat.le_refl _) (by simp) ?_; (case hd => rfl); (case hg => rfl); (case hr => first | (go_simp; done) | (go_simp; rfl)); (case hp => exact (Reps.one (show Kd.M (Kd.int .u8) _ _ _ (((t162.length : Int)) % 256) [.int .u8 (((t162.length : Int)) % 256)] from rfl) (Reps.none _ _)))
        intro v175 w21 ho22 hb hg_ hnew_
        clear hg_ hnew_
        (first | rw [← Ny174.out] at ho22 | (simp only [Int.reduceToNat] at ho22; rw [← Ny174.out] at ho22))
        have n0_ := Aside0.mk (Kd.R_elder' (Kd.rup HO164.out) (Kd.R_base ho22) hb)
        have n1_ := Aside0.mk (Kd.R_elder' (Kd.rup HO167.out) (Kd.R_base ho22) hb)
        have n2_ := Aside0.mk (Kd.R_elder' (Kd.rup HO170.out) (Kd.R_base ho22) hb)
        have n3_ := Aside0.mk (Kd.R_elder' (Kd.rup HO173.out) (Kd.R_base ho22) hb)
        have n4_ := Aside0.mk (Kd.R_lower (Kd.R_new' (Kd.R_new' (Kd.R_new' (Kd.R_new' ho22 (Kd.R_lt (Kd.rup HO164.out))) (Kd.R_lt (Kd.rup HO167.out))) (Kd.R_lt (Kd.rup HO170.out))) (Kd.R_lt (Kd.rup HO173.out))) (below_size (hset HB.out)))
        have n5_ := Aside0.mk (blk_below (bup BK160.out) hb)
        have n6_ := Aside0.mk (below_step (hset HB.out) hb)
        clear HO164
        clear HO167
        clear HO170
        clear HO173
        clear BK160
        clear HB
        have HO164 := n0_
        have HO167 := n1_
        have HO170 := n2_
        have HO173 := n3_
        have HO176 := n4_
        have BK160 := n5_
        have HB := n6_
        clear n0_ n1_ n2_ n3_ n4_ n5_ n6_
        clear hb ho22
        refine hK.out _ _ (blk_cells10 BK160.out) (fun hHeld => ?_)
        clear hK K
        refine norm_ (a' := ?_) ?_ ?_
        rotate_left
        ·show Act.put _ (some 23) _ = _
         simp only [Act.put, List.setIfInBounds_toArray, List.set_cons_zero, List.set_cons_succ, i64_w, i32_w]
         rfl
        exact norm_ (by first | (simp only [putAll, Act.put, List.setIfInBounds_toArray, List.set_cons_zero, List.set_cons_succ]; done) | (simp only [putAll, Act.put, List.setIfInBounds_toArray, List.set_cons_zero, List.set_cons_succ]; rfl)) (hJ2_5_9 (v169, v172, v175) _ ⟨hHeld, (by exact Kd.rup (Kd.R_mono HO164.out (fun _ hk => ⟨hk.1.1, ⟨hk.1.2.1, ⟨hk.1.2.2, hk.2⟩⟩⟩))), (by exact Kd.rup (Kd.R_mono HO167.out (fun _ hk => ⟨hk.1.1, ⟨hk.1.2.1, ⟨hk.1.2.2, hk.2⟩⟩⟩))), (by exact Kd.rup (Kd.R_mono HO170.out (fun _ hk => ⟨hk.1.1, ⟨hk.1.2.1, ⟨hk.1.2.2, hk.2⟩⟩⟩))), (by exact Kd.rup (Kd.R_mono HO173.out (fun _ hk => ⟨hk.1.1, ⟨hk.1.2.1, ⟨hk.1.2.2, hk.2⟩⟩⟩))), (by exact Kd.rup (Kd.R_mono HO176.out (fun _ hk => ⟨hk.1.1.1.2, ⟨hk.1.1.2, ⟨hk.1.2, hk.2⟩⟩⟩))), (bup BK160.out), (hset HB.out)⟩)
       ·skip
        refine Kd.R_lit_step (Kd.int .u8) _ 5 ?hg (N := 28) ?hd (xs := ([((t165.length : Int)) % 256] : List Int)) (inner := [.int .u8 (((t165.length : Int)) % 256)]) (ok := fun _ => True) (okp := fun _ => True) ?hr ?hp (fun _ hk => hk) trivial (Below.refl _ _) (Nat.le_refl _) (by simp) ?_; (case hd => rfl); (case hg => rfl); (case hr => first | (go_simp; done) | (go_simp; rfl)); (case hp => exact (Reps.one (show Kd.M (Kd.int .u8) _ _ _ (((t165.length : Int)) % 256) [.int .u8 (((t165.length : Int)) % 256)] from rfl) (Reps.none _ _)))
        intro v178 w21 ho22 hb hg_ hnew_
        clear hg_ hnew_
        (first | rw [← Ny177.out] at ho22 | (simp only [Int.reduceToNat] at ho22; rw [← Ny177.out] at ho22))
        have n0_ := Aside0.mk (Kd.R_elder' (Kd.rup HO164.out) (Kd.R_base ho22) hb)
        have n1_ := Aside0.mk (Kd.R_elder' (Kd.rup HO167.out) (Kd.R_base ho22) hb)
        have n2_ := Aside0.mk (Kd.R_elder' (Kd.rup HO170.out) (Kd.R_base ho22) hb)
        have n3_ := Aside0.mk (Kd.R_elder' (Kd.rup HO173.out) (Kd.R_base ho22) hb)
        have n4_ := Aside0.mk (Kd.R_lower (Kd.R_new' (Kd.R_new' (Kd.R_new' (Kd.R_new' ho22 (Kd.R_lt (Kd.rup HO164.out))) (Kd.R_lt (Kd.rup HO167.out))) (Kd.R_lt (Kd.rup HO170.out))) (Kd.R_lt (Kd.rup HO173.out))) (below_size (hset HB.out)))
        have n5_ := Aside0.mk (blk_below (bup BK160.out) hb)
        have n6_ := Aside0.mk (below_step (hset HB.out) hb)
        clear HO164
        clear HO167
        clear HO170
        clear HO173
        clear BK160
        clear HB
        have HO164 := n0_
        have HO167 := n1_
        have HO170 := n2_
        have HO173 := n3_
        have HO179 := n4_
        have BK160 := n5_
        have HB := n6_
        clear n0_ n1_ n2_ n3_ n4_ n5_ n6_
        clear hb ho22
        refine hK.out _ _ (blk_cells10 BK160.out) (fun hHeld => ?_)
        clear hK K
        refine norm_ (a' := ?_) ?_ ?_
        rotate_left
        ·show Act.put _ (some 28) _ = _
         simp only [Act.put, List.setIfInBounds_toArray, List.set_cons_zero, List.set_cons_succ, i64_w, i32_w]
         rfl
        exact norm_ (by first | (simp only [putAll, Act.put, List.setIfInBounds_toArray, List.set_cons_zero, List.set_cons_succ]; done) | (simp only [putAll, Act.put, List.setIfInBounds_toArray, List.set_cons_zero, List.set_cons_succ]; rfl)) (hJ2_5_14 (v169, v172, v178) _ ⟨hHeld, (by exact Kd.rup (Kd.R_mono HO164.out (fun _ hk => ⟨hk.1.1, ⟨hk.1.2.1, ⟨hk.1.2.2, hk.2⟩⟩⟩))), (by exact Kd.rup (Kd.R_mono HO167.out (fun _ hk => ⟨hk.1.1, ⟨hk.1.2.1, ⟨hk.1.2.2, hk.2⟩⟩⟩))), (by exact Kd.rup (Kd.R_mono HO170.out (fun _ hk => ⟨hk.1.1, ⟨hk.1.2.1, ⟨hk.1.2.2, hk.2⟩⟩⟩))), (by exact Kd.rup (Kd.R_mono HO173.out (fun _ hk => ⟨hk.1.1, ⟨hk.1.2.1, ⟨hk.1.2.2, hk.2⟩⟩⟩))), (by exact Kd.rup (Kd.R_mono HO179.out (fun _ hk => ⟨hk.1.1.1.2, ⟨hk.1.1.2, ⟨hk.1.2, hk.2⟩⟩⟩))), (bup BK160.out), (hset HB.out)⟩)
     ·skip
      rintro ⟨v169, v175, v178⟩ w23 ⟨hS_, h0_, h1_, h2_, h3_, h4_, h5_, h6_⟩
      have n0_ : Aside0 (Kd.R (Kd.int .u8) 5 w23 w.heap.size (fun k_ => some k_ ≠ (.slice Ao17 t165.length co17 : Value).ownBlock ∧ some k_ ≠ (v169 : Value).ownBlock ∧ some k_ ≠ (v175 : Value).ownBlock ∧ some k_ ≠ (v178 : Value).ownBlock) (.slice Ao16 t162.length co16) t162) := ⟨h0_⟩
      have n1_ : Aside0 (Kd.R (Kd.int .u8) 5 w23 w.heap.size (fun k_ => some k_ ≠ (.slice Ao16 t162.length co16 : Value).ownBlock ∧ some k_ ≠ (v169 : Value).ownBlock ∧ some k_ ≠ (v175 : Value).ownBlock ∧ some k_ ≠ (v178 : Value).ownBlock) (.slice Ao17 t165.length co17) t165) := ⟨h1_⟩
      have n2_ : Aside0 (Kd.R (Kd.int .u8) 5 w23 w.heap.size (fun k_ => some k_ ≠ (.slice Ao16 t162.length co16 : Value).ownBlock ∧ some k_ ≠ (.slice Ao17 t165.length co17 : Value).ownBlock ∧ some k_ ≠ (v175 : Value).ownBlock ∧ some k_ ≠ (v178 : Value).ownBlock) v169 t168) := ⟨h2_⟩
      have n3_ : Aside0 (Kd.R (Kd.int .u8) 5 w23 w.heap.size (fun k_ => some k_ ≠ (.slice Ao16 t162.length co16 : Value).ownBlock ∧ some k_ ≠ (.slice Ao17 t165.length co17 : Value).ownBlock ∧ some k_ ≠ (v169 : Value).ownBlock ∧ some k_ ≠ (v178 : Value).ownBlock) v175 y174) := ⟨h3_⟩
      have n4_ : Aside0 (Kd.R (Kd.int .u8) 5 w23 w.heap.size (fun k_ => some k_ ≠ (.slice Ao16 t162.length co16 : Value).ownBlock ∧ some k_ ≠ (.slice Ao17 t165.length co17 : Value).ownBlock ∧ some k_ ≠ (v169 : Value).ownBlock ∧ some k_ ≠ (v175 : Value).ownBlock) v178 y177) := ⟨h4_⟩
      have n5_ : Aside0 (w23.heap[gb160]? = some (.cells #[.int .i64 a0_0, .int .i64 a0_1, .int .i64 a0_2, .int .i64 a0_3, .float .f64 a0_4, .slice A0_5 l0_5.length c0_5, .int .i64 a0_6, .int .i64 a0_7, .float .f64 a0_8, .slice A0_9 l0_9.length c0_9] 49 (0, 0))) := ⟨h5_⟩
      have n6_ : Aside0 (Below w.heap.size w w23) := ⟨h6_⟩
      clear HO164
      clear HO167
      clear BK160
      clear HB
      clear h0_ h1_ h2_ h3_ h4_ h5_ h6_
      have HO164 := n0_
      have HO167 := n1_
      have HO170 := n2_
      have HO176 := n3_
      have HO179 := n4_
      have BK160 := n5_
      have HB := n6_
      clear n0_ n1_ n2_ n3_ n4_ n5_ n6_
      have hHeld : w23.cell? ⟨gb160, 0, none⟩ = some (.int .i64 a0_0) ∧ w23.cell? ⟨gb160, 1, none⟩ = some (.int .i64 a0_1) ∧ w23.cell? ⟨gb160, 2, none⟩ = some (.int .i64 a0_2) ∧ w23.cell? ⟨gb160, 3, none⟩ = some (.int .i64 a0_3) ∧ w23.cell? ⟨gb160, 4, none⟩ = some (.float .f64 a0_4) ∧ w23.cell? ⟨gb160, 5, none⟩ = some (.slice A0_5 l0_5.length c0_5) ∧ w23.cell? ⟨gb160, 6, none⟩ = some (.int .i64 a0_6) ∧ w23.cell? ⟨gb160, 7, none⟩ = some (.int .i64 a0_7) ∧ w23.cell? ⟨gb160, 8, none⟩ = some (.float .f64 a0_8) ∧ w23.cell? ⟨gb160, 9, none⟩ = some (.slice A0_9 l0_9.length c0_9) := hS_
      refine norm_ (a' := ?_) ?_ ?_
      rotate_left
      ·simp only [putAll, Act.put, List.setIfInBounds_toArray, List.set_cons_zero, List.set_cons_succ]
       rfl
      refine one_ (i := 5) (N := some 19) #[true, true, true, true, true, true, true, true, true, true, true, true, true, true, true, true, false, false, false] rfl rfl (one_of HT_.out (by kernel_rfl)) (by decide) (fun K hK => ?_)
      refine goes_ Try.func74 (by kernel_rfl) rfl #[.int .i64 a0_1, .int .i64 4] (by rfl) rfl rfl (by (try simp only [List.map_toArray, List.map_cons, List.map_nil]); first | done | rfl) ?_
      with_reducible refine (impl_PutNum.calls k a0_1 4 t171 _ A7.out).mono ?_
      rintro e w24 ⟨v172, rfl, ho0, hb⟩
      refine ⟨_, rfl, ?_⟩
      have n0_ := Aside0.mk (Kd.R_elder' (Kd.rup HO164.out) (Kd.R_base ho0) hb)
      have n1_ := Aside0.mk (Kd.R_elder' (Kd.rup HO167.out) (Kd.R_base ho0) hb)
      have n2_ := Aside0.mk (Kd.R_elder' (Kd.rup HO170.out) (Kd.R_base ho0) hb)
      have n3_ := Aside0.mk (Kd.R_elder' (Kd.rup HO176.out) (Kd.R_base ho0) hb)
      have n4_ := Aside0.mk (Kd.R_elder' (Kd.rup HO179.out) (Kd.R_base ho0) hb)
      have n5_ := Aside0.mk (Kd.R_lower (Kd.R_new' (Kd.R_new' (Kd.R_new' (Kd.R_new' (Kd.R_new' ho0 (Kd.R_lt (Kd.rup HO164.out))) (Kd.R_lt (Kd.rup HO167.out))) (Kd.R_lt (Kd.rup HO170.out))) (Kd.R_lt (Kd.rup HO176.out))) (Kd.R_lt (Kd.rup HO179.out))) (below_size (hset HB.out)))
      have n6_ := Aside0.mk (blk_below (bup BK160.out) hb)
      have n7_ := Aside0.mk (below_step (hset HB.out) hb)
      clear HO164
      clear HO167
      clear HO170
      clear HO176
      clear HO179
      clear BK160
      clear HB
      have HO164 := n0_
      have HO167 := n1_
      have HO170 := n2_
      have HO176 := n3_
      have HO179 := n4_
      have HO173 := n5_
      have BK160 := n6_
      have HB := n7_
      clear n0_ n1_ n2_ n3_ n4_ n5_ n6_ n7_
      (try clear hb)
      (try clear hb2)
      (try clear hk)
      (try clear hi)
      (try clear ho0)
      refine hK.out _ _ (blk_cells10 BK160.out) (fun hHeld => ?_)
      clear hK K
      refine norm_ (a' := ?_) ?_ ?_
      rotate_left
      ·show Act.put _ (some 19) _ = _
       simp only [Act.put, List.setIfInBounds_toArray, List.set_cons_zero, List.set_cons_succ, i64_w, i32_w]
       rfl
      exact norm_ (by first | (simp only [putAll, Act.put, List.setIfInBounds_toArray, List.set_cons_zero, List.set_cons_succ]; done) | (simp only [putAll, Act.put, List.setIfInBounds_toArray, List.set_cons_zero, List.set_cons_succ]; rfl)) (hJ2_5_9_14 (v169, v172, v175, v178) _ ⟨hHeld, (by exact Kd.rup (Kd.R_mono HO164.out (fun _ hk => ⟨hk.1.1, ⟨hk.1.2.1, ⟨hk.2, ⟨hk.1.2.2.1, hk.1.2.2.2⟩⟩⟩⟩))), (by exact Kd.rup (Kd.R_mono HO167.out (fun _ hk => ⟨hk.1.1, ⟨hk.1.2.1, ⟨hk.2, ⟨hk.1.2.2.1, hk.1.2.2.2⟩⟩⟩⟩))), (by exact Kd.rup (Kd.R_mono HO170.out (fun _ hk => ⟨hk.1.1, ⟨hk.1.2.1, ⟨hk.2, ⟨hk.1.2.2.1, hk.1.2.2.2⟩⟩⟩⟩))), (by exact Kd.rup (Kd.R_mono HO173.out (fun _ hk => ⟨hk.1.1.1.1.2, ⟨hk.1.1.1.2, ⟨hk.1.1.2, ⟨hk.1.2, hk.2⟩⟩⟩⟩))), (by exact Kd.rup (Kd.R_mono HO176.out (fun _ hk => ⟨hk.1.1, ⟨hk.1.2.1, ⟨hk.1.2.2.1, ⟨hk.2, hk.1.2.2.2⟩⟩⟩⟩))), (by exact Kd.rup (Kd.R_mono HO179.out (fun _ hk => ⟨hk.1.1, ⟨hk.1.2.1, ⟨hk.1.2.2.1, ⟨hk.2, hk.1.2.2.2⟩⟩⟩⟩))), (bup BK160.out), (hset HB.out)⟩)
    ·skip
     rintro ⟨v169, v172, v178⟩ w22 ⟨hS_, h0_, h1_, h2_, h3_, h4_, h5_, h6_⟩
     have n0_ : Aside0 (Kd.R (Kd.int .u8) 5 w22 w.heap.size (fun k_ => some k_ ≠ (.slice Ao17 t165.length co17 : Value).ownBlock ∧ some k_ ≠ (v169 : Value).ownBlock ∧ some k_ ≠ (v172 : Value).ownBlock ∧ some k_ ≠ (v178 : Value).ownBlock) (.slice Ao16 t162.length co16) t162) := ⟨h0_⟩
     have n1_ : Aside0 (Kd.R (Kd.int .u8) 5 w22 w.heap.size (fun k_ => some k_ ≠ (.slice Ao16 t162.length co16 : Value).ownBlock ∧ some k_ ≠ (v169 : Value).ownBlock ∧ some k_ ≠ (v172 : Value).ownBlock ∧ some k_ ≠ (v178 : Value).ownBlock) (.slice Ao17 t165.length co17) t165) := ⟨h1_⟩
     have n2_ : Aside0 (Kd.R (Kd.int .u8) 5 w22 w.heap.size (fun k_ => some k_ ≠ (.slice Ao16 t162.length co16 : Value).ownBlock ∧ some k_ ≠ (.slice Ao17 t165.length co17 : Value).ownBlock ∧ some k_ ≠ (v172 : Value).ownBlock ∧ some k_ ≠ (v178 : Value).ownBlock) v169 t168) := ⟨h2_⟩
     have n3_ : Aside0 (Kd.R (Kd.int .u8) 5 w22 w.heap.size (fun k_ => some k_ ≠ (.slice Ao16 t162.length co16 : Value).ownBlock ∧ some k_ ≠ (.slice Ao17 t165.length co17 : Value).ownBlock ∧ some k_ ≠ (v169 : Value).ownBlock ∧ some k_ ≠ (v178 : Value).ownBlock) v172 t171) := ⟨h3_⟩
     have n4_ : Aside0 (Kd.R (Kd.int .u8) 5 w22 w.heap.size (fun k_ => some k_ ≠ (.slice Ao16 t162.length co16 : Value).ownBlock ∧ some k_ ≠ (.slice Ao17 t165.length co17 : Value).ownBlock ∧ some k_ ≠ (v169 : Value).ownBlock ∧ some k_ ≠ (v172 : Value).ownBlock) v178 y177) := ⟨h4_⟩
     have n5_ : Aside0 (w22.heap[gb160]? = some (.cells #[.int .i64 a0_0, .int .i64 a0_1, .int .i64 a0_2, .int .i64 a0_3, .float .f64 a0_4, .slice A0_5 l0_5.length c0_5, .int .i64 a0_6, .int .i64 a0_7, .float .f64 a0_8, .slice A0_9 l0_9.length c0_9] 49 (0, 0))) := ⟨h5_⟩
     have n6_ : Aside0 (Below w.heap.size w w22) := ⟨h6_⟩
     clear HO164
     clear HO167
     clear BK160
     clear HB
     clear h0_ h1_ h2_ h3_ h4_ h5_ h6_
     have HO164 := n0_
     have HO167 := n1_
     have HO170 := n2_
     have HO173 := n3_
     have HO179 := n4_
     have BK160 := n5_
     have HB := n6_
     clear n0_ n1_ n2_ n3_ n4_ n5_ n6_
     have hHeld : w22.cell? ⟨gb160, 0, none⟩ = some (.int .i64 a0_0) ∧ w22.cell? ⟨gb160, 1, none⟩ = some (.int .i64 a0_1) ∧ w22.cell? ⟨gb160, 2, none⟩ = some (.int .i64 a0_2) ∧ w22.cell? ⟨gb160, 3, none⟩ = some (.int .i64 a0_3) ∧ w22.cell? ⟨gb160, 4, none⟩ = some (.float .f64 a0_4) ∧ w22.cell? ⟨gb160, 5, none⟩ = some (.slice A0_5 l0_5.length c0_5) ∧ w22.cell? ⟨gb160, 6, none⟩ = some (.int .i64 a0_6) ∧ w22.cell? ⟨gb160, 7, none⟩ = some (.int .i64 a0_7) ∧ w22.cell? ⟨gb160, 8, none⟩ = some (.float .f64 a0_8) ∧ w22.cell? ⟨gb160, 9, none⟩ = some (.slice A0_9 l0_9.length c0_9) := hS_
     refine norm_ (a' := ?_) ?_ ?_
     rotate_left
     ·simp only [putAll, Act.put, List.setIfInBounds_toArray, List.set_cons_zero, List.set_cons_succ]
      rfl
     refine one_ (i := 9) (N := some 23) #[true, true, true, true, true, true, true, true, true, true, true, true, true, true, true, true, false, false, false] rfl rfl (one_of HT_.out (by kernel_rfl)) (by decide) (fun K hK => ?_)
     refine Kd.R_lit_step (Kd.int .u8) _ 5 ?hg (N := 23) ?hd (xs := ([((t162.length : Int)) % 256] : List Int)) (inner := [.int .u8 (((t162.length : Int)) % 256)]) (ok := fun _ => True) (okp := fun _ => True) ?hr ?hp (fun _ hk => hk) trivial (Below.refl _ _) (Nat.le_refl _) (by simp) ?_; (case hd => rfl); (case hg => rfl); (case hr => first | (go_simp; done) | (go_simp; rfl)); (case hp => exact (Reps.one (show Kd.M (Kd.int .u8) _ _ _ (((t162.length : Int)) % 256) [.int .u8 (((t162.length : Int)) % 256)] from rfl) (Reps.none _ _)))
     intro v175 w23 ho24 hb hg_ hnew_
     clear hg_ hnew_
     (first | rw [← Ny174.out] at ho24 | (simp only [Int.reduceToNat] at ho24; rw [← Ny174.out] at ho24))
     have n0_ := Aside0.mk (Kd.R_elder' (Kd.rup HO164.out) (Kd.R_base ho24) hb)
     have n1_ := Aside0.mk (Kd.R_elder' (Kd.rup HO167.out) (Kd.R_base ho24) hb)
     have n2_ := Aside0.mk (Kd.R_elder' (Kd.rup HO170.out) (Kd.R_base ho24) hb)
     have n3_ := Aside0.mk (Kd.R_elder' (Kd.rup HO173.out) (Kd.R_base ho24) hb)
     have n4_ := Aside0.mk (Kd.R_elder' (Kd.rup HO179.out) (Kd.R_base ho24) hb)
     have n5_ := Aside0.mk (Kd.R_lower (Kd.R_new' (Kd.R_new' (Kd.R_new' (Kd.R_new' (Kd.R_new' ho24 (Kd.R_lt (Kd.rup HO164.out))) (Kd.R_lt (Kd.rup HO167.out))) (Kd.R_lt (Kd.rup HO170.out))) (Kd.R_lt (Kd.rup HO173.out))) (Kd.R_lt (Kd.rup HO179.out))) (below_size (hset HB.out)))
     have n6_ := Aside0.mk (blk_below (bup BK160.out) hb)
     have n7_ := Aside0.mk (below_step (hset HB.out) hb)
     clear HO164
     clear HO167
     clear HO170
     clear HO173
     clear HO179
     clear BK160
     clear HB
     have HO164 := n0_
     have HO167 := n1_
     have HO170 := n2_
     have HO173 := n3_
     have HO179 := n4_
     have HO176 := n5_
     have BK160 := n6_
     have HB := n7_
     clear n0_ n1_ n2_ n3_ n4_ n5_ n6_ n7_
     clear hb ho24
     refine hK.out _ _ (blk_cells10 BK160.out) (fun hHeld => ?_)
     clear hK K
     refine norm_ (a' := ?_) ?_ ?_
     rotate_left
     ·show Act.put _ (some 23) _ = _
      simp only [Act.put, List.setIfInBounds_toArray, List.set_cons_zero, List.set_cons_succ, i64_w, i32_w]
      rfl
     exact norm_ (by first | (simp only [putAll, Act.put, List.setIfInBounds_toArray, List.set_cons_zero, List.set_cons_succ]; done) | (simp only [putAll, Act.put, List.setIfInBounds_toArray, List.set_cons_zero, List.set_cons_succ]; rfl)) (hJ2_5_9_14 (v169, v172, v175, v178) _ ⟨hHeld, (by exact Kd.rup (Kd.R_mono HO164.out (fun _ hk => ⟨hk.1.1, ⟨hk.1.2.1, ⟨hk.1.2.2.1, ⟨hk.2, hk.1.2.2.2⟩⟩⟩⟩))), (by exact Kd.rup (Kd.R_mono HO167.out (fun _ hk => ⟨hk.1.1, ⟨hk.1.2.1, ⟨hk.1.2.2.1, ⟨hk.2, hk.1.2.2.2⟩⟩⟩⟩))), (by exact Kd.rup (Kd.R_mono HO170.out (fun _ hk => ⟨hk.1.1, ⟨hk.1.2.1, ⟨hk.1.2.2.1, ⟨hk.2, hk.1.2.2.2⟩⟩⟩⟩))), (by exact Kd.rup (Kd.R_mono HO173.out (fun _ hk => ⟨hk.1.1, ⟨hk.1.2.1, ⟨hk.1.2.2.1, ⟨hk.2, hk.1.2.2.2⟩⟩⟩⟩))), (by exact Kd.rup (Kd.R_mono HO176.out (fun _ hk => ⟨hk.1.1.1.1.2, ⟨hk.1.1.1.2, ⟨hk.1.1.2, ⟨hk.1.2, hk.2⟩⟩⟩⟩))), (by exact Kd.rup (Kd.R_mono HO179.out (fun _ hk => ⟨hk.1.1, ⟨hk.1.2.1, ⟨hk.1.2.2.1, ⟨hk.1.2.2.2, hk.2⟩⟩⟩⟩))), (bup BK160.out), (hset HB.out)⟩)
   ·skip
    rintro ⟨v169, v172, v175⟩ w22 ⟨hS_, h0_, h1_, h2_, h3_, h4_, h5_, h6_⟩
    have n0_ : Aside0 (Kd.R (Kd.int .u8) 5 w22 w.heap.size (fun k_ => some k_ ≠ (.slice Ao17 t165.length co17 : Value).ownBlock ∧ some k_ ≠ (v169 : Value).ownBlock ∧ some k_ ≠ (v172 : Value).ownBlock ∧ some k_ ≠ (v175 : Value).ownBlock) (.slice Ao16 t162.length co16) t162) := ⟨h0_⟩
    have n1_ : Aside0 (Kd.R (Kd.int .u8) 5 w22 w.heap.size (fun k_ => some k_ ≠ (.slice Ao16 t162.length co16 : Value).ownBlock ∧ some k_ ≠ (v169 : Value).ownBlock ∧ some k_ ≠ (v172 : Value).ownBlock ∧ some k_ ≠ (v175 : Value).ownBlock) (.slice Ao17 t165.length co17) t165) := ⟨h1_⟩
    have n2_ : Aside0 (Kd.R (Kd.int .u8) 5 w22 w.heap.size (fun k_ => some k_ ≠ (.slice Ao16 t162.length co16 : Value).ownBlock ∧ some k_ ≠ (.slice Ao17 t165.length co17 : Value).ownBlock ∧ some k_ ≠ (v172 : Value).ownBlock ∧ some k_ ≠ (v175 : Value).ownBlock) v169 t168) := ⟨h2_⟩
    have n3_ : Aside0 (Kd.R (Kd.int .u8) 5 w22 w.heap.size (fun k_ => some k_ ≠ (.slice Ao16 t162.length co16 : Value).ownBlock ∧ some k_ ≠ (.slice Ao17 t165.length co17 : Value).ownBlock ∧ some k_ ≠ (v169 : Value).ownBlock ∧ some k_ ≠ (v175 : Value).ownBlock) v172 t171) := ⟨h3_⟩
    have n4_ : Aside0 (Kd.R (Kd.int .u8) 5 w22 w.heap.size (fun k_ => some k_ ≠ (.slice Ao16 t162.length co16 : Value).ownBlock ∧ some k_ ≠ (.slice Ao17 t165.length co17 : Value).ownBlock ∧ some k_ ≠ (v169 : Value).ownBlock ∧ some k_ ≠ (v172 : Value).ownBlock) v175 y174) := ⟨h4_⟩
    have n5_ : Aside0 (w22.heap[gb160]? = some (.cells #[.int .i64 a0_0, .int .i64 a0_1, .int .i64 a0_2, .int .i64 a0_3, .float .f64 a0_4, .slice A0_5 l0_5.length c0_5, .int .i64 a0_6, .int .i64 a0_7, .float .f64 a0_8, .slice A0_9 l0_9.length c0_9] 49 (0, 0))) := ⟨h5_⟩
    have n6_ : Aside0 (Below w.heap.size w w22) := ⟨h6_⟩
    clear HO164
    clear HO167
    clear BK160
    clear HB
    clear h0_ h1_ h2_ h3_ h4_ h5_ h6_
    have HO164 := n0_
    have HO167 := n1_
    have HO170 := n2_
    have HO173 := n3_
    have HO176 := n4_
    have BK160 := n5_
    have HB := n6_
    clear n0_ n1_ n2_ n3_ n4_ n5_ n6_
    have hHeld : w22.cell? ⟨gb160, 0, none⟩ = some (.int .i64 a0_0) ∧ w22.cell? ⟨gb160, 1, none⟩ = some (.int .i64 a0_1) ∧ w22.cell? ⟨gb160, 2, none⟩ = some (.int .i64 a0_2) ∧ w22.cell? ⟨gb160, 3, none⟩ = some (.int .i64 a0_3) ∧ w22.cell? ⟨gb160, 4, none⟩ = some (.float .f64 a0_4) ∧ w22.cell? ⟨gb160, 5, none⟩ = some (.slice A0_5 l0_5.length c0_5) ∧ w22.cell? ⟨gb160, 6, none⟩ = some (.int .i64 a0_6) ∧ w22.cell? ⟨gb160, 7, none⟩ = some (.int .i64 a0_7) ∧ w22.cell? ⟨gb160, 8, none⟩ = some (.float .f64 a0_8) ∧ w22.cell? ⟨gb160, 9, none⟩ = some (.slice A0_9 l0_9.length c0_9) := hS_
    refine norm_ (a' := ?_) ?_ ?_
    rotate_left
    ·simp only [putAll, Act.put, List.setIfInBounds_toArray, List.set_cons_zero, List.set_cons_succ]
     rfl
    refine one_ (i := 14) (N := some 28) #[true, true, true, true, true, true, true, true, true, true, true, true, true, true, true, true, false, false, false] rfl rfl (one_of HT_.out (by kernel_rfl)) (by decide) (fun K hK => ?_)
    refine Kd.R_lit_step (Kd.int .u8) _ 5 ?hg (N := 28) ?hd (xs := ([((t165.length : Int)) % 256] : List Int)) (inner := [.int .u8 (((t165.length : Int)) % 256)]) (ok := fun _ => True) (okp := fun _ => True) ?hr ?hp (fun _ hk => hk) trivial (Below.refl _ _) (Nat.le_refl _) (by simp) ?_; (case hd => rfl); (case hg => rfl); (case hr => first | (go_simp; done) | (go_simp; rfl)); (case hp => exact (Reps.one (show Kd.M (Kd.int .u8) _ _ _ (((t165.length : Int)) % 256) [.int .u8 (((t165.length : Int)) % 256)] from rfl) (Reps.none _ _)))
    intro v178 w23 ho24 hb hg_ hnew_
    clear hg_ hnew_
    (first | rw [← Ny177.out] at ho24 | (simp only [Int.reduceToNat] at ho24; rw [← Ny177.out] at ho24))
    have n0_ := Aside0.mk (Kd.R_elder' (Kd.rup HO164.out) (Kd.R_base ho24) hb)
    have n1_ := Aside0.mk (Kd.R_elder' (Kd.rup HO167.out) (Kd.R_base ho24) hb)
    have n2_ := Aside0.mk (Kd.R_elder' (Kd.rup HO170.out) (Kd.R_base ho24) hb)
    have n3_ := Aside0.mk (Kd.R_elder' (Kd.rup HO173.out) (Kd.R_base ho24) hb)
    have n4_ := Aside0.mk (Kd.R_elder' (Kd.rup HO176.out) (Kd.R_base ho24) hb)
    have n5_ := Aside0.mk (Kd.R_lower (Kd.R_new' (Kd.R_new' (Kd.R_new' (Kd.R_new' (Kd.R_new' ho24 (Kd.R_lt (Kd.rup HO164.out))) (Kd.R_lt (Kd.rup HO167.out))) (Kd.R_lt (Kd.rup HO170.out))) (Kd.R_lt (Kd.rup HO173.out))) (Kd.R_lt (Kd.rup HO176.out))) (below_size (hset HB.out)))
    have n6_ := Aside0.mk (blk_below (bup BK160.out) hb)
    have n7_ := Aside0.mk (below_step (hset HB.out) hb)
    clear HO164
    clear HO167
    clear HO170
    clear HO173
    clear HO176
    clear BK160
    clear HB
    have HO164 := n0_
    have HO167 := n1_
    have HO170 := n2_
    have HO173 := n3_
    have HO176 := n4_
    have HO179 := n5_
    have BK160 := n6_
    have HB := n7_
    clear n0_ n1_ n2_ n3_ n4_ n5_ n6_ n7_
    clear hb ho24
    refine hK.out _ _ (blk_cells10 BK160.out) (fun hHeld => ?_)
    clear hK K
    refine norm_ (a' := ?_) ?_ ?_
    rotate_left
    ·show Act.put _ (some 28) _ = _
     simp only [Act.put, List.setIfInBounds_toArray, List.set_cons_zero, List.set_cons_succ, i64_w, i32_w]
     rfl
    exact norm_ (by first | (simp only [putAll, Act.put, List.setIfInBounds_toArray, List.set_cons_zero, List.set_cons_succ]; done) | (simp only [putAll, Act.put, List.setIfInBounds_toArray, List.set_cons_zero, List.set_cons_succ]; rfl)) (hJ2_5_9_14 (v169, v172, v175, v178) _ ⟨hHeld, (by exact Kd.rup (Kd.R_mono HO164.out (fun _ hk => ⟨hk.1.1, ⟨hk.1.2.1, ⟨hk.1.2.2.1, ⟨hk.1.2.2.2, hk.2⟩⟩⟩⟩))), (by exact Kd.rup (Kd.R_mono HO167.out (fun _ hk => ⟨hk.1.1, ⟨hk.1.2.1, ⟨hk.1.2.2.1, ⟨hk.1.2.2.2, hk.2⟩⟩⟩⟩))), (by exact Kd.rup (Kd.R_mono HO170.out (fun _ hk => ⟨hk.1.1, ⟨hk.1.2.1, ⟨hk.1.2.2.1, ⟨hk.1.2.2.2, hk.2⟩⟩⟩⟩))), (by exact Kd.rup (Kd.R_mono HO173.out (fun _ hk => ⟨hk.1.1, ⟨hk.1.2.1, ⟨hk.1.2.2.1, ⟨hk.1.2.2.2, hk.2⟩⟩⟩⟩))), (by exact Kd.rup (Kd.R_mono HO176.out (fun _ hk => ⟨hk.1.1, ⟨hk.1.2.1, ⟨hk.1.2.2.1, ⟨hk.1.2.2.2, hk.2⟩⟩⟩⟩))), (by exact Kd.rup (Kd.R_mono HO179.out (fun _ hk => ⟨hk.1.1.1.1.2, ⟨hk.1.1.1.2, ⟨hk.1.1.2, ⟨hk.1.2, hk.2⟩⟩⟩⟩))), (bup BK160.out), (hset HB.out)⟩)
  rintro ⟨v169, v172, v175, v178⟩ w24 ⟨hS_, h0_, h1_, h2_, h3_, h4_, h5_, h6_, h7_⟩
  have n0_ : Aside0 (Kd.R (Kd.int .u8) 5 w24 w.heap.size (fun k_ => some k_ ≠ (.slice Ao17 t165.length co17 : Value).ownBlock ∧ some k_ ≠ (v169 : Value).ownBlock ∧ some k_ ≠ (v172 : Value).ownBlock ∧ some k_ ≠ (v175 : Value).ownBlock ∧ some k_ ≠ (v178 : Value).ownBlock) (.slice Ao16 t162.length co16) t162) := ⟨h0_⟩
  have n1_ : Aside0 (Kd.R (Kd.int .u8) 5 w24 w.heap.size (fun k_ => some k_ ≠ (.slice Ao16 t162.length co16 : Value).ownBlock ∧ some k_ ≠ (v169 : Value).ownBlock ∧ some k_ ≠ (v172 : Value).ownBlock ∧ some k_ ≠ (v175 : Value).ownBlock ∧ some k_ ≠ (v178 : Value).ownBlock) (.slice Ao17 t165.length co17) t165) := ⟨h1_⟩
  have n2_ : Aside0 (Kd.R (Kd.int .u8) 5 w24 w.heap.size (fun k_ => some k_ ≠ (.slice Ao16 t162.length co16 : Value).ownBlock ∧ some k_ ≠ (.slice Ao17 t165.length co17 : Value).ownBlock ∧ some k_ ≠ (v172 : Value).ownBlock ∧ some k_ ≠ (v175 : Value).ownBlock ∧ some k_ ≠ (v178 : Value).ownBlock) v169 t168) := ⟨h2_⟩
  have n3_ : Aside0 (Kd.R (Kd.int .u8) 5 w24 w.heap.size (fun k_ => some k_ ≠ (.slice Ao16 t162.length co16 : Value).ownBlock ∧ some k_ ≠ (.slice Ao17 t165.length co17 : Value).ownBlock ∧ some k_ ≠ (v169 : Value).ownBlock ∧ some k_ ≠ (v175 : Value).ownBlock ∧ some k_ ≠ (v178 : Value).ownBlock) v172 t171) := ⟨h3_⟩
  have n4_ : Aside0 (Kd.R (Kd.int .u8) 5 w24 w.heap.size (fun k_ => some k_ ≠ (.slice Ao16 t162.length co16 : Value).ownBlock ∧ some k_ ≠ (.slice Ao17 t165.length co17 : Value).ownBlock ∧ some k_ ≠ (v169 : Value).ownBlock ∧ some k_ ≠ (v172 : Value).ownBlock ∧ some k_ ≠ (v178 : Value).ownBlock) v175 y174) := ⟨h4_⟩
  have n5_ : Aside0 (Kd.R (Kd.int .u8) 5 w24 w.heap.size (fun k_ => some k_ ≠ (.slice Ao16 t162.length co16 : Value).ownBlock ∧ some k_ ≠ (.slice Ao17 t165.length co17 : Value).ownBlock ∧ some k_ ≠ (v169 : Value).ownBlock ∧ some k_ ≠ (v172 : Value).ownBlock ∧ some k_ ≠ (v175 : Value).ownBlock) v178 y177) := ⟨h5_⟩
  have n6_ : Aside0 (w24.heap[gb160]? = some (.cells #[.int .i64 a0_0, .int .i64 a0_1, .int .i64 a0_2, .int .i64 a0_3, .float .f64 a0_4, .slice A0_5 l0_5.length c0_5, .int .i64 a0_6, .int .i64 a0_7, .float .f64 a0_8, .slice A0_9 l0_9.length c0_9] 49 (0, 0))) := ⟨h6_⟩
  have n7_ : Aside0 (Below w.heap.size w w24) := ⟨h7_⟩
  clear HO164
  clear HO167
  clear BK160
  clear HB
  clear h0_ h1_ h2_ h3_ h4_ h5_ h6_ h7_
  have HO164 := n0_
  have HO167 := n1_
  have HO170 := n2_
  have HO173 := n3_
  have HO176 := n4_
  have HO179 := n5_
  have BK160 := n6_
  have HB := n7_
  clear n0_ n1_ n2_ n3_ n4_ n5_ n6_ n7_
  have hHeld : w24.cell? ⟨gb160, 0, none⟩ = some (.int .i64 a0_0) ∧ w24.cell? ⟨gb160, 1, none⟩ = some (.int .i64 a0_1) ∧ w24.cell? ⟨gb160, 2, none⟩ = some (.int .i64 a0_2) ∧ w24.cell? ⟨gb160, 3, none⟩ = some (.int .i64 a0_3) ∧ w24.cell? ⟨gb160, 4, none⟩ = some (.float .f64 a0_4) ∧ w24.cell? ⟨gb160, 5, none⟩ = some (.slice A0_5 l0_5.length c0_5) ∧ w24.cell? ⟨gb160, 6, none⟩ = some (.int .i64 a0_6) ∧ w24.cell? ⟨gb160, 7, none⟩ = some (.int .i64 a0_7) ∧ w24.cell? ⟨gb160, 8, none⟩ = some (.float .f64 a0_8) ∧ w24.cell? ⟨gb160, 9, none⟩ = some (.slice A0_9 l0_9.length c0_9) := hS_
  obtain ⟨Ao25, co25, eo25⟩ := Kd.R_slice HO170.out
  (first | subst eo25 | (injection eo25 with f1_ f2_ f3_; have f4_ := f1_.symm; have f5_ := f3_.symm; clear f1_ f2_ f3_; subst f4_; subst f5_))
  obtain ⟨Ao26, co26, eo26⟩ := Kd.R_slice HO173.out
  (first | subst eo26 | (injection eo26 with f1_ f2_ f3_; have f4_ := f1_.symm; have f5_ := f3_.symm; clear f1_ f2_ f3_; subst f4_; subst f5_))
  obtain ⟨Ao27, co27, eo27⟩ := Kd.R_slice HO176.out
  (first | subst eo27 | (injection eo27 with f1_ f2_ f3_; have f4_ := f1_.symm; have f5_ := f3_.symm; clear f1_ f2_ f3_; subst f4_; subst f5_))
  obtain ⟨Ao28, co28, eo28⟩ := Kd.R_slice HO179.out
  (first | subst eo28 | (injection eo28 with f1_ f2_ f3_; have f4_ := f1_.symm; have f5_ := f3_.symm; clear f1_ f2_ f3_; subst f4_; subst f5_))
  refine norm_ (a' := ?_) ?_ ?_
  rotate_left
  ·simp only [putAll, Act.put, List.setIfInBounds_toArray, List.set_cons_zero, List.set_cons_succ]
   rfl
  refine one_ (i := 16) (N := some 30) #[true, true, true, true, true, true, true, true, true, true, true, true, true, true, true, true, true, false, false] rfl rfl (one_of HT_.out (by kernel_rfl)) (by decide) (fun K hK => ?_)
  refine Kd.N_lit_step (Kd.slice 5 (Kd.int .u8)) _ 22 ?hg (N' := 30) ?hd (xs := ([t168, t171, y174, t162, y177, t165] : List (List Int))) (inner := [.slice Ao25 t168.length co25, .slice Ao26 t171.length co26, .slice Ao27 y174.length co27, .slice Ao16 t162.length co16, .slice Ao28 y177.length co28, .slice Ao17 t165.length co17]) (ok := (fun k_ => k_ ≠ gb160)) (okp := (fun k_ => k_ ≠ gb160)) ?hr ?hp (fun _ hk => hk) ((show ∀ k_, w24.heap.size ≤ k_ → (fun k_ => k_ ≠ gb160) k_ from fun k_ hk => Kd.freshB (g := gb160) (o := .cells #[.int .i64 a0_0, .int .i64 a0_1, .int .i64 a0_2, .int .i64 a0_3, .float .f64 a0_4, .slice A0_5 l0_5.length c0_5, .int .i64 a0_6, .int .i64 a0_7, .float .f64 a0_8, .slice A0_9 l0_9.length c0_9] 49 (0, 0)) (bup BK160.out) k_ hk) _ (Nat.le_refl _)) (Below.refl _ _) (Nat.le_refl _) (by simp) ?_; (case hd => rfl); (case hg => rfl); (case hr => first | (go_simp; done) | (go_simp; rfl)); (case hp => exact (Reps.one (show Kd.FK (Kd.slice 5 (Kd.int .u8)) _ _ t168 [.slice Ao25 t168.length co25] from (Kd.FK_slice_mk (Kd.R_reads' (Kd.R_mono (ok' := (fun k_ => k_ ≠ gb160)) (Kd.R_types (HO170.out) BK160.out (by decide)) (fun k_ hk => hk.2))).2.1 (Kd.R_F (Kd.R_mono (ok' := (fun k_ => k_ ≠ gb160)) (Kd.R_types (HO170.out) BK160.out (by decide)) (fun k_ hk => hk.2))))) (Reps.one (show Kd.FK (Kd.slice 5 (Kd.int .u8)) _ _ t171 [.slice Ao26 t171.length co26] from (Kd.FK_slice_mk (Kd.R_reads' (Kd.R_mono (ok' := (fun k_ => k_ ≠ gb160)) (Kd.R_types (HO173.out) BK160.out (by decide)) (fun k_ hk => hk.2))).2.1 (Kd.R_F (Kd.R_mono (ok' := (fun k_ => k_ ≠ gb160)) (Kd.R_types (HO173.out) BK160.out (by decide)) (fun k_ hk => hk.2))))) (Reps.one (show Kd.FK (Kd.slice 5 (Kd.int .u8)) _ _ y174 [.slice Ao27 y174.length co27] from (Kd.FK_slice_mk (Kd.R_reads' (Kd.R_mono (ok' := (fun k_ => k_ ≠ gb160)) (Kd.R_types (HO176.out) BK160.out (by decide)) (fun k_ hk => hk.2))).2.1 (Kd.R_F (Kd.R_mono (ok' := (fun k_ => k_ ≠ gb160)) (Kd.R_types (HO176.out) BK160.out (by decide)) (fun k_ hk => hk.2))))) (Reps.one (show Kd.FK (Kd.slice 5 (Kd.int .u8)) _ _ t162 [.slice Ao16 t162.length co16] from (Kd.FK_slice_mk (Kd.R_reads' (Kd.R_mono (ok' := (fun k_ => k_ ≠ gb160)) (Kd.R_types (HO164.out) BK160.out (by decide)) (fun k_ hk => hk.2))).2.1 (Kd.R_F (Kd.R_mono (ok' := (fun k_ => k_ ≠ gb160)) (Kd.R_types (HO164.out) BK160.out (by decide)) (fun k_ hk => hk.2))))) (Reps.one (show Kd.FK (Kd.slice 5 (Kd.int .u8)) _ _ y177 [.slice Ao28 y177.length co28] from (Kd.FK_slice_mk (Kd.R_reads' (Kd.R_mono (ok' := (fun k_ => k_ ≠ gb160)) (Kd.R_types (HO179.out) BK160.out (by decide)) (fun k_ hk => hk.2))).2.1 (Kd.R_F (Kd.R_mono (ok' := (fun k_ => k_ ≠ gb160)) (Kd.R_types (HO179.out) BK160.out (by decide)) (fun k_ hk => hk.2))))) (Reps.one (show Kd.FK (Kd.slice 5 (Kd.int .u8)) _ _ t165 [.slice Ao17 t165.length co17] from (Kd.FK_slice_mk (Kd.R_reads' (Kd.R_mono (ok' := (fun k_ => k_ ≠ gb160)) (Kd.R_types (HO167.out) BK160.out (by decide)) (fun k_ hk => hk.2))).2.1 (Kd.R_F (Kd.R_mono (ok' := (fun k_ => k_ ≠ gb160)) (Kd.R_types (HO167.out) BK160.out (by decide)) (fun k_ hk => hk.2))))) (Reps.none _ _))))))))
  intro v181 w29 ho30 hb hg_ hnew_
  clear hg_ hnew_
  (first | rw [← Ny180.out] at ho30 | (simp only [Int.reduceToNat] at ho30; rw [← Ny180.out] at ho30))
  have n0_ := Aside0.mk (Kd.N_lower ho30 (below_size (hset HB.out)))
  have n1_ := Aside0.mk (blk_below (bup BK160.out) hb)
  have n2_ := Aside0.mk (below_step (hset HB.out) hb)
  clear BK160
  clear HB
  clear HO164
  clear HO167
  clear HO170
  clear HO173
  clear HO176
  clear HO179
  have HO182 := n0_
  have BK160 := n1_
  have HB := n2_
  clear n0_ n1_ n2_
  clear hb ho30
  obtain ⟨Ao31, co31, eo31⟩ := Kd.N_slice HO182.out
  (first | subst eo31 | (injection eo31 with f1_ f2_ f3_; have f4_ := f1_.symm; have f5_ := f3_.symm; clear f1_ f2_ f3_; subst f4_; subst f5_))
  refine hK.out _ _ (blk_cells10 BK160.out) (fun hHeld => ?_)
  clear hK K
  refine norm_ (a' := ?_) ?_ ?_
  rotate_left
  ·show Act.put _ (some 30) _ = _
   simp only [Act.put, List.setIfInBounds_toArray, List.set_cons_zero, List.set_cons_succ, i64_w, i32_w]
   rfl
  refine one_ (i := 17) (N := some 31) #[true, true, true, true, true, true, true, true, true, true, true, true, true, true, true, true, true, true, false] rfl rfl (one_of HT_.out (by kernel_rfl)) (by decide) (fun K hK => ?_)
  refine goes_ Try.func73 (by kernel_rfl) rfl #[.slice Ao31 y180.length co31] (by rfl) rfl rfl (by (try simp only [List.map_toArray, List.map_cons, List.map_nil]); first | done | rfl) ?_
  with_reducible refine (slices_Concat_byte_byte.calls k _ _ y180 t183 _ ?side1 ?side2 A8.out).mono ?_
  (case side1 => repeat (first | exact (Kd.N_reads' HO182.out).2.2 | (with_reducible refine Kd.C_alloc ?_ _) | (with_reducible refine Kd.C_drewN ?_ _) | (with_reducible refine Kd.C_drew ?_)))
  (case side2 => exact (Kd.N_reads' HO182.out).2.1)
  rintro e w32 ⟨v184, rfl, ho0, hb⟩
  refine ⟨_, rfl, ?_⟩
  have n0_ := Aside0.mk (Kd.N_elder' (by (with_reducible repeat (first | apply Kd.N_alloc | apply Kd.N_drewN | apply Kd.N_drew)); exact HO182.out) (Kd.R_base ho0) hb)
  have n1_ := Aside0.mk (Kd.R_lower ho0 (below_size (hset HB.out)))
  have n2_ := Aside0.mk (blk_below (bup BK160.out) hb)
  have n3_ := Aside0.mk (below_step (hset HB.out) hb)
  clear HO182
  clear BK160
  clear HB
  have HO182 := n0_
  have HO185 := n1_
  have BK160 := n2_
  have HB := n3_
  clear n0_ n1_ n2_ n3_
  (try clear hb)
  (try clear hb2)
  (try clear hk)
  (try clear hi)
  (try clear ho0)
  refine hK.out _ _ (blk_cells10 BK160.out) (fun hHeld => ?_)
  clear hK K
  refine norm_ (a' := ?_) ?_ ?_
  rotate_left
  ·show Act.put _ (some 31) _ = _
   simp only [Act.put, List.setIfInBounds_toArray, List.set_cons_zero, List.set_cons_succ, i64_w, i32_w]
   rfl
  refine pure_ (i := 18) (N := some 2) (v := ?_) (a' := ?_) #[true, true, true, true, true, true, true, true, true, true, true, true, true, true, true, true, true, true, true] rfl rfl (any_of HT_.out (by kernel_rfl)) (fun _ _ _ h => h) (Or.inl ⟨by rfl, ?_⟩) ?_ ?_
  rotate_left
  ·intro w'
   go_simp
   with_reducible rfl
  rotate_left
  ·simp only [Act.put, List.setIfInBounds_toArray, List.set_cons_zero, List.set_cons_succ, i64_w, i32_w]
   rfl
  refine done_ (done_of HT_.out (by kernel_rfl)) ?_
  try go_wp2
  go_ret
  exact ⟨_, by first | rfl | (simp [errW_none, errW_some] <;> rfl) | (simp [*, errW_none, errW_some] <;> rfl), by exact Kd.rup HO185.out, hset HB.out⟩
 ·replace c3 := Bool.eq_false_iff.mpr c3
  subst c3
  rw [if_neg (show ¬ (false = true) by decide)] at H
  (try dsimp only at H)
  obtain rfl := Option.some.inj H
  go_enter Try.func34, Try.ntmps34
  go_wp2_with (first | ((with_reducible refine gate_dst (N := 1) rfl ?_); refine box_event ?hg (N := 1) ?hd (cs := #[.int .i64 a0_0, .int .i64 a0_1, .int .i64 a0_2, .int .i64 a0_3, .float .f64 a0_4, .slice A0_5 l0_5.length c0_5, .int .i64 a0_6, .int .i64 a0_7, .float .f64 a0_8, .slice A0_9 l0_9.length c0_9]) (t := 49) ?hr ?_; (case hd => rfl); (case hg => rfl); (case hr => first | (go_simp; done) | (go_simp; rfl)); intro gb160 hg w33 hbox hb; have n0_ := Aside0.mk (below_step (hup HB.out) hb); have n1_ := Aside0.mk (hbox); have n2_ := Geq.mk ((by rw [hg]; exact (below_size (hup HB.out)) : w.heap.size ≤ gb160)); have n3_ := Geq.mk ((by rw [hg]; exact (below_size (hup HB.out)) : w.heap.size ≤ gb160)); clear HB; have HB := n0_; have BK160 := n1_; have GW160 := n2_; have GE160 := n3_; clear n0_ n1_ n2_ n3_; clear hb hbox hg; obtain ⟨hcz34_0, hcz34_1, hcz34_2, hcz34_3, hcz34_4, hcz34_5, hcz34_6, hcz34_7, hcz34_8, hcz34_9⟩ := blk_cells10 BK160.out; obtain ⟨hfz34_0, hfz34_1, hfz34_2, hfz34_3, hfz34_4, hfz34_5, hfz34_6, hfz34_7, hfz34_8, hfz34_9⟩ := blk_frozens10 BK160.out) | ((with_reducible refine gate_callee (f := 43) rfl ?_); refine goesL_ (some 6) rfl rfl Try.func43 (by kernel_rfl) rfl #[.agg #[.int .i64 a0_0, .int .i64 a0_1, .int .i64 a0_2, .int .i64 a0_3, .float .f64 a0_4, .slice A0_5 l0_5.length c0_5, .int .i64 a0_6, .int .i64 a0_7, .float .f64 a0_8, .slice A0_9 l0_9.length c0_9]] rfl (by (try simp only [List.map_toArray, List.map_cons, List.map_nil]); first | done | rfl) ?_; (with_reducible refine (impl_TupleOk.calls a0_0 a0_1 a0_2 a0_3 a0_4 _ _ l0_5 a0_6 a0_7 a0_8 _ _ l0_9 false _ ?side1 ?side2 ?side3 ?side4 A2.out).mono ?_); (case side1 => repeat (first | exact (Kd.C_below HR0_5.out HB.out) | (with_reducible refine Kd.C_alloc ?_ _) | (with_reducible refine Kd.C_drewN ?_ _) | (with_reducible refine Kd.C_drew ?_))); (case side2 => exact HC0_5.out); (case side3 => repeat (first | exact (Kd.C_below HR0_9.out HB.out) | (with_reducible refine Kd.C_alloc ?_ _) | (with_reducible refine Kd.C_drewN ?_ _) | (with_reducible refine Kd.C_drew ?_))); (case side4 => exact HC0_9.out); rintro e w35 ⟨rfl, hb⟩; refine ⟨_, rfl, ?_⟩; have n0_ := Aside0.mk (blk_below (bup BK160.out) hb); have n1_ := Aside0.mk (below_step (hset HB.out) hb); clear BK160; clear HB; have BK160 := n0_; have HB := n1_; clear n0_ n1_; (try clear hb); (try clear hb2); (try clear hk); (try clear hi)))
  go_ret
  exact ⟨_, by first | rfl | (simp [errW_none, errW_some] <;> rfl) | (simp [*, errW_none, errW_some] <;> rfl), by first | exact Kd.R_nil _ _ _ _ _ | exact Kd.N_nil _ _ _ _ _ | exact Kd.V_nil _ _ _ _ _ | exact Kd.Q_nil _ _ _ _ _ | exact Kd.S_nil _ _ _ _ _, hset HB.out⟩
theorem impl_TupleBytes.inv0 (k : Nat) (a0_0 : Int) (a0_1 : Int) (a0_2 : Int) (a0_3 : Int) (a0_4 : Nat) (l0_5 : List Int) (a0_6 : Int) (a0_7 : Int) (a0_8 : Nat) (l0_9 : List Int) : impl_TupleBytes.f k a0_0 a0_1 a0_2 a0_3 (cn a0_4) l0_5 a0_6 a0_7 a0_8 l0_9 = impl_TupleBytes.f k a0_0 a0_1 a0_2 a0_3 a0_4 l0_5 a0_6 a0_7 a0_8 l0_9 := by
  by_cases h_ : nanw a0_4
  · unfold impl_TupleBytes.f
    first
      | (simp only [impl_KeyBytes.inv0, impl_ValueBytes.inv0, impl_TupleOk.inv0, impl_TupleOk.inv1, cn_zeroI, cn_zero, feq_cn_l, feq_cn_r, fls_cn_l, fls_cn_r, fgt_cn_l, fgt_cn_r, fle_cn_l, fle_cn_r, fge_cn_l, fge_cn_r]; done)
      | (simp only [impl_KeyBytes.inv0, impl_ValueBytes.inv0, impl_TupleOk.inv0, impl_TupleOk.inv1, cn_zeroI, cn_zero, feq_cn_l, feq_cn_r, fls_cn_l, fls_cn_r, fgt_cn_l, fgt_cn_r, fle_cn_l, fle_cn_r, fge_cn_l, fge_cn_r, feq_nan_l h_, feq_nan_l (cn_nanw h_), Bool.false_eq_true, if_false]; done)
      | (simp [feq_nan_l h_, feq_nan_l (cn_nanw h_)]; done)
  · rw [cn_num h_]
theorem impl_TupleBytes.inv1 (k : Nat) (a0_0 : Int) (a0_1 : Int) (a0_2 : Int) (a0_3 : Int) (a0_4 : Nat) (l0_5 : List Int) (a0_6 : Int) (a0_7 : Int) (a0_8 : Nat) (l0_9 : List Int) : impl_TupleBytes.f k a0_0 a0_1 a0_2 a0_3 a0_4 l0_5 a0_6 a0_7 (cn a0_8) l0_9 = impl_TupleBytes.f k a0_0 a0_1 a0_2 a0_3 a0_4 l0_5 a0_6 a0_7 a0_8 l0_9 := by
  by_cases h_ : nanw a0_8
  · unfold impl_TupleBytes.f
    first
      | (simp only [impl_KeyBytes.inv0, impl_ValueBytes.inv0, impl_TupleOk.inv0, impl_TupleOk.inv1, cn_zeroI, cn_zero, feq_cn_l, feq_cn_r, fls_cn_l, fls_cn_r, fgt_cn_l, fgt_cn_r, fle_cn_l, fle_cn_r, fge_cn_l, fge_cn_r]; done)
      | (simp only [impl_KeyBytes.inv0, impl_ValueBytes.inv0, impl_TupleOk.inv0, impl_TupleOk.inv1, cn_zeroI, cn_zero, feq_cn_l, feq_cn_r, fls_cn_l, fls_cn_r, fgt_cn_l, fgt_cn_r, fle_cn_l, fle_cn_r, fge_cn_l, fge_cn_r, feq_nan_l h_, feq_nan_l (cn_nanw h_), Bool.false_eq_true, if_false]; done)
      | (simp [feq_nan_l h_, feq_nan_l (cn_nanw h_)]; done)
  · rw [cn_num h_]
end Go.Proofs.Ytjjkhlphdbmdfaa.PFnTuples
