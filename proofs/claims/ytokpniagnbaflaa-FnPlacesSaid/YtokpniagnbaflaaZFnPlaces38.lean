import Derived.Test.YtokpniagnbaflaaZFnPlaces29
import Derived.Test.YtokpniagnbaflaaZFnPlacesA
import Derived.Test.YtokpniagnbaflaaZFnPlaces32
import Derived.Test.YtokpniagnbaflaaZFnPlaces34
import Derived.Test.YtokpniagnbaflaaZFnPlaces35
import Derived.Test.YtokpniagnbaflaaZFnPlaces37
namespace Go.Proofs.Ytokpniagnbaflaa.PFnPlaces
open Go.RowKit Go.Proofs.YtokpniagnbaflaaW.PrintWords Go.Proofs.YtokpniagnbaflaaW.PrintLast Go.Proofs.YtokpniagnbaflaaW.PrintMore
attribute [local go_sem] max2_int min2_int max_two min_two max_three min_three max_four min_four   -- for this text's walks alone
attribute [local go_sem high] fl_eql fl_neq fl_lss fl_leq fl_gtr fl_geq fl_add fl_sub fl_mul fl_quo fl_neg fl_ofInt fl_toInt fl_store sub_sign fl_nan_quo fl_nan_add fl_nan_mul fl_nan_sub
open Go.Proofs.YtokpniagnbaflaaW.PrintWords renaming below_alloc → h1, pw_below_drewN → h2, below_drew1 → h3, below_set → h4, blk_drewN → b1, blk_drew → b2, blk_alloc → b3
set_option linter.unusedVariables false
set_option linter.unusedSimpArgs false
def spec_KeyBytes.f (k : Nat) (a0_0 : Int) (a0_1 : Int) (a0_2 : Nat) (l0_3 : List Int) : Option (List Int) := (spec_KeyOk.f k a0_0 a0_1 a0_2 l0_3).bind fun t261 => (if t261 = true then ((spec_FloatRank.f k a0_2).bind fun t262 => ((spec_l3bytes.f k a0_0 a0_1 a0_2 l0_3 t262).bind fun t263 => (some t263))) else (some ([] : List Int)))
theorem spec_KeyBytes.mono : ∀ a0 a1 a2 a3 k, LeO (spec_KeyBytes.f k a0 a1 a2 a3) (spec_KeyBytes.f (k + 1) a0 a1 a2 a3) := by
  intro a0 a1 a2 a3 k
  unfold spec_KeyBytes.f
  repeat' with_reducible first | exact spec_FloatRank.mono _ _ | exact spec_KeyOk.mono _ _ _ _ _ | exact spec_l3bytes.mono _ _ _ _ _ _ | exact LeO.refl _ | exact LeO.none _ | refine LeO.ite ?_ ?_ | refine LeO.bind ?_ (fun _ => ?_)
set_option maxHeartbeats 8000000 in
set_option maxRecDepth 100000 in
theorem spec_KeyBytes.calls (k : Nat) (a0_0 : Int) (a0_1 : Int) (a0_2 : Nat) (A0_3 : Option Addr) (c0_3 : Nat) (l0_3 : List Int) (r : List Int) (w : World) (hr0_3 : Kd.C (Kd.int .u8) w A0_3 l0_3.length l0_3) (hc0_3 : l0_3.length ≤ c0_3) (h : spec_KeyBytes.f k a0_0 a0_1 a0_2 l0_3 = some r) :
    Calls Try.prog 69 #[.agg #[.int .i64 a0_0, .int .i64 a0_1, .float .f64 a0_2, .slice A0_3 l0_3.length c0_3]] w fun e w' => ∃ v0_ : Value, e = .returned (v0_) ∧ Kd.R (Kd.int .u8) 5 w' w.heap.size (fun _ => True) v0_ r ∧ Below w.heap.size w w' := by
  have hu72 := Try.underlying72
  have HR0_3 := ZA hr0_3
  have HC0_3 := ZA hc0_3
  clear hr0_3 hc0_3
  have HB := ZA (Below.refl w.heap.size w)
  have H := h
  clear h
  unfold spec_KeyBytes.f at H
  replace H := Option.bind_eq_some_iff.mp H
  obtain ⟨t261, A20, H⟩ := H
  (try dsimp only at H)
  have A2 := ZA A20
  clear A20
  go_enter Try.func69, Try.ntmps69
  repeat (first | ((with_reducible refine gate_dst (N := 1) rfl ?_); refine box_event ?hg (N := 1) ?hd (cs := #[.int .i64 a0_0, .int .i64 a0_1, .float .f64 a0_2, .slice A0_3 l0_3.length c0_3]) (t := 72) ?hr ?_; (case hd => rfl); (case hg => rfl); (case hr => first | (go_simp; done) | (go_simp; rfl)); intro gb260 hg w6 hbox hb; have n0_ := ZA (below_step (hup HB.out) hb); have n1_ := ZA (hbox); have n2_ := Geq.mk ((Z28 : w.heap.size ≤ gb260)); have n3_ := Geq.mk ((Z28 : w.heap.size ≤ gb260)); clear HB; have HB := n0_; have BK260 := n1_; have GW260 := n2_; have GE260 := n3_; clear n0_ n1_ n2_ n3_ hb hbox hg; obtain ⟨hcz7_0, hcz7_1, hcz7_2, hcz7_3⟩ := blk_cells4 BK260.out; obtain ⟨hfz7_0, hfz7_1, hfz7_2, hfz7_3⟩ := blk_frozens4 BK260.out) | ((fail_if_success (with_reducible refine gate_callee (f := 74) rfl ?_)); first | go_values | go_skip | go_guarded | go_step | go_upon | go_back | (simp only [Int.not_lt, Int.not_le] at *; go_simp)))
  (with_reducible refine gate_callee (f := 74) rfl ?_); refine goesL_ (some 4) rfl rfl Try.func74 Z12 rfl #[.agg #[.int .i64 a0_0, .int .i64 a0_1, .float .f64 a0_2, .slice A0_3 l0_3.length c0_3]] rfl Z1 ?_; (with_reducible refine (spec_KeyOk.calls k a0_0 a0_1 a0_2 _ _ l0_3 t261 _ ?side1 ?side2 A2.out).mono ?_); (case side1 => repeat (first | exact (Kd.C_below HR0_3.out HB.out) | (with_reducible refine Kd.C_alloc ?_ _) | (with_reducible refine Kd.C_drewN ?_ _) | (with_reducible refine Kd.C_drew ?_))); (case side2 => exact HC0_3.out); rintro e w8 ⟨rfl, hb⟩; refine ⟨_, rfl, ?_⟩; have n0_ := ZA (blk_below (bup BK260.out) hb); have n1_ := ZA (below_step (hset HB.out) hb); clear BK260 HB; have BK260 := n0_; have HB := n1_; clear n0_ n1_; (try clear hb); (try clear hb2); (try clear hk); (try clear hi)
  by_cases c3 : t261 = true
  · subst c3
    rw [if_pos rfl] at H
    (try dsimp only at H)
    replace H := Option.bind_eq_some_iff.mp H
    obtain ⟨t262, A40, H⟩ := H
    (try dsimp only at H)
    have A4 := ZA A40
    clear A40
    replace H := Option.bind_eq_some_iff.mp H
    obtain ⟨t263, A50, H⟩ := H
    (try dsimp only at H)
    have A5 := ZA A50
    clear A50
    obtain rfl := Option.some.inj H
    try go_wp2
    have n0_ := ZA (blk_drew BK260.out)
    have n1_ := ZA (below_drew1 HB.out)
    clear BK260
    clear HB
    have BK260 := n0_
    have HB := n1_
    clear n0_ n1_
    refine start_ (n := 6) (S := fun w' => w'.cell? ⟨gb260, 0, none⟩ = some (.int .i64 a0_0) ∧ w'.cell? ⟨gb260, 1, none⟩ = some (.int .i64 a0_1) ∧ w'.cell? ⟨gb260, 2, none⟩ = some (.float .f64 a0_2) ∧ w'.cell? ⟨gb260, 3, none⟩ = some (.slice A0_3 l0_3.length c0_3)) (ds := []) #[false, false, false, false, false, false] Z12 rfl rfl (blk_cells4 BK260.out) (fun hHeld => ?_)
    generalize w8.drew = w9 at BK260 HB hHeld ⊢
    refine pure_ (i := 1) (N := some 7) (v := ?_) (a' := ?_) #[false, true, false, false, false, false] rfl rfl Z12 (fun _ _ _ h => h) (Or.inl ⟨by rfl, ?_⟩) ?_ ?_
    rotate_left
    · intro w'
      go_simp
      with_reducible rfl
    rotate_left
    · simp only [Act.put, List.setIfInBounds_toArray, List.set_cons_zero, List.set_cons_succ, i64_w, i32_w]
      rfl
    refine take_ (i := 0) (N := some 6) (v := ?_) (a' := ?_) #[true, true, false, false, false, false] rfl rfl Z12 (fun _ _ _ h => h) (Or.inl ⟨by rfl, ?_⟩) hHeld ?_ ?_
    rotate_left
    · rintro w' ⟨s0, s1, s2, s3⟩
      go_simp
      with_reducible rfl
    rotate_left
    · simp only [Act.put, List.setIfInBounds_toArray, List.set_cons_zero, List.set_cons_succ, i64_w, i32_w]
      rfl
    refine take_ (i := 2) (N := some 8) (v := ?_) (a' := ?_) #[true, true, true, false, false, false] rfl rfl Z12 (fun _ _ _ h => h) (Or.inl ⟨by rfl, ?_⟩) hHeld ?_ ?_
    rotate_left
    · rintro w' ⟨s0, s1, s2, s3⟩
      go_simp
      with_reducible rfl
    rotate_left
    · simp only [Act.put, List.setIfInBounds_toArray, List.set_cons_zero, List.set_cons_succ, i64_w, i32_w]
      rfl
    refine one_ (i := 3) (N := some 9) #[true, true, true, true, false, false] rfl rfl Z12 Z25 (fun K hK => ?_)
    refine goes_ Try.func77 Z12 rfl #[.float .f64 a0_2] Z94 rfl rfl Z1 ?_
    with_reducible refine (spec_FloatRank.calls k a0_2 t262 _ A4.out).mono ?_
    rintro e w' ⟨rfl, ⟨nd, rfl⟩⟩
    refine ⟨_, rfl, ?_⟩
    refine hK.out _ _ (blk_cells4 BK260.out) (fun hHeld => ?_)
    clear hK K
    refine norm_ (a' := ?_) ?_ ?_
    rotate_left
    · show Act.put _ (some 9) _ = _
      simp only [Act.put, List.setIfInBounds_toArray, List.set_cons_zero, List.set_cons_succ, i64_w, i32_w]
      rfl
    refine one_ (i := 4) (N := some 10) #[true, true, true, true, true, false] rfl rfl Z12 Z25 (fun K hK => ?_)
    refine goes_ Try.func76 Z12 rfl #[.agg #[.int .i64 a0_0, .int .i64 a0_1, .float .f64 a0_2, .slice A0_3 l0_3.length c0_3], .int .u64 t262] Z94 rfl rfl Z1 ?_
    with_reducible refine (spec_l3bytes.calls k a0_0 a0_1 a0_2 _ _ l0_3 t262 t263 _ ?side1 ?side2 A5.out).mono ?_
    (case side1 => repeat (first | exact (Kd.C_below HR0_3.out (hset HB.out)) | (with_reducible refine Kd.C_alloc ?_ _) | (with_reducible refine Kd.C_drewN ?_ _) | (with_reducible refine Kd.C_drew ?_)))
    (case side2 => exact HC0_3.out)
    rintro e w10 ⟨v264, rfl, ho0, hb⟩
    refine ⟨_, rfl, ?_⟩
    have n0_ := ZA (Kd.R_lower ho0 (below_size (hset HB.out)))
    have n1_ := ZA (blk_below (bup BK260.out) hb)
    have n2_ := ZA (below_step (hset HB.out) hb)
    clear BK260
    clear HB
    have HO265 := n0_
    have BK260 := n1_
    have HB := n2_
    clear n0_ n1_ n2_
    (try clear hb)
    (try clear hb2)
    (try clear hk)
    (try clear hi)
    (try clear ho0)
    refine hK.out _ _ (blk_cells4 BK260.out) (fun hHeld => ?_)
    clear hK K
    refine norm_ (a' := ?_) ?_ ?_
    rotate_left
    · show Act.put _ (some 10) _ = _
      simp only [Act.put, List.setIfInBounds_toArray, List.set_cons_zero, List.set_cons_succ, i64_w, i32_w]
      rfl
    refine pure_ (i := 5) (N := some 2) (v := ?_) (a' := ?_) #[true, true, true, true, true, true] rfl rfl Z12 (fun _ _ _ h => h) (Or.inl ⟨by rfl, ?_⟩) ?_ ?_
    rotate_left
    · intro w'
      go_simp
      with_reducible rfl
    rotate_left
    · simp only [Act.put, List.setIfInBounds_toArray, List.set_cons_zero, List.set_cons_succ, i64_w, i32_w]
      rfl
    refine done_ Z12 ?_
    try go_wp2
    go_ret
    exact ⟨_, by first | rfl | (simp [errW_none, errW_some] <;> rfl) | (simp [*, errW_none, errW_some] <;> rfl), by exact Kd.rup HO265.out, hset HB.out⟩
  · replace c3 := Bool.eq_false_iff.mpr c3
    subst c3
    rw [if_neg (show ¬ (false = true) by decide)] at H
    (try dsimp only at H)
    obtain rfl := Option.some.inj H
    try go_wp2
    go_ret
    exact ⟨_, by first | rfl | (simp [errW_none, errW_some] <;> rfl) | (simp [*, errW_none, errW_some] <;> rfl), by first | exact Kd.R_nil _ _ _ _ _ | exact Kd.N_nil _ _ _ _ _ | exact Kd.V_nil _ _ _ _ _ | exact Kd.Q_nil _ _ _ _ _ | exact Kd.S_nil _ _ _ _ _, hset HB.out⟩
theorem spec_KeyBytes.inv0 (k : Nat) (a0_0 : Int) (a0_1 : Int) (a0_2 : Nat) (l0_3 : List Int) : spec_KeyBytes.f k a0_0 a0_1 (cn a0_2) l0_3 = spec_KeyBytes.f k a0_0 a0_1 a0_2 l0_3 := by
  by_cases h_ : nanw a0_2
  · unfold spec_KeyBytes.f
    first
      | (simp only [spec_KeyOk.inv0, spec_l3bytes.inv0, spec_FloatRank.inv0, cn_zeroI, cn_zero, feq_cn_l, feq_cn_r, fls_cn_l, fls_cn_r, fgt_cn_l, fgt_cn_r, fle_cn_l, fle_cn_r, fge_cn_l, fge_cn_r]; done)
      | (simp only [spec_KeyOk.inv0, spec_l3bytes.inv0, spec_FloatRank.inv0, cn_zeroI, cn_zero, feq_cn_l, feq_cn_r, fls_cn_l, fls_cn_r, fgt_cn_l, fgt_cn_r, fle_cn_l, fle_cn_r, fge_cn_l, fge_cn_r, feq_nan_l h_, feq_nan_l (cn_nanw h_), Bool.false_eq_true, if_false]; done)
      | (simp [feq_nan_l h_, feq_nan_l (cn_nanw h_)]; done)
  · rw [cn_num h_]
def spec_ValueBytes.j0 : Nat → Bool → Int → Int → Nat → List Int → Option (List Int)
 | 0, _, _, _, _, _ => none
 | k + 1, x10, x267000, x267001, x267002, x267003 => if x10 = true then (some ([] : List Int)) else ((spec_FloatBits.f k x267002).bind fun t268 => ((spec_l3bytes.f k x267000 x267001 x267002 x267003 t268).bind fun t269 => (some t269)))
def spec_ValueBytes.f (k : Nat) (a0_0 : Int) (a0_1 : Int) (a0_2 : Nat) (l0_3 : List Int) : Option (List Int) := (spec_ItemOk.f k a0_0 a0_1 a0_2 l0_3).bind fun t267 => (if t267 = true then (spec_ValueBytes.j0 k (a0_0 == 0) a0_0 a0_1 a0_2 l0_3) else (spec_ValueBytes.j0 k true a0_0 a0_1 a0_2 l0_3))
theorem spec_ValueBytes.mono_l : ∀ k, (∀ y0 y1 y2 y3 y4, LeO (spec_ValueBytes.j0 k y0 y1 y2 y3 y4) (spec_ValueBytes.j0 (k + 1) y0 y1 y2 y3 y4))
 | 0 => fun _ _ _ _ _ r h => by simp [spec_ValueBytes.j0] at h
 | k + 1 => by
  have ih0 := spec_ValueBytes.mono_l k
  ·intro y0 y1 y2 y3 y4
   unfold spec_ValueBytes.j0
   repeat' with_reducible first | exact ih0 _ _ _ _ _ | exact spec_FloatBits.mono _ _ | exact spec_ItemOk.mono _ _ _ _ _ | exact spec_l3bytes.mono _ _ _ _ _ _ | exact LeO.refl _ | exact LeO.none _ | refine LeO.ite ?_ ?_ | refine LeO.bind ?_ (fun _ => ?_)
theorem spec_ValueBytes.mono : ∀ a0 a1 a2 a3 k, LeO (spec_ValueBytes.f k a0 a1 a2 a3) (spec_ValueBytes.f (k + 1) a0 a1 a2 a3) := by
 intro a0 a1 a2 a3 k
 have ih0 := spec_ValueBytes.mono_l k
 unfold spec_ValueBytes.f
 repeat' with_reducible first | exact ih0 _ _ _ _ _ | exact spec_FloatBits.mono _ _ | exact spec_ItemOk.mono _ _ _ _ _ | exact spec_l3bytes.mono _ _ _ _ _ _ | exact LeO.refl _ | exact LeO.none _ | refine LeO.ite ?_ ?_ | refine LeO.bind ?_ (fun _ => ?_)
set_option maxHeartbeats 8000000 in
set_option maxRecDepth 100000 in
theorem spec_ValueBytes.calls (k : Nat) (a0_0 : Int) (a0_1 : Int) (a0_2 : Nat) (A0_3 : Option Addr) (c0_3 : Nat) (l0_3 : List Int) (r : List Int) (w : World) (hr0_3 : Kd.C (Kd.int .u8) w A0_3 l0_3.length l0_3) (hc0_3 : l0_3.length ≤ c0_3) (h : spec_ValueBytes.f k a0_0 a0_1 a0_2 l0_3 = some r) :
  Calls Try.prog 70 #[.agg #[.int .i64 a0_0, .int .i64 a0_1, .float .f64 a0_2, .slice A0_3 l0_3.length c0_3]] w fun e w' => ∃ v0_ : Value, e = .returned (v0_) ∧ Kd.R (Kd.int .u8) 5 w' w.heap.size (fun _ => True) v0_ r ∧ Below w.heap.size w w' := by
 have hu72 := Try.underlying72
 have HR0_3 := ZA hr0_3
 have HC0_3 := ZA hc0_3
 clear hr0_3 hc0_3
 have HB := ZA (Below.refl w.heap.size w)
 have H := h
 clear h
 unfold spec_ValueBytes.f at H
 have HC2 := ZA H
 clear H
 go_enter Try.func70, Try.ntmps70
 go_upto_region 1 with (first | ((with_reducible refine gate_dst (N := 1) rfl ?_); refine box_event ?hg (N := 1) ?hd (cs := #[.int .i64 a0_0, .int .i64 a0_1, .float .f64 a0_2, .slice A0_3 l0_3.length c0_3]) (t := 72) ?hr ?_; (case hd => rfl); (case hg => rfl); (case hr => first | (go_simp; done) | (go_simp; rfl)); intro gb266 hg w3 hbox hb; have n0_ := ZA (below_step (hup HB.out) hb); have n1_ := ZA (hbox); have n2_ := Geq.mk ((Z28 : w.heap.size ≤ gb266)); have n3_ := Geq.mk ((Z28 : w.heap.size ≤ gb266)); clear HB; have HB := n0_; have BK266 := n1_; have GW266 := n2_; have GE266 := n3_; clear n0_ n1_ n2_ n3_ hb hbox hg))
 (try simp only [Act.put, List.setIfInBounds_toArray, List.set_cons_zero, List.set_cons_succ])
 go_cut [10] (fun v10 wc => ∃ (kq : Nat) (x10_1 : Bool), v10 = .bool x10_1 ∧ Aside0 (spec_ValueBytes.j0 kq x10_1 a0_0 a0_1 a0_2 l0_3 = some r) ∧ Aside0 (kq ≤ k) ∧ Aside0 (wc.heap[gb266]? = some (.cells #[.int .i64 a0_0, .int .i64 a0_1, .float .f64 a0_2, (.slice A0_3 l0_3.length c0_3)] 72 (0, 0))) ∧ Aside0 (Below w.heap.size w wc))
 case first =>
  have H := HC2.out
  clear HC2
  replace H := Option.bind_eq_some_iff.mp H
  obtain ⟨t267, A40, H⟩ := H
  (try dsimp only at H)
  have A4 := ZA A40
  clear A40
  obtain ⟨hcz6_0, hcz6_1, hcz6_2, hcz6_3⟩ := blk_cells4 BK266.out
  obtain ⟨hfz6_0, hfz6_1, hfz6_2, hfz6_3⟩ := blk_frozens4 BK266.out
  repeat (first | ((fail_if_success (with_reducible refine gate_callee (f := 75) rfl ?_)); first | go_values | go_skip | go_guarded | go_step | go_upon | go_back | (simp only [Int.not_lt, Int.not_le] at *; go_simp)))
  (with_reducible refine gate_callee (f := 75) rfl ?_); refine goesL_ (some 4) rfl rfl Try.func75 Z12 rfl #[.agg #[.int .i64 a0_0, .int .i64 a0_1, .float .f64 a0_2, .slice A0_3 l0_3.length c0_3]] rfl Z1 ?_; (with_reducible refine (spec_ItemOk.calls k a0_0 a0_1 a0_2 _ _ l0_3 t267 _ ?side1 ?side2 A4.out).mono ?_); (case side1 => repeat (first | exact (Kd.C_below HR0_3.out HB.out) | (with_reducible refine Kd.C_alloc ?_ _) | (with_reducible refine Kd.C_drewN ?_ _) | (with_reducible refine Kd.C_drew ?_))); (case side2 => exact HC0_3.out); rintro e w7 ⟨rfl, hb⟩; refine ⟨_, rfl, ?_⟩; have n0_ := ZA (blk_below (bup BK266.out) hb); have n1_ := ZA (below_step (hset HB.out) hb); clear BK266 HB; have BK266 := n0_; have HB := n1_; clear n0_ n1_; (try clear hb); (try clear hb2); (try clear hk)
  by_cases c5 : t267 = true
  ·subst c5
   rw [if_pos rfl] at H
   (try dsimp only at H)
   have H' := ZA H
   clear H
   (try clear hi); obtain ⟨hcz8_0, hcz8_1, hcz8_2, hcz8_3⟩ := blk_cells4 BK266.out; obtain ⟨hfz8_0, hfz8_1, hfz8_2, hfz8_3⟩ := blk_frozens4 BK266.out
   try go_wp2
   go_meet
   case rel => exact ⟨_, ((a0_0 == 0)), Z7, H', ⟨by first | omega | exact Nat.le_refl _⟩, ⟨by exact bup BK266.out⟩, ⟨hset HB.out⟩⟩
  ·replace c5 := Bool.eq_false_iff.mpr c5
   subst c5
   rw [if_neg (show ¬ (false = true) by decide)] at H
   (try dsimp only at H)
   have H' := ZA H
   clear H
   (try clear hi)
   try go_wp2
   go_meet
   case rel => exact ⟨_, (true), Z7, H', ⟨by first | omega | exact Nat.le_refl _⟩, ⟨by exact bup BK266.out⟩, ⟨hset HB.out⟩⟩
 case rest =>
  clear HC2
  try clear p2
  try clear c5
  try clear c7
  try clear hcz6_0
  try clear hcz6_1
  try clear hcz6_2
  try clear hcz6_3
  try clear hcz8_0
  try clear hcz8_1
  try clear hcz8_2
  try clear hcz8_3
  try clear hcz9_0
  try clear hcz9_1
  try clear hcz9_2
  try clear hcz9_3
  try clear hfz6_0
  try clear hfz6_1
  try clear hfz6_2
  try clear hfz6_3
  try clear hfz8_0
  try clear hfz8_1
  try clear hfz8_2
  try clear hfz8_3
  try clear hfz9_0
  try clear hfz9_1
  try clear hfz9_2
  try clear hfz9_3
  obtain ⟨kq, x10_1, rfl, HA, HJ1, BK266, HB⟩ := hcut
  cases kq with
  | zero => exact absurd HA.out (by simp [spec_ValueBytes.j0])
  | succ kj1 =>
   have H := HA.out
   clear HA
   simp only [spec_ValueBytes.j0] at H
   by_cases c11 : x10_1 = true
   ·subst c11
    rw [if_pos rfl] at H
    (try dsimp only at H)
    obtain rfl := Option.some.inj H
    go_wp2
    go_ret
    exact ⟨_, by first | rfl | (simp [errW_none, errW_some] <;> rfl) | (simp [*, errW_none, errW_some] <;> rfl), by first | exact Kd.R_nil _ _ _ _ _ | exact Kd.N_nil _ _ _ _ _ | exact Kd.V_nil _ _ _ _ _ | exact Kd.Q_nil _ _ _ _ _ | exact Kd.S_nil _ _ _ _ _, hset HB.out⟩
   ·replace c11 := Bool.eq_false_iff.mpr c11
    subst c11
    rw [if_neg (show ¬ (false = true) by decide)] at H
    (try dsimp only at H)
    replace H := Option.bind_eq_some_iff.mp H
    obtain ⟨t268, A120, H⟩ := H
    (try dsimp only at H)
    have A12 := ZA A120
    clear A120
    replace H := Option.bind_eq_some_iff.mp H
    obtain ⟨t269, A130, H⟩ := H
    (try dsimp only at H)
    have A13 := ZA A130
    clear A130
    obtain rfl := Option.some.inj H
    try go_wp2
    have n0_ := ZA (blk_drew BK266.out)
    have n1_ := ZA (below_drew1 HB.out)
    clear BK266
    clear HB
    have BK266 := n0_
    have HB := n1_
    clear n0_ n1_
    refine start_ (n := 6) (S := fun w' => w'.cell? ⟨gb266, 0, none⟩ = some (.int .i64 a0_0) ∧ w'.cell? ⟨gb266, 1, none⟩ = some (.int .i64 a0_1) ∧ w'.cell? ⟨gb266, 2, none⟩ = some (.float .f64 a0_2) ∧ w'.cell? ⟨gb266, 3, none⟩ = some (.slice A0_3 l0_3.length c0_3)) (ds := []) #[false, false, false, false, false, false] Z12 rfl rfl (blk_cells4 BK266.out) (fun hHeld => ?_)
    generalize wc.drew = w14 at BK266 HB hHeld ⊢
    refine pure_ (i := 1) (N := some 12) (v := ?_) (a' := ?_) #[false, true, false, false, false, false] rfl rfl Z12 (fun _ _ _ h => h) (Or.inl ⟨by rfl, ?_⟩) ?_ ?_
    rotate_left
    ·intro w'
     go_simp
     with_reducible rfl
    rotate_left
    ·simp only [Act.put, List.setIfInBounds_toArray, List.set_cons_zero, List.set_cons_succ, i64_w, i32_w]
     rfl
    refine take_ (i := 0) (N := some 11) (v := ?_) (a' := ?_) #[true, true, false, false, false, false] rfl rfl Z12 (fun _ _ _ h => h) (Or.inl ⟨by rfl, ?_⟩) hHeld ?_ ?_
    rotate_left
    ·rintro w' ⟨s0, s1, s2, s3⟩
     go_simp
     with_reducible rfl
    rotate_left
    ·simp only [Act.put, List.setIfInBounds_toArray, List.set_cons_zero, List.set_cons_succ, i64_w, i32_w]
     rfl
    refine take_ (i := 2) (N := some 13) (v := ?_) (a' := ?_) #[true, true, true, false, false, false] rfl rfl Z12 (fun _ _ _ h => h) (Or.inl ⟨by rfl, ?_⟩) hHeld ?_ ?_
    rotate_left
    ·rintro w' ⟨s0, s1, s2, s3⟩
     go_simp
     with_reducible rfl
    rotate_left
    ·simp only [Act.put, List.setIfInBounds_toArray, List.set_cons_zero, List.set_cons_succ, i64_w, i32_w]
     rfl
    refine one_ (i := 3) (N := some 14) #[true, true, true, true, false, false] rfl rfl Z12 Z25 (fun K hK => ?_)
    refine goes_ Try.func78 Z12 rfl #[.float .f64 a0_2] Z94 rfl rfl Z1 ?_
    with_reducible refine (spec_FloatBits.calls kj1 a0_2 t268 _ A12.out).mono ?_
    rintro e w' ⟨rfl, ⟨nd, rfl⟩⟩
    refine ⟨_, rfl, ?_⟩
    refine hK.out _ _ (blk_cells4 BK266.out) (fun hHeld => ?_)
    clear hK K
    refine norm_ (a' := ?_) ?_ ?_
    rotate_left
    ·show Act.put _ (some 14) _ = _
     simp only [Act.put, List.setIfInBounds_toArray, List.set_cons_zero, List.set_cons_succ, i64_w, i32_w]
     rfl
    refine one_ (i := 4) (N := some 15) #[true, true, true, true, true, false] rfl rfl Z12 Z25 (fun K hK => ?_)
    refine goes_ Try.func76 Z12 rfl #[.agg #[.int .i64 a0_0, .int .i64 a0_1, .float .f64 a0_2, .slice A0_3 l0_3.length c0_3], .int .u64 t268] Z94 rfl rfl Z1 ?_
    with_reducible refine (spec_l3bytes.calls kj1 a0_0 a0_1 a0_2 _ _ l0_3 t268 t269 _ ?side1 ?side2 A13.out).mono ?_
    (case side1 => repeat (first | exact (Kd.C_below HR0_3.out (hset HB.out)) | (with_reducible refine Kd.C_alloc ?_ _) | (with_reducible refine Kd.C_drewN ?_ _) | (with_reducible refine Kd.C_drew ?_)))
    (case side2 => exact HC0_3.out)
    rintro e w15 ⟨v270, rfl, ho0, hb⟩
    refine ⟨_, rfl, ?_⟩
    have n0_ := ZA (Kd.R_lower ho0 (below_size (hset HB.out)))
    have n1_ := ZA (blk_below (bup BK266.out) hb)
    have n2_ := ZA (below_step (hset HB.out) hb)
    clear BK266
    clear HB
    have HO271 := n0_
    have BK266 := n1_
    have HB := n2_
    clear n0_ n1_ n2_
    (try clear hb)
    (try clear hb2)
    (try clear hk)
    (try clear hi)
    (try clear ho0)
    refine hK.out _ _ (blk_cells4 BK266.out) (fun hHeld => ?_)
    clear hK K
    refine norm_ (a' := ?_) ?_ ?_
    rotate_left
    ·show Act.put _ (some 15) _ = _
     simp only [Act.put, List.setIfInBounds_toArray, List.set_cons_zero, List.set_cons_succ, i64_w, i32_w]
     rfl
    refine pure_ (i := 5) (N := some 2) (v := ?_) (a' := ?_) #[true, true, true, true, true, true] rfl rfl Z12 (fun _ _ _ h => h) (Or.inl ⟨by rfl, ?_⟩) ?_ ?_
    rotate_left
    ·intro w'
     go_simp
     with_reducible rfl
    rotate_left
    ·simp only [Act.put, List.setIfInBounds_toArray, List.set_cons_zero, List.set_cons_succ, i64_w, i32_w]
     rfl
    refine done_ Z12 ?_
    try go_wp2
    go_ret
    exact ⟨_, by first | rfl | (simp [errW_none, errW_some] <;> rfl) | (simp [*, errW_none, errW_some] <;> rfl), by exact Kd.rup HO271.out, hset HB.out⟩
theorem spec_ValueBytes.j0_inv3 (k : Nat) (x0 : Bool) (x1 : Int) (x2 : Int) (x3 : Nat) (x4 : List Int) : spec_ValueBytes.j0 k x0 x1 x2 (cn x3) x4 = spec_ValueBytes.j0 k x0 x1 x2 x3 x4 := by
  cases k with
  | zero => rfl
  | succ k => simp only [spec_ValueBytes.j0, spec_FloatBits.inv0, spec_ItemOk.inv0, spec_l3bytes.inv0, cn_zeroI, cn_zero, feq_cn_l, feq_cn_r, fls_cn_l, fls_cn_r, fgt_cn_l, fgt_cn_r, fle_cn_l, fle_cn_r, fge_cn_l, fge_cn_r]
theorem spec_ValueBytes.inv0 (k : Nat) (a0_0 : Int) (a0_1 : Int) (a0_2 : Nat) (l0_3 : List Int) : spec_ValueBytes.f k a0_0 a0_1 (cn a0_2) l0_3 = spec_ValueBytes.f k a0_0 a0_1 a0_2 l0_3 := by
  by_cases h_ : nanw a0_2
  · unfold spec_ValueBytes.f
    first
      | (simp only [spec_FloatBits.inv0, spec_ItemOk.inv0, spec_l3bytes.inv0, cn_zeroI, cn_zero, feq_cn_l, feq_cn_r, fls_cn_l, fls_cn_r, fgt_cn_l, fgt_cn_r, fle_cn_l, fle_cn_r, fge_cn_l, fge_cn_r, spec_ValueBytes.j0_inv3]; done)
      | (simp only [spec_FloatBits.inv0, spec_ItemOk.inv0, spec_l3bytes.inv0, cn_zeroI, cn_zero, feq_cn_l, feq_cn_r, fls_cn_l, fls_cn_r, fgt_cn_l, fgt_cn_r, fle_cn_l, fle_cn_r, fge_cn_l, fge_cn_r, spec_ValueBytes.j0_inv3, feq_nan_l h_, feq_nan_l (cn_nanw h_), Bool.false_eq_true, if_false]; done)
      | (simp [feq_nan_l h_, feq_nan_l (cn_nanw h_)]; done)
  · rw [cn_num h_]
def spec_TupleBytes.f (k : Nat) (a0_0 : Int) (a0_1 : Int) (a0_2 : Int) (a0_3 : Int) (a0_4 : Nat) (l0_5 : List Int) (a0_6 : Int) (a0_7 : Int) (a0_8 : Nat) (l0_9 : List Int) : Option (List Int) := (spec_TupleOk.f k a0_0 a0_1 a0_2 a0_3 a0_4 l0_5 a0_6 a0_7 a0_8 l0_9).bind fun t273 => (if t273 = true then ((spec_KeyBytes.f k a0_2 a0_3 a0_4 l0_5).bind fun t274 => ((spec_ValueBytes.f k a0_6 a0_7 a0_8 l0_9).bind fun t277 => ((spec_PutNum.f k a0_0 4).bind fun t280 => ((spec_PutNum.f k a0_1 4).bind fun t283 => (if t280.length + t283.length < 140737488355328 then ((some (t280 ++ t283 : List Int)).bind fun y286 => (if y286.length < 140737488355328 then ((some (y286 ++ [((t274.length : Int)) % 256] : List Int)).bind fun y289 => (if y289.length + t274.length < 140737488355328 then ((some (y289 ++ t274 : List Int)).bind fun y292 => (if y292.length < 140737488355328 then ((some (y292 ++ [((t277.length : Int)) % 256] : List Int)).bind fun y295 => (if y295.length + t277.length < 140737488355328 then (some (y295 ++ t277)) else (none))) else (none))) else (none))) else (none))) else (none)))))) else (some ([] : List Int)))
theorem spec_TupleBytes.mono : ∀ a0 a1 a2 a3 a4 a5 a6 a7 a8 a9 k, LeO (spec_TupleBytes.f k a0 a1 a2 a3 a4 a5 a6 a7 a8 a9) (spec_TupleBytes.f (k + 1) a0 a1 a2 a3 a4 a5 a6 a7 a8 a9) := by
 intro a0 a1 a2 a3 a4 a5 a6 a7 a8 a9 k
 unfold spec_TupleBytes.f
 repeat' with_reducible first | exact spec_KeyBytes.mono _ _ _ _ _ | exact spec_PutNum.mono _ _ _ | exact spec_TupleOk.mono _ _ _ _ _ _ _ _ _ _ _ | exact spec_ValueBytes.mono _ _ _ _ _ | exact LeO.refl _ | exact LeO.none _ | refine LeO.ite ?_ ?_ | refine LeO.bind ?_ (fun _ => ?_)
set_option maxHeartbeats 8000000 in
set_option maxRecDepth 100000 in
theorem spec_TupleBytes.calls (k : Nat) (a0_0 : Int) (a0_1 : Int) (a0_2 : Int) (a0_3 : Int) (a0_4 : Nat) (A0_5 : Option Addr) (c0_5 : Nat) (l0_5 : List Int) (a0_6 : Int) (a0_7 : Int) (a0_8 : Nat) (A0_9 : Option Addr) (c0_9 : Nat) (l0_9 : List Int) (r : List Int) (w : World) (hr0_5 : Kd.C (Kd.int .u8) w A0_5 l0_5.length l0_5) (hc0_5 : l0_5.length ≤ c0_5) (hr0_9 : Kd.C (Kd.int .u8) w A0_9 l0_9.length l0_9) (hc0_9 : l0_9.length ≤ c0_9) (h : spec_TupleBytes.f k a0_0 a0_1 a0_2 a0_3 a0_4 l0_5 a0_6 a0_7 a0_8 l0_9 = some r) :
  Calls Try.prog 61 #[.agg #[.int .i64 a0_0, .int .i64 a0_1, .int .i64 a0_2, .int .i64 a0_3, .float .f64 a0_4, .slice A0_5 l0_5.length c0_5, .int .i64 a0_6, .int .i64 a0_7, .float .f64 a0_8, .slice A0_9 l0_9.length c0_9]] w fun e w' => ∃ v0_ : Value, e = .returned (v0_) ∧ Kd.R (Kd.int .u8) 5 w' w.heap.size (fun _ => True) v0_ r ∧ Below w.heap.size w w' := by
 have hu74 := Try.underlying74
 have hu72 := Try.underlying72
 have HR0_5 := ZA hr0_5
 have HC0_5 := ZA hc0_5
 clear hr0_5 hc0_5
 have HR0_9 := ZA hr0_9
 have HC0_9 := ZA hc0_9
 clear hr0_9 hc0_9
 have HB := ZA (Below.refl w.heap.size w)
 have H := h
 clear h
 unfold spec_TupleBytes.f at H
 replace H := Option.bind_eq_some_iff.mp H
 obtain ⟨t273, A20, H⟩ := H
 (try dsimp only at H)
 have A2 := ZA A20
 clear A20
 by_cases c3 : t273 = true
 ·subst c3
  rw [if_pos rfl] at H
  (try dsimp only at H)
  replace H := Option.bind_eq_some_iff.mp H
  obtain ⟨t274, A40, H⟩ := H
  (try dsimp only at H)
  have A4 := ZA A40
  clear A40
  replace H := Option.bind_eq_some_iff.mp H
  obtain ⟨t277, A50, H⟩ := H
  (try dsimp only at H)
  have A5 := ZA A50
  clear A50
  replace H := Option.bind_eq_some_iff.mp H
  obtain ⟨t280, A60, H⟩ := H
  (try dsimp only at H)
  have A6 := ZA A60
  clear A60
  replace H := Option.bind_eq_some_iff.mp H
  obtain ⟨t283, A70, H⟩ := H
  (try dsimp only at H)
  have A7 := ZA A70
  clear A70
  by_cases c8 : t280.length + t283.length < 140737488355328
  ·rw [if_pos c8] at H
   have LMc8 := ZA c8
   clear c8
   obtain ⟨y286, hy286⟩ : ∃ y_ : List Int, y_ = (t280 ++ t283) := ⟨_, rfl⟩
   replace H : (if y286.length < 140737488355328 then ((some (y286 ++ [((t274.length : Int)) % 256] : List Int)).bind fun y289 => (if y289.length + t274.length < 140737488355328 then ((some (y289 ++ t274 : List Int)).bind fun y292 => (if y292.length < 140737488355328 then ((some (y292 ++ [((t277.length : Int)) % 256] : List Int)).bind fun y295 => (if y295.length + t277.length < 140737488355328 then (some (y295 ++ t277)) else (none))) else (none))) else (none))) else (none)) = some r := by first | (rw [hy286]; with_reducible exact H) | (have H2_ := (Option.bind_some _ _).symm.trans H; rw [hy286]; with_reducible exact H2_) | (have H2_ := (Option.bind_some _ _).symm.trans H; with_reducible exact H2_) | with_reducible exact H | (rw [hy286]; exact H) | exact H
   have Ny286 := ZA hy286
   clear hy286
   by_cases c9 : y286.length < 140737488355328
   ·rw [if_pos c9] at H
    have LMc9 := ZA c9
    clear c9
    obtain ⟨y289, hy289⟩ : ∃ y_ : List Int, y_ = (y286 ++ [((t274.length : Int)) % 256]) := ⟨_, rfl⟩
    replace H : (if y289.length + t274.length < 140737488355328 then ((some (y289 ++ t274 : List Int)).bind fun y292 => (if y292.length < 140737488355328 then ((some (y292 ++ [((t277.length : Int)) % 256] : List Int)).bind fun y295 => (if y295.length + t277.length < 140737488355328 then (some (y295 ++ t277)) else (none))) else (none))) else (none)) = some r := by first | (rw [hy289]; with_reducible exact H) | (have H2_ := (Option.bind_some _ _).symm.trans H; rw [hy289]; with_reducible exact H2_) | (have H2_ := (Option.bind_some _ _).symm.trans H; with_reducible exact H2_) | with_reducible exact H | (rw [hy289]; exact H) | exact H
    have Ny289 := ZA hy289
    clear hy289
    by_cases c10 : y289.length + t274.length < 140737488355328
    ·rw [if_pos c10] at H
     have LMc10 := ZA c10
     clear c10
     obtain ⟨y292, hy292⟩ : ∃ y_ : List Int, y_ = (y289 ++ t274) := ⟨_, rfl⟩
     replace H : (if y292.length < 140737488355328 then ((some (y292 ++ [((t277.length : Int)) % 256] : List Int)).bind fun y295 => (if y295.length + t277.length < 140737488355328 then (some (y295 ++ t277)) else (none))) else (none)) = some r := by first | (rw [hy292]; with_reducible exact H) | (have H2_ := (Option.bind_some _ _).symm.trans H; rw [hy292]; with_reducible exact H2_) | (have H2_ := (Option.bind_some _ _).symm.trans H; with_reducible exact H2_) | with_reducible exact H | (rw [hy292]; exact H) | exact H
     have Ny292 := ZA hy292
     clear hy292
     by_cases c11 : y292.length < 140737488355328
     ·rw [if_pos c11] at H
      have LMc11 := ZA c11
      clear c11
      obtain ⟨y295, hy295⟩ : ∃ y_ : List Int, y_ = (y292 ++ [((t277.length : Int)) % 256]) := ⟨_, rfl⟩
      replace H : (if y295.length + t277.length < 140737488355328 then (some (y295 ++ t277)) else (none)) = some r := by first | (rw [hy295]; with_reducible exact H) | (have H2_ := (Option.bind_some _ _).symm.trans H; rw [hy295]; with_reducible exact H2_) | (have H2_ := (Option.bind_some _ _).symm.trans H; with_reducible exact H2_) | with_reducible exact H | (rw [hy295]; exact H) | exact H
      have Ny295 := ZA hy295
      clear hy295
      by_cases c12 : y295.length + t277.length < 140737488355328
      ·rw [if_pos c12] at H
       have LMc12 := ZA c12
       clear c12
       obtain ⟨y298, hy298⟩ : ∃ y_ : List Int, y_ = (y295 ++ t277) := ⟨_, rfl⟩
       replace H : (some y298) = some r := by first | (rw [hy298]; with_reducible exact H) | (have H2_ := (Option.bind_some _ _).symm.trans H; rw [hy298]; with_reducible exact H2_) | (have H2_ := (Option.bind_some _ _).symm.trans H; with_reducible exact H2_) | with_reducible exact H | (rw [hy298]; exact H) | exact H
       have Ny298 := ZA hy298
       clear hy298
       obtain rfl := Option.some.inj H
       go_enter Try.func61, Try.ntmps61
       go_wp2_with (first | ((with_reducible refine gate_dst (N := 1) rfl ?_); refine box_event ?hg (N := 1) ?hd (cs := #[.int .i64 a0_0, .int .i64 a0_1, .int .i64 a0_2, .int .i64 a0_3, .float .f64 a0_4, .slice A0_5 l0_5.length c0_5, .int .i64 a0_6, .int .i64 a0_7, .float .f64 a0_8, .slice A0_9 l0_9.length c0_9]) (t := 74) ?hr ?_; (case hd => rfl); (case hg => rfl); (case hr => first | (go_simp; done) | (go_simp; rfl)); intro gb272 hg w13 hbox hb; have n0_ := ZA (below_step (hup HB.out) hb); have n1_ := ZA (hbox); have n2_ := Geq.mk ((Z28 : w.heap.size ≤ gb272)); have n3_ := Geq.mk ((Z28 : w.heap.size ≤ gb272)); clear HB; have HB := n0_; have BK272 := n1_; have GW272 := n2_; have GE272 := n3_; clear n0_ n1_ n2_ n3_ hb hbox hg; obtain ⟨hcz14_0, hcz14_1, hcz14_2, hcz14_3, hcz14_4, hcz14_5, hcz14_6, hcz14_7, hcz14_8, hcz14_9⟩ := blk_cells10 BK272.out; obtain ⟨hfz14_0, hfz14_1, hfz14_2, hfz14_3, hfz14_4, hfz14_5, hfz14_6, hfz14_7, hfz14_8, hfz14_9⟩ := blk_frozens10 BK272.out) | ((with_reducible refine gate_callee (f := 68) rfl ?_); refine goesL_ (some 7) rfl rfl Try.func68 Z12 rfl #[.agg #[.int .i64 a0_0, .int .i64 a0_1, .int .i64 a0_2, .int .i64 a0_3, .float .f64 a0_4, .slice A0_5 l0_5.length c0_5, .int .i64 a0_6, .int .i64 a0_7, .float .f64 a0_8, .slice A0_9 l0_9.length c0_9]] rfl Z1 ?_; (with_reducible refine (spec_TupleOk.calls k a0_0 a0_1 a0_2 a0_3 a0_4 _ _ l0_5 a0_6 a0_7 a0_8 _ _ l0_9 true _ ?side1 ?side2 ?side3 ?side4 A2.out).mono ?_); (case side1 => repeat (first | exact (Kd.C_below HR0_5.out HB.out) | (with_reducible refine Kd.C_alloc ?_ _) | (with_reducible refine Kd.C_drewN ?_ _) | (with_reducible refine Kd.C_drew ?_))); (case side2 => exact HC0_5.out); (case side3 => repeat (first | exact (Kd.C_below HR0_9.out HB.out) | (with_reducible refine Kd.C_alloc ?_ _) | (with_reducible refine Kd.C_drewN ?_ _) | (with_reducible refine Kd.C_drew ?_))); (case side4 => exact HC0_9.out); rintro e w15 ⟨rfl, hb⟩; refine ⟨_, rfl, ?_⟩; have n0_ := ZA (blk_below (bup BK272.out) hb); have n1_ := ZA (below_step (hset HB.out) hb); clear BK272 HB; have BK272 := n0_; have HB := n1_; clear n0_ n1_; (try clear hb); (try clear hb2); (try clear hk); (try clear hi); obtain ⟨hcz16_0, hcz16_1, hcz16_2, hcz16_3, hcz16_4, hcz16_5, hcz16_6, hcz16_7, hcz16_8, hcz16_9⟩ := blk_cells10 BK272.out; obtain ⟨hfz16_0, hfz16_1, hfz16_2, hfz16_3, hfz16_4, hfz16_5, hfz16_6, hfz16_7, hfz16_8, hfz16_9⟩ := blk_frozens10 BK272.out) | ((with_reducible refine gate_callee (f := 69) rfl ?_); refine goesL_ (some 11) rfl rfl Try.func69 Z12 rfl #[.agg #[.int .i64 a0_2, .int .i64 a0_3, .float .f64 a0_4, .slice A0_5 l0_5.length c0_5]] rfl Z1 ?_; (with_reducible refine (spec_KeyBytes.calls k a0_2 a0_3 a0_4 _ _ l0_5 t274 _ ?side1 ?side2 A4.out).mono ?_); (case side1 => repeat (first | exact (Kd.C_below HR0_5.out HB.out) | (with_reducible refine Kd.C_alloc ?_ _) | (with_reducible refine Kd.C_drewN ?_ _) | (with_reducible refine Kd.C_drew ?_))); (case side2 => exact HC0_5.out); rintro e w17 ⟨v275, rfl, ho0, hb⟩; refine ⟨_, rfl, ?_⟩; have n0_ := ZA (Kd.R_lower ho0 (below_size (hset HB.out))); have n1_ := ZA (blk_below (bup BK272.out) hb); have n2_ := ZA (below_step (hset HB.out) hb); clear BK272 HB; have HO276 := n0_; have BK272 := n1_; have HB := n2_; clear n0_ n1_ n2_; (try clear hb); (try clear hb2); (try clear hk); (try clear hi); (try clear ho0); obtain ⟨hcz18_0, hcz18_1, hcz18_2, hcz18_3, hcz18_4, hcz18_5, hcz18_6, hcz18_7, hcz18_8, hcz18_9⟩ := blk_cells10 BK272.out; obtain ⟨hfz18_0, hfz18_1, hfz18_2, hfz18_3, hfz18_4, hfz18_5, hfz18_6, hfz18_7, hfz18_8, hfz18_9⟩ := blk_frozens10 BK272.out) | ((with_reducible refine gate_callee (f := 70) rfl ?_); refine goesL_ (some 14) rfl rfl Try.func70 Z12 rfl #[.agg #[.int .i64 a0_6, .int .i64 a0_7, .float .f64 a0_8, .slice A0_9 l0_9.length c0_9]] rfl Z1 ?_; (with_reducible refine (spec_ValueBytes.calls k a0_6 a0_7 a0_8 _ _ l0_9 t277 _ ?side1 ?side2 A5.out).mono ?_); (case side1 => repeat (first | exact (Kd.C_below HR0_9.out HB.out) | (with_reducible refine Kd.C_alloc ?_ _) | (with_reducible refine Kd.C_drewN ?_ _) | (with_reducible refine Kd.C_drew ?_))); (case side2 => exact HC0_9.out); rintro e w19 ⟨v278, rfl, ho0, hb⟩; refine ⟨_, rfl, ?_⟩; have n0_ := ZA (Kd.R_elder' (Kd.rup HO276.out) (Kd.R_base ho0) hb); have n1_ := ZA (Kd.R_lower (Kd.R_new' ho0 (Kd.R_lt (Kd.rup HO276.out))) (below_size (hset HB.out))); have n2_ := ZA (blk_below (bup BK272.out) hb); have n3_ := ZA (below_step (hset HB.out) hb); clear HO276 BK272 HB; have HO276 := n0_; have HO279 := n1_; have BK272 := n2_; have HB := n3_; clear n0_ n1_ n2_ n3_; (try clear hb); (try clear hb2); (try clear hk); (try clear hi); (try clear ho0); obtain ⟨hcz20_0, hcz20_1, hcz20_2, hcz20_3, hcz20_4, hcz20_5, hcz20_6, hcz20_7, hcz20_8, hcz20_9⟩ := blk_cells10 BK272.out; obtain ⟨hfz20_0, hfz20_1, hfz20_2, hfz20_3, hfz20_4, hfz20_5, hfz20_6, hfz20_7, hfz20_8, hfz20_9⟩ := blk_frozens10 BK272.out) | ((with_reducible refine gate_callee (f := 50) rfl ?_); refine goesL_ (some 17) rfl rfl Try.func50 Z12 rfl #[.int .i64 a0_0, .int .i64 4] rfl Z1 ?_; (with_reducible refine (spec_PutNum.calls k a0_0 4 t280 _ A6.out).mono ?_); rintro e w21 ⟨v281, rfl, ho0, hb⟩; refine ⟨_, rfl, ?_⟩; have n0_ := ZA (Kd.R_elder' (Kd.rup HO276.out) (Kd.R_base ho0) hb); have n1_ := ZA (Kd.R_elder' (Kd.rup HO279.out) (Kd.R_base ho0) hb); have n2_ := ZA (Kd.R_lower (Kd.R_new' (Kd.R_new' ho0 (Kd.R_lt (Kd.rup HO276.out))) (Kd.R_lt (Kd.rup HO279.out))) (below_size (hset HB.out))); have n3_ := ZA (blk_below (bup BK272.out) hb); have n4_ := ZA (below_step (hset HB.out) hb); clear HO276 HO279 BK272 HB; have HO276 := n0_; have HO279 := n1_; have HO282 := n2_; have BK272 := n3_; have HB := n4_; clear n0_ n1_ n2_ n3_ n4_; (try clear hb); (try clear hb2); (try clear hk); (try clear hi); (try clear ho0); obtain ⟨hcz22_0, hcz22_1, hcz22_2, hcz22_3, hcz22_4, hcz22_5, hcz22_6, hcz22_7, hcz22_8, hcz22_9⟩ := blk_cells10 BK272.out; obtain ⟨hfz22_0, hfz22_1, hfz22_2, hfz22_3, hfz22_4, hfz22_5, hfz22_6, hfz22_7, hfz22_8, hfz22_9⟩ := blk_frozens10 BK272.out) | ((with_reducible refine gate_callee (f := 50) rfl ?_); refine goesL_ (some 21) rfl rfl Try.func50 Z12 rfl #[.int .i64 a0_1, .int .i64 4] rfl Z1 ?_; (with_reducible refine (spec_PutNum.calls k a0_1 4 t283 _ A7.out).mono ?_); rintro e w23 ⟨v284, rfl, ho0, hb⟩; refine ⟨_, rfl, ?_⟩; have n0_ := ZA (Kd.R_elder' (Kd.rup HO276.out) (Kd.R_base ho0) hb); have n1_ := ZA (Kd.R_elder' (Kd.rup HO279.out) (Kd.R_base ho0) hb); have n2_ := ZA (Kd.R_elder' (Kd.rup HO282.out) (Kd.R_base ho0) hb); have n3_ := ZA (Kd.R_lower (Kd.R_new' (Kd.R_new' (Kd.R_new' ho0 (Kd.R_lt (Kd.rup HO276.out))) (Kd.R_lt (Kd.rup HO279.out))) (Kd.R_lt (Kd.rup HO282.out))) (below_size (hset HB.out))); have n4_ := ZA (blk_below (bup BK272.out) hb); have n5_ := ZA (below_step (hset HB.out) hb); clear HO276 HO279 HO282 BK272 HB; have HO276 := n0_; have HO279 := n1_; have HO282 := n2_; have HO285 := n3_; have BK272 := n4_; have HB := n5_; clear n0_ n1_ n2_ n3_ n4_ n5_; (try clear hb); (try clear hb2); (try clear hk); (try clear hi); (try clear ho0); obtain ⟨Ao25, co25, eo25⟩ := Kd.R_slice HO285.out; subst eo25) | ((with_reducible refine gate_builtin (b := .append) (xs := #[.tmp 18, .tmp 21]) rfl ?_); at_builtin; refine Kd.R_append_rows (Kd.int .u8) (w0 := w) w.heap.size rfl (.tmp 18) (.tmp 21) 36 5 (.int .u8 0) 1 rfl Try.underlying36 info5 rfl Z25 Z8 v281 t280 t283 _ _ _ (fun k_ => some k_ ≠ (v275 : Value).ownBlock ∧ some k_ ≠ (v278 : Value).ownBlock ∧ some k_ ≠ (.slice Ao25 t283.length co25 : Value).ownBlock) (fun _ => False) rfl rfl ?aO ?aR (fun _ _ h => h) (fun _ h => h.elim) ?aF ?aB ?aS ?aL ?_; (case aR => repeat (first | exact (Kd.R_reads' HO285.out).2.2 | (with_reducible refine Kd.C_alloc ?_ _) | (with_reducible refine Kd.C_drewN ?_ _) | (with_reducible refine Kd.C_drew ?_))); (case aB => exact (hset HB.out)); (case aF => exact (fun k_ hk => ⟨Kd.fresh' (Kd.R_lt (Kd.rup HO276.out)) k_ hk, Kd.fresh' (Kd.R_lt (Kd.rup HO279.out)) k_ hk, Kd.fresh' (Kd.R_lt (Kd.rup HO285.out)) k_ hk⟩)); (case aO => exact (by exact Kd.rup (Kd.R_mono HO282.out (fun _ hk => ⟨hk.1.1.2, ⟨hk.1.2, hk.2⟩⟩)))); (case aS => exact (below_size (hset HB.out))); (case aL => have := LMc8.out; omega); intro v287 w24 ho hb hg hat; rw [← Ny286.out] at ho; have n0_ := ZA (blk_grown (g := gb272) (o := .cells #[.int .i64 a0_0, .int .i64 a0_1, .int .i64 a0_2, .int .i64 a0_3, .float .f64 a0_4, .slice A0_5 l0_5.length c0_5, .int .i64 a0_6, .int .i64 a0_7, .float .f64 a0_8, .slice A0_9 l0_9.length c0_9] 74 (0, 0)) (bup BK272.out) hg (Kd.R_ne HO282.out BK272.out Z25)); have n1_ := ZA (Kd.R_after (ok := (fun k_ => some k_ ≠ (v278 : Value).ownBlock ∧ some k_ ≠ (.slice Ao25 t283.length co25 : Value).ownBlock)) (by exact Kd.rup (Kd.R_mono HO276.out (fun _ hk => ⟨⟨hk.1.1.2, hk.2⟩, hk.1.2⟩))) hg hat); have n2_ := ZA (Kd.R_after (ok := (fun k_ => some k_ ≠ (v275 : Value).ownBlock ∧ some k_ ≠ (.slice Ao25 t283.length co25 : Value).ownBlock)) (by exact Kd.rup (Kd.R_mono HO279.out (fun _ hk => ⟨⟨hk.1.1.2, hk.2⟩, hk.1.2⟩))) hg hat); have n3_ := ZA (Kd.R_after (ok := (fun k_ => some k_ ≠ (v275 : Value).ownBlock ∧ some k_ ≠ (v278 : Value).ownBlock)) (by exact Kd.rup (Kd.R_mono HO285.out (fun _ hk => ⟨⟨hk.1.1.2, hk.1.2⟩, hk.2⟩))) hg hat); have n4_ := ZA (hb); have n5_ := ZA (ho); clear BK272 HO276 HO279 HO285 HB HO282; have BK272 := n0_; have HO276 := n1_; have HO279 := n2_; have HO285 := n3_; have HB := n4_; have HO288 := n5_; clear n0_ n1_ n2_ n3_ n4_ n5_ ho hb hg hat; obtain ⟨Ao26, co26, eo26⟩ := Kd.R_slice HO276.out; subst eo26) | ((with_reducible refine gate_builtin (b := .append) (xs := #[.tmp 23, .tmp 27]) rfl ?_); at_builtin; refine Kd.R_append (Kd.int .u8) (w0 := w) w.heap.size rfl (.tmp 23) (.tmp 27) 36 5 (.int .u8 0) 1 rfl Try.underlying36 info5 rfl Z25 Z8 v287 y286 (((t274.length : Int)) % 256) [.int .u8 (((t274.length : Int)) % 256)] (fun k_ => some k_ ≠ (.slice Ao26 t274.length co26 : Value).ownBlock ∧ some k_ ≠ (v278 : Value).ownBlock ∧ some k_ ≠ (.slice Ao25 t283.length co25 : Value).ownBlock) (fun _ => False) rfl rfl ?aP (fun _ hk => hk.elim) ?aF ?aO ?aB ?aS ?aL ?_; (case aP => exact rfl); (case aB => exact (hset HB.out)); (case aF => exact (fun k_ hk => ⟨Kd.fresh' (Kd.R_lt (Kd.rup HO276.out)) k_ hk, Kd.fresh' (Kd.R_lt (Kd.rup HO279.out)) k_ hk, Kd.fresh' (Kd.R_lt (Kd.rup HO285.out)) k_ hk⟩)); (case aO => exact (Kd.rup HO288.out)); (case aS => exact (below_size (hset HB.out))); (case aL => have := LMc9.out; omega); intro v290 w27 ho hb hg hat; rw [← Ny289.out] at ho; have n0_ := ZA (blk_grown (g := gb272) (o := .cells #[.int .i64 a0_0, .int .i64 a0_1, .int .i64 a0_2, .int .i64 a0_3, .float .f64 a0_4, .slice A0_5 l0_5.length c0_5, .int .i64 a0_6, .int .i64 a0_7, .float .f64 a0_8, .slice A0_9 l0_9.length c0_9] 74 (0, 0)) (bup BK272.out) hg (Kd.R_ne HO288.out BK272.out Z25)); have n1_ := ZA (Kd.R_after (ok := (fun k_ => some k_ ≠ (v278 : Value).ownBlock ∧ some k_ ≠ (.slice Ao25 t283.length co25 : Value).ownBlock)) (Kd.rup HO276.out) hg hat); have n2_ := ZA (Kd.R_after (ok := (fun k_ => some k_ ≠ (.slice Ao26 t274.length co26 : Value).ownBlock ∧ some k_ ≠ (.slice Ao25 t283.length co25 : Value).ownBlock)) (Kd.rup HO279.out) hg hat); have n3_ := ZA (Kd.R_after (ok := (fun k_ => some k_ ≠ (.slice Ao26 t274.length co26 : Value).ownBlock ∧ some k_ ≠ (v278 : Value).ownBlock)) (Kd.rup HO285.out) hg hat); have n4_ := ZA (hb); have n5_ := ZA (ho); clear BK272 HO276 HO279 HO285 HB HO288; have BK272 := n0_; have HO276 := n1_; have HO279 := n2_; have HO285 := n3_; have HB := n4_; have HO291 := n5_; clear n0_ n1_ n2_ n3_ n4_ n5_ ho hb hg hat) | ((with_reducible refine gate_builtin (b := .append) (xs := #[.tmp 29, .tmp 30]) rfl ?_); at_builtin; refine Kd.R_append_rows (Kd.int .u8) (w0 := w) w.heap.size rfl (.tmp 29) (.tmp 30) 36 5 (.int .u8 0) 1 rfl Try.underlying36 info5 rfl Z25 Z8 v290 y289 t274 _ _ _ (fun k_ => some k_ ≠ (.slice Ao26 t274.length co26 : Value).ownBlock ∧ some k_ ≠ (v278 : Value).ownBlock ∧ some k_ ≠ (.slice Ao25 t283.length co25 : Value).ownBlock) (fun _ => False) rfl rfl ?aO ?aR (fun _ _ h => h) (fun _ h => h.elim) ?aF ?aB ?aS ?aL ?_; (case aR => repeat (first | exact (Kd.R_reads' HO276.out).2.2 | (with_reducible refine Kd.C_alloc ?_ _) | (with_reducible refine Kd.C_drewN ?_ _) | (with_reducible refine Kd.C_drew ?_))); (case aB => exact (hset HB.out)); (case aF => exact (fun k_ hk => ⟨Kd.fresh' (Kd.R_lt (Kd.rup HO276.out)) k_ hk, Kd.fresh' (Kd.R_lt (Kd.rup HO279.out)) k_ hk, Kd.fresh' (Kd.R_lt (Kd.rup HO285.out)) k_ hk⟩)); (case aO => exact (Kd.rup HO291.out)); (case aS => exact (below_size (hset HB.out))); (case aL => have := LMc10.out; omega); intro v293 w28 ho hb hg hat; rw [← Ny292.out] at ho; have n0_ := ZA (blk_grown (g := gb272) (o := .cells #[.int .i64 a0_0, .int .i64 a0_1, .int .i64 a0_2, .int .i64 a0_3, .float .f64 a0_4, .slice A0_5 l0_5.length c0_5, .int .i64 a0_6, .int .i64 a0_7, .float .f64 a0_8, .slice A0_9 l0_9.length c0_9] 74 (0, 0)) (bup BK272.out) hg (Kd.R_ne HO291.out BK272.out Z25)); have n1_ := ZA (Kd.R_after (ok := (fun k_ => some k_ ≠ (v278 : Value).ownBlock ∧ some k_ ≠ (.slice Ao25 t283.length co25 : Value).ownBlock)) (Kd.rup HO276.out) hg hat); have n2_ := ZA (Kd.R_after (ok := (fun k_ => some k_ ≠ (.slice Ao26 t274.length co26 : Value).ownBlock ∧ some k_ ≠ (.slice Ao25 t283.length co25 : Value).ownBlock)) (Kd.rup HO279.out) hg hat); have n3_ := ZA (Kd.R_after (ok := (fun k_ => some k_ ≠ (.slice Ao26 t274.length co26 : Value).ownBlock ∧ some k_ ≠ (v278 : Value).ownBlock)) (Kd.rup HO285.out) hg hat); have n4_ := ZA (hb); have n5_ := ZA (ho); clear BK272 HO276 HO279 HO285 HB HO291; have BK272 := n0_; have HO276 := n1_; have HO279 := n2_; have HO285 := n3_; have HB := n4_; have HO294 := n5_; clear n0_ n1_ n2_ n3_ n4_ n5_ ho hb hg hat; obtain ⟨Ao29, co29, eo29⟩ := Kd.R_slice HO279.out; subst eo29) | ((with_reducible refine gate_builtin (b := .append) (xs := #[.tmp 32, .tmp 36]) rfl ?_); at_builtin; refine Kd.R_append (Kd.int .u8) (w0 := w) w.heap.size rfl (.tmp 32) (.tmp 36) 36 5 (.int .u8 0) 1 rfl Try.underlying36 info5 rfl Z25 Z8 v293 y292 (((t277.length : Int)) % 256) [.int .u8 (((t277.length : Int)) % 256)] (fun k_ => some k_ ≠ (.slice Ao26 t274.length co26 : Value).ownBlock ∧ some k_ ≠ (.slice Ao29 t277.length co29 : Value).ownBlock ∧ some k_ ≠ (.slice Ao25 t283.length co25 : Value).ownBlock) (fun _ => False) rfl rfl ?aP (fun _ hk => hk.elim) ?aF ?aO ?aB ?aS ?aL ?_; (case aP => exact rfl); (case aB => exact (hset HB.out)); (case aF => exact (fun k_ hk => ⟨Kd.fresh' (Kd.R_lt (Kd.rup HO276.out)) k_ hk, Kd.fresh' (Kd.R_lt (Kd.rup HO279.out)) k_ hk, Kd.fresh' (Kd.R_lt (Kd.rup HO285.out)) k_ hk⟩)); (case aO => exact (Kd.rup HO294.out)); (case aS => exact (below_size (hset HB.out))); (case aL => have := LMc11.out; omega); intro v296 w30 ho hb hg hat; rw [← Ny295.out] at ho; have n0_ := ZA (blk_grown (g := gb272) (o := .cells #[.int .i64 a0_0, .int .i64 a0_1, .int .i64 a0_2, .int .i64 a0_3, .float .f64 a0_4, .slice A0_5 l0_5.length c0_5, .int .i64 a0_6, .int .i64 a0_7, .float .f64 a0_8, .slice A0_9 l0_9.length c0_9] 74 (0, 0)) (bup BK272.out) hg (Kd.R_ne HO294.out BK272.out Z25)); have n1_ := ZA (Kd.R_after (ok := (fun k_ => some k_ ≠ (.slice Ao29 t277.length co29 : Value).ownBlock ∧ some k_ ≠ (.slice Ao25 t283.length co25 : Value).ownBlock)) (Kd.rup HO276.out) hg hat); have n2_ := ZA (Kd.R_after (ok := (fun k_ => some k_ ≠ (.slice Ao26 t274.length co26 : Value).ownBlock ∧ some k_ ≠ (.slice Ao25 t283.length co25 : Value).ownBlock)) (Kd.rup HO279.out) hg hat); have n3_ := ZA (Kd.R_after (ok := (fun k_ => some k_ ≠ (.slice Ao26 t274.length co26 : Value).ownBlock ∧ some k_ ≠ (.slice Ao29 t277.length co29 : Value).ownBlock)) (Kd.rup HO285.out) hg hat); have n4_ := ZA (hb); have n5_ := ZA (ho); clear BK272 HO276 HO279 HO285 HB HO294; have BK272 := n0_; have HO276 := n1_; have HO279 := n2_; have HO285 := n3_; have HB := n4_; have HO297 := n5_; clear n0_ n1_ n2_ n3_ n4_ n5_ ho hb hg hat) | ((with_reducible refine gate_builtin (b := .append) (xs := #[.tmp 38, .tmp 39]) rfl ?_); at_builtin; refine Kd.R_append_rows (Kd.int .u8) (w0 := w) w.heap.size rfl (.tmp 38) (.tmp 39) 36 5 (.int .u8 0) 1 rfl Try.underlying36 info5 rfl Z25 Z8 v296 y295 t277 _ _ _ (fun k_ => some k_ ≠ (.slice Ao26 t274.length co26 : Value).ownBlock ∧ some k_ ≠ (.slice Ao29 t277.length co29 : Value).ownBlock ∧ some k_ ≠ (.slice Ao25 t283.length co25 : Value).ownBlock) (fun _ => False) rfl rfl ?aO ?aR (fun _ _ h => h) (fun _ h => h.elim) ?aF ?aB ?aS ?aL ?_; (case aR => repeat (first | exact (Kd.R_reads' HO279.out).2.2 | (with_reducible refine Kd.C_alloc ?_ _) | (with_reducible refine Kd.C_drewN ?_ _) | (with_reducible refine Kd.C_drew ?_))); (case aB => exact (hset HB.out)); (case aF => exact (fun k_ hk => ⟨Kd.fresh' (Kd.R_lt (Kd.rup HO276.out)) k_ hk, Kd.fresh' (Kd.R_lt (Kd.rup HO279.out)) k_ hk, Kd.fresh' (Kd.R_lt (Kd.rup HO285.out)) k_ hk⟩)); (case aO => exact (Kd.rup HO297.out)); (case aS => exact (below_size (hset HB.out))); (case aL => have := LMc12.out; omega); intro v299 w31 ho hb hg hat; rw [← Ny298.out] at ho; have n0_ := ZA (blk_grown (g := gb272) (o := .cells #[.int .i64 a0_0, .int .i64 a0_1, .int .i64 a0_2, .int .i64 a0_3, .float .f64 a0_4, .slice A0_5 l0_5.length c0_5, .int .i64 a0_6, .int .i64 a0_7, .float .f64 a0_8, .slice A0_9 l0_9.length c0_9] 74 (0, 0)) (bup BK272.out) hg (Kd.R_ne HO297.out BK272.out Z25)); have n1_ := ZA (Kd.R_after (ok := (fun k_ => some k_ ≠ (.slice Ao29 t277.length co29 : Value).ownBlock ∧ some k_ ≠ (.slice Ao25 t283.length co25 : Value).ownBlock)) (Kd.rup HO276.out) hg hat); have n2_ := ZA (Kd.R_after (ok := (fun k_ => some k_ ≠ (.slice Ao26 t274.length co26 : Value).ownBlock ∧ some k_ ≠ (.slice Ao25 t283.length co25 : Value).ownBlock)) (Kd.rup HO279.out) hg hat); have n3_ := ZA (Kd.R_after (ok := (fun k_ => some k_ ≠ (.slice Ao26 t274.length co26 : Value).ownBlock ∧ some k_ ≠ (.slice Ao29 t277.length co29 : Value).ownBlock)) (Kd.rup HO285.out) hg hat); have n4_ := ZA (hb); have n5_ := ZA (ho); clear BK272 HO276 HO279 HO285 HB HO297; have BK272 := n0_; have HO276 := n1_; have HO279 := n2_; have HO285 := n3_; have HB := n4_; have HO300 := n5_; clear n0_ n1_ n2_ n3_ n4_ n5_ ho hb hg hat))
       go_ret
       exact ⟨_, by first | rfl | (simp [errW_none, errW_some] <;> rfl) | (simp [*, errW_none, errW_some] <;> rfl), by exact Kd.rup (Kd.R_mono HO300.out (fun _ hk => trivial)), hset HB.out⟩
      ·rw [if_neg c12] at H
       exact absurd H Z44
     ·rw [if_neg c11] at H
      exact absurd H Z44
    ·rw [if_neg c10] at H
     exact absurd H Z44
   ·rw [if_neg c9] at H
    exact absurd H Z44
  ·rw [if_neg c8] at H
   exact absurd H Z44
 ·replace c3 := Bool.eq_false_iff.mpr c3
  subst c3
  rw [if_neg (show ¬ (false = true) by decide)] at H
  (try dsimp only at H)
  obtain rfl := Option.some.inj H
  go_enter Try.func61, Try.ntmps61
  go_wp2_with (first | ((with_reducible refine gate_dst (N := 1) rfl ?_); refine box_event ?hg (N := 1) ?hd (cs := #[.int .i64 a0_0, .int .i64 a0_1, .int .i64 a0_2, .int .i64 a0_3, .float .f64 a0_4, .slice A0_5 l0_5.length c0_5, .int .i64 a0_6, .int .i64 a0_7, .float .f64 a0_8, .slice A0_9 l0_9.length c0_9]) (t := 74) ?hr ?_; (case hd => rfl); (case hg => rfl); (case hr => first | (go_simp; done) | (go_simp; rfl)); intro gb272 hg w32 hbox hb; have n0_ := ZA (below_step (hup HB.out) hb); have n1_ := ZA (hbox); have n2_ := Geq.mk ((Z28 : w.heap.size ≤ gb272)); have n3_ := Geq.mk ((Z28 : w.heap.size ≤ gb272)); clear HB; have HB := n0_; have BK272 := n1_; have GW272 := n2_; have GE272 := n3_; clear n0_ n1_ n2_ n3_ hb hbox hg; obtain ⟨hcz33_0, hcz33_1, hcz33_2, hcz33_3, hcz33_4, hcz33_5, hcz33_6, hcz33_7, hcz33_8, hcz33_9⟩ := blk_cells10 BK272.out; obtain ⟨hfz33_0, hfz33_1, hfz33_2, hfz33_3, hfz33_4, hfz33_5, hfz33_6, hfz33_7, hfz33_8, hfz33_9⟩ := blk_frozens10 BK272.out) | ((with_reducible refine gate_callee (f := 68) rfl ?_); refine goesL_ (some 7) rfl rfl Try.func68 Z12 rfl #[.agg #[.int .i64 a0_0, .int .i64 a0_1, .int .i64 a0_2, .int .i64 a0_3, .float .f64 a0_4, .slice A0_5 l0_5.length c0_5, .int .i64 a0_6, .int .i64 a0_7, .float .f64 a0_8, .slice A0_9 l0_9.length c0_9]] rfl Z1 ?_; (with_reducible refine (spec_TupleOk.calls k a0_0 a0_1 a0_2 a0_3 a0_4 _ _ l0_5 a0_6 a0_7 a0_8 _ _ l0_9 false _ ?side1 ?side2 ?side3 ?side4 A2.out).mono ?_); (case side1 => repeat (first | exact (Kd.C_below HR0_5.out HB.out) | (with_reducible refine Kd.C_alloc ?_ _) | (with_reducible refine Kd.C_drewN ?_ _) | (with_reducible refine Kd.C_drew ?_))); (case side2 => exact HC0_5.out); (case side3 => repeat (first | exact (Kd.C_below HR0_9.out HB.out) | (with_reducible refine Kd.C_alloc ?_ _) | (with_reducible refine Kd.C_drewN ?_ _) | (with_reducible refine Kd.C_drew ?_))); (case side4 => exact HC0_9.out); rintro e w34 ⟨rfl, hb⟩; refine ⟨_, rfl, ?_⟩; have n0_ := ZA (blk_below (bup BK272.out) hb); have n1_ := ZA (below_step (hset HB.out) hb); clear BK272 HB; have BK272 := n0_; have HB := n1_; clear n0_ n1_; (try clear hb); (try clear hb2); (try clear hk); (try clear hi)))
  go_ret
  exact ⟨_, by first | rfl | (simp [errW_none, errW_some] <;> rfl) | (simp [*, errW_none, errW_some] <;> rfl), by first | exact Kd.R_nil _ _ _ _ _ | exact Kd.N_nil _ _ _ _ _ | exact Kd.V_nil _ _ _ _ _ | exact Kd.Q_nil _ _ _ _ _ | exact Kd.S_nil _ _ _ _ _, hset HB.out⟩
theorem spec_TupleBytes.inv0 (k : Nat) (a0_0 : Int) (a0_1 : Int) (a0_2 : Int) (a0_3 : Int) (a0_4 : Nat) (l0_5 : List Int) (a0_6 : Int) (a0_7 : Int) (a0_8 : Nat) (l0_9 : List Int) : spec_TupleBytes.f k a0_0 a0_1 a0_2 a0_3 (cn a0_4) l0_5 a0_6 a0_7 a0_8 l0_9 = spec_TupleBytes.f k a0_0 a0_1 a0_2 a0_3 a0_4 l0_5 a0_6 a0_7 a0_8 l0_9 := by
  by_cases h_ : nanw a0_4
  · unfold spec_TupleBytes.f
    first
      | (simp only [spec_TupleOk.inv0, spec_TupleOk.inv1, spec_KeyBytes.inv0, spec_ValueBytes.inv0, cn_zeroI, cn_zero, feq_cn_l, feq_cn_r, fls_cn_l, fls_cn_r, fgt_cn_l, fgt_cn_r, fle_cn_l, fle_cn_r, fge_cn_l, fge_cn_r]; done)
      | (simp only [spec_TupleOk.inv0, spec_TupleOk.inv1, spec_KeyBytes.inv0, spec_ValueBytes.inv0, cn_zeroI, cn_zero, feq_cn_l, feq_cn_r, fls_cn_l, fls_cn_r, fgt_cn_l, fgt_cn_r, fle_cn_l, fle_cn_r, fge_cn_l, fge_cn_r, feq_nan_l h_, feq_nan_l (cn_nanw h_), Bool.false_eq_true, if_false]; done)
      | (simp [feq_nan_l h_, feq_nan_l (cn_nanw h_)]; done)
  · rw [cn_num h_]
theorem spec_TupleBytes.inv1 (k : Nat) (a0_0 : Int) (a0_1 : Int) (a0_2 : Int) (a0_3 : Int) (a0_4 : Nat) (l0_5 : List Int) (a0_6 : Int) (a0_7 : Int) (a0_8 : Nat) (l0_9 : List Int) : spec_TupleBytes.f k a0_0 a0_1 a0_2 a0_3 a0_4 l0_5 a0_6 a0_7 (cn a0_8) l0_9 = spec_TupleBytes.f k a0_0 a0_1 a0_2 a0_3 a0_4 l0_5 a0_6 a0_7 a0_8 l0_9 := by
  by_cases h_ : nanw a0_8
  · unfold spec_TupleBytes.f
    first
      | (simp only [spec_TupleOk.inv0, spec_TupleOk.inv1, spec_KeyBytes.inv0, spec_ValueBytes.inv0, cn_zeroI, cn_zero, feq_cn_l, feq_cn_r, fls_cn_l, fls_cn_r, fgt_cn_l, fgt_cn_r, fle_cn_l, fle_cn_r, fge_cn_l, fge_cn_r]; done)
      | (simp only [spec_TupleOk.inv0, spec_TupleOk.inv1, spec_KeyBytes.inv0, spec_ValueBytes.inv0, cn_zeroI, cn_zero, feq_cn_l, feq_cn_r, fls_cn_l, fls_cn_r, fgt_cn_l, fgt_cn_r, fle_cn_l, fle_cn_r, fge_cn_l, fge_cn_r, feq_nan_l h_, feq_nan_l (cn_nanw h_), Bool.false_eq_true, if_false]; done)
      | (simp [feq_nan_l h_, feq_nan_l (cn_nanw h_)]; done)
  · rw [cn_num h_]
def spec_l1some.l0 : Nat → List Int → Int → Int → List Int → Int → Int → Option (List Int × Int × Int)
  | 0, _, _, _, _, _, _ => none
  | k + 1, x5, x6, x7, x1000, x1001, x1002 => if x7 < x6 then ((spec_l1Byte.f x1000 x1001 x1002).bind fun bt304 => (if x5.length < 140737488355328 then (spec_l1some.l0 k (x5 ++ [(bt304.1) % 256]) x6 (wrap64 (x7 + 1)) x1000 bt304.2.1 bt304.2.2) else (none))) else (some (x5, x1001, x1002))
def spec_l1some.f (k : Nat) (s0_0 : List Int) (s0_1 : Int) (s0_2 : Int) (a1 : Int) : Option (List Int × Int × Int) := (spec_l1Below.f s0_0 s0_1 s0_2 (wrap64 (a1 + 1))).bind fun bt301 => (spec_l1some.l0 k ([] : List Int) bt301.1 0 s0_0 bt301.2.1 bt301.2.2)
theorem spec_l1some.mono_l : ∀ k, (∀ y0 y1 y2 y3 y4 y5, LeO (spec_l1some.l0 k y0 y1 y2 y3 y4 y5) (spec_l1some.l0 (k + 1) y0 y1 y2 y3 y4 y5))
  | 0 => fun _ _ _ _ _ _ r h => by simp [spec_l1some.l0] at h
  | k + 1 => by
    have ih0 := spec_l1some.mono_l k
    · intro y0 y1 y2 y3 y4 y5
      unfold spec_l1some.l0
      repeat' with_reducible first | exact ih0 _ _ _ _ _ _ | exact LeO.refl _ | exact LeO.none _ | refine LeO.ite ?_ ?_ | refine LeO.bind ?_ (fun _ => ?_)
theorem spec_l1some.mono : ∀ a0 a1 a2 a3 k, LeO (spec_l1some.f k a0 a1 a2 a3) (spec_l1some.f (k + 1) a0 a1 a2 a3) := by
  intro a0 a1 a2 a3 k
  have ih0 := spec_l1some.mono_l k
  unfold spec_l1some.f
  repeat' with_reducible first | exact ih0 _ _ _ _ _ _ | exact LeO.refl _ | exact LeO.none _ | refine LeO.ite ?_ ?_ | refine LeO.bind ?_ (fun _ => ?_)
set_option maxHeartbeats 8000000 in
set_option maxRecDepth 100000 in
theorem spec_l1some.calls (k : Nat) (g : Nat) (s0_0 : List Int) (s0_1 : Int) (s0_2 : Int) (a1 : Int) (r1 : List Int) (r2 : Int) (r3 : Int) (w0 w : World) (hI : IsS82 w0 w g s0_0 s0_1 s0_2) (hB : Below w0.heap.size w0 w) (h : spec_l1some.f k s0_0 s0_1 s0_2 a1 = some (r1, r2, r3)) :
    Calls Try.prog 67 #[.pointer (some ⟨g, 0, none⟩), .int .i64 a1] w fun e w' => ∃ v0_ : Value, e = .returned (v0_) ∧ Kd.R (Kd.int .u8) 5 w' w.heap.size (fun _ => True) v0_ r1 ∧ IsS82 w0 w' g s0_0 r2 r3 ∧ Below w0.heap.size w0 w' ∧ KeepBut w w' g none := by
  have HI0 := ZA hI
  have HK := ZA (KeepBut.refl w g none)
  have HL := ZA hB.size
  clear hI
  have HW0 := ZA hB.size
  have HB := ZA hB
  clear hB
  have H := h
  clear h
  unfold spec_l1some.f at H
  replace H := Option.bind_eq_some_iff.mp H
  obtain ⟨⟨t301, t302, t303⟩, A30, H⟩ := H
  (try dsimp only at H)
  have A3 := ZA A30
  clear A30
  have H' := ZA H
  clear H
  go_enter Try.func67, Try.ntmps67
  go_wp2_with (first | ((with_reducible refine gate_callee (f := 63) rfl ?_); refine goesL_ (some 11) rfl rfl Try.func63 Z12 rfl #[.pointer (some ⟨g, 0, none⟩), .int .i64 (wrap64 (a1 + 1))] rfl Z1 ?_; (with_reducible refine (spec_l1Below.calls g s0_0 s0_1 s0_2 (wrap64 (a1 + 1)) t301 t302 t303 w0 _ ?side1 ?side2 A3.out).mono ?_); (case side1 => repeat (first | (with_reducible first | exact HI0.out | apply IsS82.alloc | apply IsS82.drewN | apply IsS82.drew | apply IsS82.set_1 | apply IsS82.set_2) | exact HI0.out)); (case side2 => repeat (first | (with_reducible first | exact HB.out | apply h1 | apply h2 | apply h3 | refine h4 ?_ (IsS82.ge HI0.out)) | exact HB.out)); rintro e w4 ⟨rfl, hi, hb, hk⟩; refine ⟨_, rfl, ?_⟩; have n0_ := ZA (KeepBut.trans Z3 hk (.inl rfl)); have n1_ := ZA (hb); have n2_ := ZA (hi); clear HK HB HI0; have HK := n0_; have HB := n1_; have HI0 := n2_; clear n0_ n1_ n2_; (try clear hb); (try clear hb2); (try clear hk); (try clear hi)))
  go_loopg [5, 7] k (fun kq v5 v7 w' => ∃ (x5_1 : List Int) (x7_1 : Int) (x1001_1 : Int) (x1002_1 : Int), v7 = .int .i64 x7_1 ∧ Aside0 (spec_l1some.l0 kq x5_1 t301 x7_1 s0_0 x1001_1 x1002_1 = some (r1, r2, r3)) ∧ Aside0 (kq ≤ k) ∧ Aside0 (Kd.R (Kd.int .u8) 5 w' w.heap.size (fun _ => True) v5 x5_1) ∧ Aside0 (IsS82 w0 w' g s0_0 x1001_1 x1002_1) ∧ Aside0 (KeepBut w w' g none) ∧ Aside0 (Below w0.heap.size w0 w'))
  case atStart => exact ⟨(([] : List Int)), (0), (t302), (t303), Z7, H', ⟨Nat.le_refl _⟩, ⟨by first | exact Kd.R_nil _ _ _ _ _ | exact Kd.N_nil _ _ _ _ _ | exact Kd.V_nil _ _ _ _ _ | exact Kd.Q_nil _ _ _ _ _ | exact Kd.S_nil _ _ _ _ _⟩, ⟨Z4⟩, ⟨Z13⟩, ⟨Z15⟩⟩
  case round =>
    clear H'
    try clear p2
    obtain ⟨x5_1, x7_1, x1001_1, x1002_1, rfl, HA, HK1, HO_5, HI0, HK, HB⟩ := hrel
    cases gk with
    | zero => exact absurd HA.out (by simp [spec_l1some.l0])
    | succ k1 =>
      have H := HA.out
      clear HA
      simp only [spec_l1some.l0] at H
      by_cases c5 : x7_1 < t301
      · rw [if_pos c5] at H
        have c5b0 : decide (x7_1 < t301) = true := decide_eq_true c5
        clear c5
        replace H := Option.bind_eq_some_iff.mp H
        obtain ⟨⟨t304, t305, t306⟩, A60, H⟩ := H
        (try dsimp only at H)
        have A6 := ZA A60
        clear A60
        by_cases c7 : x5_1.length < 140737488355328
        · rw [if_pos c7] at H
          have LMc7 := ZA c7
          clear c7
          obtain ⟨y307, hy307⟩ : ∃ y_ : List Int, y_ = (x5_1 ++ [(t304) % 256]) := ⟨_, rfl⟩
          replace H : (spec_l1some.l0 k1 y307 t301 (wrap64 (x7_1 + 1)) s0_0 t305 t306) = some (r1, r2, r3) := by first | (rw [hy307]; with_reducible exact H) | (have H2_ := (Option.bind_some _ _).symm.trans H; rw [hy307]; with_reducible exact H2_) | (have H2_ := (Option.bind_some _ _).symm.trans H; with_reducible exact H2_) | with_reducible exact H | (rw [hy307]; exact H) | exact H
          have Ny307 := ZA hy307
          clear hy307
          have H' := ZA H
          clear H
          go_wp2_with (first | ((with_reducible refine gate_callee (f := 73) rfl ?_); refine goesL_ (some 19) rfl rfl Try.func73 Z12 rfl #[.pointer (some ⟨g, 0, none⟩)] rfl Z1 ?_; (with_reducible refine (spec_l1Byte.calls g s0_0 x1001_1 x1002_1 t304 t305 t306 w0 _ ?side1 ?side2 A6.out).mono ?_); (case side1 => repeat (first | (with_reducible first | exact HI0.out | apply IsS82.alloc | apply IsS82.drewN | apply IsS82.drew | apply IsS82.set_1 | apply IsS82.set_2) | exact HI0.out)); (case side2 => repeat (first | (with_reducible first | exact HB.out | apply h1 | apply h2 | apply h3 | refine h4 ?_ (IsS82.ge HI0.out)) | exact HB.out)); rintro e w8 ⟨rfl, hi, hb, hk⟩; refine ⟨_, rfl, ?_⟩; have n0_ := ZA (Kd.R_mono (Kd.R_keep (IsS82.apart (show IsS82 w0 _ g s0_0 x1001_1 x1002_1 from Z4) (Kd.rup HO_5.out) Z25) hk (fun _ h => h.2)) (fun _ h => h.1)); have n1_ := ZA (KeepBut.trans Z3 hk (.inl rfl)); have n2_ := ZA (hb); have n3_ := ZA (hi); clear HO_5 HK HB HI0; have HO_5 := n0_; have HK := n1_; have HB := n2_; have HI0 := n3_; clear n0_ n1_ n2_ n3_; (try clear hb); (try clear hb2); (try clear hk); (try clear hi)) | ((with_reducible refine gate_builtin (b := .append) (xs := #[.tmp 17, .tmp 21]) rfl ?_); at_builtin; refine Kd.R_append (Kd.int .u8) w.heap.size rfl (.tmp 17) (.tmp 21) 36 5 (.int .u8 0) 1 rfl Try.underlying36 info5 rfl Z25 Z8 u5 x5_1 ((t304) % 256) [.int .u8 ((t304) % 256)] (fun _ => True) (fun _ => False) rfl rfl ?aP (fun _ hk => hk.elim) ?aF ?aO (Below.refl _ _) ?aS ?aL ?_; (case aP => exact rfl); (case aF => exact (fun _ _ => trivial)); (case aO => exact (Kd.rup HO_5.out)); (case aS => exact (keep_size (w := w) (g := g) (row := none) Z3)); (case aL => have := LMc7.out; omega); intro v308 w9 ho hb hg hat; rw [← Ny307.out] at ho; have n0_ := ZA (IsS82.grown (Z4) hg (IsS82.own_ne HI0.out HO_5.out Z25)); have n1_ := ZA (below_weaken (Z15) HL.out hb); have n2_ := ZA (KeepBut.trans Z3 (KeepBut.of_grown hg g) (Kd.R_base2 HO_5.out)); have n3_ := ZA (ho); clear HI0 HB HK HO_5; have HI0 := n0_; have HB := n1_; have HK := n2_; have HO309 := n3_; clear n0_ n1_ n2_ n3_ ho hb hg hat))
          go_roundg k1
          case measure => have := HK1.out; omega
          case rel => exact ⟨(y307), (wrap64 (x7_1 + 1)), (t305), (t306), Z7, H', ⟨by have := HK1.out; omega⟩, ⟨by exact Kd.rup HO309.out⟩, ⟨Z4⟩, ⟨Z13⟩, ⟨Z15⟩⟩
        · rw [if_neg c7] at H
          exact absurd H Z44
      · rw [if_neg c5] at H
        have c5b0 : decide (x7_1 < t301) = false := decide_eq_false c5
        clear c5
        simp only [Option.some.injEq, Prod.mk.injEq] at H
        obtain ⟨rfl, rfl, rfl⟩ := H
        go_wp2
        go_ret
        exact ⟨_, by first | rfl | (simp [errW_none, errW_some] <;> rfl) | (simp [*, errW_none, errW_some] <;> rfl), by exact Kd.rup HO_5.out, Z4, Z15, Z13⟩
def spec_l3copy.f (a0_0 : Int) (a0_1 : Int) (a0_2 : Nat) (l0_3 : List Int) : Option (Int × Int × Nat × List Int) := (some (([] : List Int) : List Int)).bind fun y312 => (if y312.length + l0_3.length < 140737488355328 then (some (a0_0, a0_1, a0_2, (y312 ++ l0_3))) else (none))
set_option maxHeartbeats 8000000 in
set_option maxRecDepth 100000 in
theorem spec_l3copy.calls (a0_0 : Int) (a0_1 : Int) (a0_2 : Nat) (A0_3 : Option Addr) (c0_3 : Nat) (l0_3 : List Int) (r1 : Int) (r2 : Int) (r3 : Nat) (r4 : List Int) (w : World) (hr0_3 : Kd.C (Kd.int .u8) w A0_3 l0_3.length l0_3) (hc0_3 : l0_3.length ≤ c0_3) (h : spec_l3copy.f a0_0 a0_1 a0_2 l0_3 = some (r1, r2, r3, r4)) :
    Calls Try.prog 83 #[.agg #[.int .i64 a0_0, .int .i64 a0_1, .float .f64 a0_2, .slice A0_3 l0_3.length c0_3]] w fun e w' => ∃ v3_ : Value, e = .returned (.agg #[.int .i64 r1, .int .i64 r2, .float .f64 r3, v3_]) ∧ Kd.R (Kd.int .u8) 5 w' w.heap.size (fun _ => True) v3_ r4 ∧ Below w.heap.size w w' := by
  have hu72 := Try.underlying72
  have HR0_3 := ZA hr0_3
  have HC0_3 := ZA hc0_3
  clear hr0_3 hc0_3
  have HB := ZA (Below.refl w.heap.size w)
  have H := h
  clear h
  unfold spec_l3copy.f at H
  obtain ⟨y312, hy312⟩ : ∃ y_ : List Int, y_ = (([] : List Int)) := ⟨_, rfl⟩
  replace H : (if y312.length + l0_3.length < 140737488355328 then (some (a0_0, a0_1, a0_2, (y312 ++ l0_3))) else (none)) = some (r1, r2, r3, r4) := by first | (rw [hy312]; with_reducible exact H) | (have H2_ := (Option.bind_some _ _).symm.trans H; rw [hy312]; with_reducible exact H2_) | (have H2_ := (Option.bind_some _ _).symm.trans H; with_reducible exact H2_) | with_reducible exact H | (rw [hy312]; exact H) | exact H
  have Ny312 := ZA hy312
  clear hy312
  by_cases c2 : y312.length + l0_3.length < 140737488355328
  · rw [if_pos c2] at H
    have LMc2 := ZA c2
    clear c2
    obtain ⟨y315, hy315⟩ : ∃ y_ : List Int, y_ = (y312 ++ l0_3) := ⟨_, rfl⟩
    replace H : (some (a0_0, a0_1, a0_2, y315)) = some (r1, r2, r3, r4) := by first | (rw [hy315]; with_reducible exact H) | (have H2_ := (Option.bind_some _ _).symm.trans H; rw [hy315]; with_reducible exact H2_) | (have H2_ := (Option.bind_some _ _).symm.trans H; with_reducible exact H2_) | with_reducible exact H | (rw [hy315]; exact H) | exact H
    have Ny315 := ZA hy315
    clear hy315
    simp only [Option.some.injEq, Prod.mk.injEq] at H
    obtain ⟨rfl, rfl, rfl, rfl⟩ := H
    go_enter Try.func83, Try.ntmps83
    go_wp2_with (first | ((with_reducible refine gate_dst (N := 1) rfl ?_); refine box_event ?hg (N := 1) ?hd (cs := #[.int .i64 a0_0, .int .i64 a0_1, .float .f64 a0_2, .slice A0_3 l0_3.length c0_3]) (t := 72) ?hr ?_; (case hd => rfl); (case hg => rfl); (case hr => first | (go_simp; done) | (go_simp; rfl)); intro gb310 hg w3 hbox hb; have n0_ := ZA (below_step (hup HB.out) hb); have n1_ := ZA (hbox); have n2_ := Geq.mk ((Z28 : w.heap.size ≤ gb310)); have n3_ := Geq.mk ((Z28 : w.heap.size ≤ gb310)); clear HB; have HB := n0_; have BK310 := n1_; have GW310 := n2_; have GE310 := n3_; clear n0_ n1_ n2_ n3_ hb hbox hg) | ((with_reducible refine gate_dst (N := 2) rfl ?_); refine box_event ?hg (N := 2) ?hd (cs := #[.int .i64 0, .int .i64 0, .float .f64 0, .slice none 0 0]) (t := 72) ?hr ?_; (case hd => rfl); (case hg => rfl); (case hr => first | (go_simp; done) | (go_simp; rfl)); intro gb311 hg w4 hbox hb; have n0_ := ZA (blk_below (bup BK310.out) hb); have n1_ := ZA (below_step (hset HB.out) hb); have n2_ := ZA (hbox); have n3_ := Geq.mk ((Z34 : w.heap.size ≤ gb311)); have n4_ := Geq.mk ((Z34 : w.heap.size ≤ gb311)); have n5_ := Neq.mk ((by rw [hg]; exact Nat.ne_of_lt (blk_lt (g := gb310) (o := .cells #[.int .i64 a0_0, .int .i64 a0_1, .float .f64 a0_2, .slice A0_3 l0_3.length c0_3] 72 (0, 0)) (bup BK310.out)) : gb310 ≠ gb311)); have n6_ := Neq.mk ((by rw [hg]; exact Nat.ne_of_gt (blk_lt (g := gb310) (o := .cells #[.int .i64 a0_0, .int .i64 a0_1, .float .f64 a0_2, .slice A0_3 l0_3.length c0_3] 72 (0, 0)) (bup BK310.out)) : gb311 ≠ gb310)); clear BK310 HB; have BK310 := n0_; have HB := n1_; have BK311 := n2_; have GW311 := n3_; have GE311 := n4_; have NB310_311 := n5_; have NB311_310 := n6_; clear n0_ n1_ n2_ n3_ n4_ n5_ n6_ hb hbox hg) | ((with_reducible refine gate_dst (N := 3) rfl ?_); refine Kd.R_lit (Kd.int .u8) _ 5 ?hg (N := 3) ?hd (xs := ([] : List Int)) (inner := []) (ok := fun _ => True) (okp := fun _ => True) ?hr ?hp (fun _ hk => hk) trivial (Below.refl _ _) (Nat.le_refl _) Z44 ?_; (case hd => rfl); (case hg => rfl); (case hr => first | (go_simp; done) | (go_simp; rfl)); (case hp => exact (Reps.none _ _)); intro v313 w5 ho6 hb hg_ hnew_; clear hg_ hnew_; (first | rw [← Ny312.out] at ho6 | (simp only [Int.reduceToNat] at ho6; rw [← Ny312.out] at ho6)); have n0_ := ZA (Kd.R_lower ho6 (below_size (hset HB.out))); have n1_ := ZA (blk_below (bup BK310.out) hb); have n2_ := ZA (blk_below (bup BK311.out) hb); have n3_ := ZA (below_step (hset HB.out) hb); clear BK310 BK311 HB; have HO314 := n0_; have BK310 := n1_; have BK311 := n2_; have HB := n3_; clear n0_ n1_ n2_ n3_ hb ho6; have hnb7 := NB310_311.out; have hnc7 := NB311_310.out; obtain ⟨hcz8_0, hcz8_1, hcz8_2, hcz8_3⟩ := blk_cells4 BK310.out; obtain ⟨hfz8_0, hfz8_1, hfz8_2, hfz8_3⟩ := blk_frozens4 BK310.out) | ((with_reducible refine gate_builtin (b := .append) (xs := #[.tmp 3, .tmp 5]) rfl ?_); at_builtin; refine Kd.R_append_rows (Kd.int .u8) (w0 := w) w.heap.size rfl (.tmp 3) (.tmp 5) 36 5 (.int .u8 0) 1 rfl Try.underlying36 info5 rfl Z25 Z8 v313 y312 l0_3 _ _ _ (fun _ => True) (fun _ => False) rfl rfl ?aO ?aR (fun _ _ h => h) (fun _ h => h.elim) ?aF ?aB ?aS ?aL ?_; (case aR => repeat (first | exact (Kd.C_below HR0_3.out HB.out) | (with_reducible refine Kd.C_alloc ?_ _) | (with_reducible refine Kd.C_drewN ?_ _) | (with_reducible refine Kd.C_drew ?_))); (case aB => exact (hset HB.out)); (case aF => exact (fun _ _ => trivial)); (case aO => exact (Kd.rup HO314.out)); (case aS => exact (below_size (hset HB.out))); (case aL => have := LMc2.out; omega); intro v316 w9 ho hb hg hat; rw [← Ny315.out] at ho; have n0_ := ZA (blk_grown (g := gb310) (o := .cells #[.int .i64 a0_0, .int .i64 a0_1, .float .f64 a0_2, .slice A0_3 l0_3.length c0_3] 72 (0, 0)) (bup BK310.out) hg (Kd.R_ne HO314.out BK310.out Z25)); have n1_ := ZA (blk_grown (g := gb311) (o := .cells #[.int .i64 0, .int .i64 0, .float .f64 0, .slice none 0 0] 72 (0, 0)) (bup BK311.out) hg (Kd.R_ne HO314.out BK311.out Z25)); have n2_ := ZA (hb); have n3_ := ZA (ho); clear BK310 BK311 HB HO314; have BK310 := n0_; have BK311 := n1_; have HB := n2_; have HO317 := n3_; clear n0_ n1_ n2_ n3_ ho hb hg hat; obtain ⟨Ao10, co10, eo10⟩ := Kd.R_slice HO317.out; subst eo10; obtain ⟨hcz11_0, hcz11_1, hcz11_2, hcz11_3⟩ := blk_cells4 BK310.out; obtain ⟨hfz11_0, hfz11_1, hfz11_2, hfz11_3⟩ := blk_frozens4 BK310.out; obtain ⟨hcz12_0, hcz12_1, hcz12_2, hcz12_3⟩ := blk_cells4 BK311.out; obtain ⟨hfz12_0, hfz12_1, hfz12_2, hfz12_3⟩ := blk_frozens4 BK311.out))
    refine bodyPost_ret (results_cell_row rfl _ _ gb311 72 #[.int .i64 a0_0, .int .i64 a0_1, .float .f64 a0_2, .slice Ao10 y315.length co10] (0, 0) _ rfl (bput BK311.out) Try.underlying72 rfl Z12) rfl ?_
    exact ⟨_, by first | rfl | (simp [errW_none, errW_some] <;> rfl) | (simp [*, errW_none, errW_some] <;> rfl), by exact Kd.rup (Kd.R_mono (Kd.R_far (p := ⟨gb311, 3, none⟩) (Kd.R_far (p := ⟨gb311, 2, none⟩) (Kd.R_far (p := ⟨gb311, 1, none⟩) (Kd.R_far (p := ⟨gb311, 0, none⟩) (Kd.R_far (p := ⟨gb310, 3, none⟩) (Kd.R_types (Kd.R_types HO317.out BK310.out Z25) BK311.out Z25) (fun _ hk => hk.1.2) (.slice Ao10 y315.length co10)) (fun _ hk => hk.2) (.int .i64 a0_0)) (fun _ hk => hk.2) (.int .i64 a0_1)) (fun _ hk => hk.2) (.float .f64 a0_2)) (fun _ hk => hk.2) (.slice Ao10 y315.length co10)) (fun _ hk => trivial)), hset HB.out⟩
  · rw [if_neg c2] at H
    exact absurd H Z44
theorem spec_l3copy.pass (a0_0 : Int) (a0_1 : Int) (a0_2 : Nat) (l0_3 : List Int) (r1 : Int) (r2 : Int) (r3 : Nat) (r4 : List Int) (hp : a0_2 < 2 ^ 64) (h : spec_l3copy.f a0_0 a0_1 (cn a0_2) l0_3 = some (r1, r2, r3, r4)) : ∃ b, spec_l3copy.f a0_0 a0_1 a0_2 l0_3 = some (r1, r2, b, r4) ∧ cn b = r3 ∧ b < 2 ^ 64 := by
  unfold spec_l3copy.f at h ⊢
  simp only [Option.bind_some] at h ⊢
  split at h
  · rename_i hc
    rw [if_pos hc]
    simp only [Option.some.injEq, Prod.mk.injEq] at h
    obtain ⟨rfl, rfl, rfl, rfl⟩ := h
    exact ⟨a0_2, rfl, rfl, hp⟩
  · cases h
def spec_ItemClean.f (k : Nat) (a0_0 : Int) (a0_1 : Int) (a0_2 : Nat) (l0_3 : List Int) : Option (Int × Int × Nat × List Int) := (spec_ItemOk.f k a0_0 a0_1 a0_2 l0_3).bind fun t320 => (if t320 = true then ((spec_l3copy.f a0_0 a0_1 a0_2 l0_3).bind fun bt321 => (if (feq a0_2 0) = true then (some (bt321.1, bt321.2.1, 0, bt321.2.2.2)) else (some (bt321.1, bt321.2.1, bt321.2.2.1, bt321.2.2.2)))) else (some (0, 0, 0, ([] : List Int))))
theorem spec_ItemClean.mono : ∀ a0 a1 a2 a3 k, LeO (spec_ItemClean.f k a0 a1 a2 a3) (spec_ItemClean.f (k + 1) a0 a1 a2 a3) := by
 intro a0 a1 a2 a3 k
 unfold spec_ItemClean.f
 repeat' with_reducible first | exact spec_ItemOk.mono _ _ _ _ _ | exact LeO.refl _ | exact LeO.none _ | refine LeO.ite ?_ ?_ | refine LeO.bind ?_ (fun _ => ?_)
set_option maxHeartbeats 8000000 in
set_option maxRecDepth 100000 in
theorem spec_ItemClean.calls (k : Nat) (a0_0 : Int) (a0_1 : Int) (a0_2 : Nat) (A0_3 : Option Addr) (c0_3 : Nat) (l0_3 : List Int) (r1 : Int) (r2 : Int) (r3 : Nat) (r4 : List Int) (w : World) (hr0_3 : Kd.C (Kd.int .u8) w A0_3 l0_3.length l0_3) (hc0_3 : l0_3.length ≤ c0_3) (h : spec_ItemClean.f k a0_0 a0_1 a0_2 l0_3 = some (r1, r2, r3, r4)) :
  Calls Try.prog 79 #[.agg #[.int .i64 a0_0, .int .i64 a0_1, .float .f64 a0_2, .slice A0_3 l0_3.length c0_3]] w fun e w' => ∃ v3_ : Value, e = .returned (.agg #[.int .i64 r1, .int .i64 r2, .float .f64 r3, v3_]) ∧ Kd.R (Kd.int .u8) 5 w' w.heap.size (fun _ => True) v3_ r4 ∧ Below w.heap.size w w' := by
 have hu72 := Try.underlying72
 have HR0_3 := ZA hr0_3
 have HC0_3 := ZA hc0_3
 clear hr0_3 hc0_3
 have HB := ZA (Below.refl w.heap.size w)
 have H := h
 clear h
 unfold spec_ItemClean.f at H
 replace H := Option.bind_eq_some_iff.mp H
 obtain ⟨t320, A20, H⟩ := H
 (try dsimp only at H)
 have A2 := ZA A20
 clear A20
 by_cases c3 : t320 = true
 ·subst c3
  rw [if_pos rfl] at H
  (try dsimp only at H)
  replace H := Option.bind_eq_some_iff.mp H
  obtain ⟨⟨t321, t322, t323, t324⟩, A40, H⟩ := H
  (try dsimp only at H)
  have A4 := ZA A40
  clear A40
  by_cases c5 : (feq a0_2 0) = true
  ·rw [if_pos c5] at H
   have c5b0 : (feq a0_2 0) = true := c5
   clear c5
   simp only [Option.some.injEq, Prod.mk.injEq] at H
   obtain ⟨rfl, rfl, rfl, rfl⟩ := H
   have TOP := ZA (Nat.le_refl w.heap.size)
   have OW := ZA (Nat.le_refl w.heap.size)
   go_enter Try.func79, Try.ntmps79
   try go_wp2_with (first | ((with_reducible refine gate_dst (N := 1) rfl ?_); refine box_event ?hg (N := 1) ?hd (cs := #[.int .i64 a0_0, .int .i64 a0_1, .float .f64 a0_2, .slice A0_3 l0_3.length c0_3]) (t := 72) ?hr ?_; (case hd => rfl); (case hg => rfl); (case hr => first | (go_simp; done) | (go_simp; rfl)); intro g3002 hg w3001 hbox hb; have OD3004 := ZA (show w.heap.size ≤ g3002 from by rw [hg]; exact TOP.out); have n0_ := ZA (below_step (hup HB.out) hb); have n1_ := ZA (show g3002 + 1 ≤ w3001.heap.size from blk_lt hbox); (try clear HB TOP); have HB := n0_; have TOP := n1_; clear n0_ n1_; have BK3003 := ZA (show w3001.heap[g3002]? = some (.cells #[.int .i64 a0_0, .int .i64 a0_1, .float .f64 a0_2, .slice A0_3 l0_3.length c0_3] 72 (0, 0)) from hbox); clear hg hb hbox; have OW_ := ZA (And.intro OW.out OD3004.out); clear OW OD3004; have OW := OW_; clear OW_; obtain ⟨hz3005, hz3006, hz3007, hz3008⟩ := blk_cells4 BK3003.out; obtain ⟨hy3009, hy3010, hy3011, hy3012⟩ := blk_frozens4 BK3003.out) | ((with_reducible refine gate_dst (N := 2) rfl ?_); refine box_event ?hg (N := 2) ?hd (cs := #[.int .i64 0, .int .i64 0, .float .f64 0, .slice none 0 0]) (t := 72) ?hr ?_; (case hd => rfl); (case hg => rfl); (case hr => first | (go_simp; done) | (go_simp; rfl)); intro g3014 hg w3013 hbox hb; have OD3016 := ZA (show g3002 + 1 ≤ g3014 from by rw [hg]; exact TOP.out); have n0_ := ZA (blk_below (bup BK3003.out) hb); have n1_ := ZA (below_step (hup HB.out) hb); have n2_ := ZA (show g3014 + 1 ≤ w3013.heap.size from blk_lt hbox); (try clear BK3003 HB TOP); have BK3003 := n0_; have HB := n1_; have TOP := n2_; clear n0_ n1_ n2_; have BK3015 := ZA (show w3013.heap[g3014]? = some (.cells #[.int .i64 0, .int .i64 0, .float .f64 0, .slice none 0 0] 72 (0, 0)) from hbox); clear hg hb hbox; have OW_ := ZA (And.intro OW.out OD3016.out); clear OW OD3016; have OW := OW_; clear OW_; (try clear hz3005 hz3006 hz3007 hz3008 hy3009 hy3010 hy3011 hy3012); obtain ⟨hz3017, hz3018, hz3019, hz3020⟩ := blk_cells4 BK3003.out; obtain ⟨hy3021, hy3022, hy3023, hy3024⟩ := blk_frozens4 BK3003.out; obtain ⟨hz3025, hz3026, hz3027, hz3028⟩ := blk_cells4 BK3015.out; obtain ⟨hy3029, hy3030, hy3031, hy3032⟩ := blk_frozens4 BK3015.out) | ((with_reducible refine gate_callee (f := 75) rfl ?_); refine goesL_ (some 5) rfl rfl Try.func75 Z12 rfl #[.agg #[.int .i64 a0_0, .int .i64 a0_1, .float .f64 a0_2, .slice A0_3 l0_3.length c0_3]] rfl (by (try simp only [List.map_toArray, List.map_cons, List.map_nil]); first | done | rfl | (simp only [List.length_drop, List.length_take]; rfl) | (rw [List.length_drop] <;> rfl)) ?_; (with_reducible refine (spec_ItemOk.calls k a0_0 a0_1 a0_2 _ _ l0_3 true _ ?s1 ?s2 A2.out).mono ?_); (case s1 => exact Kd.C_below HR0_3.out (hup HB.out)); (case s2 => exact HC0_3.out); rintro e w3033 ⟨rfl, hb⟩; refine ⟨_, rfl, ?_⟩; have n0_ := ZA (blk_below (bup BK3003.out) hb); have n1_ := ZA (blk_below (bup BK3015.out) hb); have n2_ := ZA (below_step (hup HB.out) hb); have n3_ := ZA (show g3014 + 1 ≤ w3033.heap.size from Nat.le_trans TOP.out hb.size); (try clear BK3003 BK3015 HB TOP); have BK3003 := n0_; have BK3015 := n1_; have HB := n2_; have TOP := n3_; clear n0_ n1_ n2_ n3_ hb; (try clear hz3017 hz3018 hz3019 hz3020 hy3021 hy3022 hy3023 hy3024 hz3025 hz3026 hz3027 hz3028 hy3029 hy3030 hy3031 hy3032); obtain ⟨hz3034, hz3035, hz3036, hz3037⟩ := blk_cells4 BK3003.out; obtain ⟨hy3038, hy3039, hy3040, hy3041⟩ := blk_frozens4 BK3003.out; obtain ⟨hz3042, hz3043, hz3044, hz3045⟩ := blk_cells4 BK3015.out; obtain ⟨hy3046, hy3047, hy3048, hy3049⟩ := blk_frozens4 BK3015.out) | ((with_reducible refine gate_callee (f := 83) rfl ?_); refine goesL_ (some 9) rfl rfl Try.func83 Z12 rfl #[.agg #[.int .i64 a0_0, .int .i64 a0_1, .float .f64 a0_2, .slice A0_3 l0_3.length c0_3]] rfl (by (try simp only [List.map_toArray, List.map_cons, List.map_nil]); first | done | rfl | (simp only [List.length_drop, List.length_take]; rfl) | (rw [List.length_drop] <;> rfl)) ?_; (with_reducible refine (spec_l3copy.calls a0_0 a0_1 a0_2 _ _ l0_3 t321 t322 t323 t324 _ ?s1 ?s2 A4.out).mono ?_); (case s1 => exact Kd.C_below HR0_3.out (hup HB.out)); (case s2 => exact HC0_3.out); rintro e w3050 ⟨v3_, rfl, ho3051, hb⟩; refine ⟨_, rfl, ?_⟩; obtain ⟨lo3052, hi3053, OD3054_, OD3055_, tp_, F3056_⟩ := Kd.R_born (base := w.heap.size) ho3051 (below_size (hup HB.out)) TOP.out hb.size; clear ho3051; have OD3054 := ZA OD3054_; have OD3055 := ZA OD3055_; clear OD3054_ OD3055_; have F3056 := ZA F3056_; clear F3056_; have n0_ := ZA (blk_below (bup BK3003.out) hb); have n1_ := ZA (blk_below (bup BK3015.out) hb); have n2_ := ZA (below_step (hup HB.out) hb); have n3_ := ZA (show hi3053 ≤ w3050.heap.size from tp_); (try clear BK3003 BK3015 HB TOP); have BK3003 := n0_; have BK3015 := n1_; have HB := n2_; have TOP := n3_; clear n0_ n1_ n2_ n3_ hb tp_; have OW_ := ZA (And.intro OW.out (And.intro OD3054.out OD3055.out)); clear OW OD3054 OD3055; have OW := OW_; clear OW_; obtain ⟨Ao3057, co3058, eo3059⟩ := Kd.R_slice F3056.out; subst eo3059; (try clear hz3034 hz3035 hz3036 hz3037 hy3038 hy3039 hy3040 hy3041 hz3042 hz3043 hz3044 hz3045 hy3046 hy3047 hy3048 hy3049); obtain ⟨hz3060, hz3061, hz3062, hz3063⟩ := blk_cells4 BK3003.out; obtain ⟨hy3064, hy3065, hy3066, hy3067⟩ := blk_frozens4 BK3003.out; obtain ⟨hz3068, hz3069, hz3070, hz3071⟩ := blk_cells4 BK3015.out; obtain ⟨hy3072, hy3073, hy3074, hy3075⟩ := blk_frozens4 BK3015.out) | ((with_reducible refine gate_dst (N := 3) rfl ?_); refine box_event ?hg (N := 3) ?hd (cs := #[.int .i64 0, .int .i64 0, .float .f64 0, .slice none 0 0]) (t := 72) ?hr ?_; (case hd => rfl); (case hg => rfl); (case hr => first | (go_simp; done) | (go_simp; rfl)); intro g3077 hg w3076 hbox hb; have OD3079 := ZA (show hi3053 ≤ g3077 from by rw [hg]; exact TOP.out); have n0_ := ZA (blk_below (bup BK3003.out) hb); have n1_ := ZA (blk_below (bup BK3015.out) hb); have n2_ := ZA (Kd.R_below (Kd.rup F3056.out) hb); have n3_ := ZA (below_step (hup HB.out) hb); have n4_ := ZA (show g3077 + 1 ≤ w3076.heap.size from blk_lt hbox); (try clear BK3003 BK3015 F3056 HB TOP); have BK3003 := n0_; have BK3015 := n1_; have F3056 := n2_; have HB := n3_; have TOP := n4_; clear n0_ n1_ n2_ n3_ n4_; have BK3078 := ZA (show w3076.heap[g3077]? = some (.cells #[.int .i64 0, .int .i64 0, .float .f64 0, .slice none 0 0] 72 (0, 0)) from hbox); clear hg hb hbox; have OW_ := ZA (And.intro OW.out OD3079.out); clear OW OD3079; have OW := OW_; clear OW_; (try clear hz3060 hz3061 hz3062 hz3063 hy3064 hy3065 hy3066 hy3067 hz3068 hz3069 hz3070 hz3071 hy3072 hy3073 hy3074 hy3075); obtain ⟨hz3080, hz3081, hz3082, hz3083⟩ := blk_cells4 BK3003.out; obtain ⟨hy3084, hy3085, hy3086, hy3087⟩ := blk_frozens4 BK3003.out; obtain ⟨hz3088, hz3089, hz3090, hz3091⟩ := blk_cells4 BK3015.out; obtain ⟨hy3092, hy3093, hy3094, hy3095⟩ := blk_frozens4 BK3015.out; obtain ⟨hz3096, hz3097, hz3098, hz3099⟩ := blk_cells4 BK3078.out; obtain ⟨hy3100, hy3101, hy3102, hy3103⟩ := blk_frozens4 BK3078.out) | ((with_reducible refine gate_store (t := 72) (p := 3) rfl ?_); refine store_event (t := 72) (p := 3) (v := ?vo3105) (w1 := ((((w3076.setCell ⟨g3077, 0, none⟩ (.int .i64 t321)).setCell ⟨g3077, 1, none⟩ (.int .i64 t322)).setCell ⟨g3077, 2, none⟩ (.float .f64 t323)).setCell ⟨g3077, 3, none⟩ (.slice Ao3057 t324.length co3058))) ?hg ?ho ?hn ?hr ?_; (case ho => rfl); (case hg => rfl); (case hn => rfl); (case hr => first | (go_simp; done) | (go_simp; rfl)); intro w3104 hw; have n0_ := ZA (show w3104.heap[g3002]? = some (.cells #[.int .i64 a0_0, .int .i64 a0_1, .float .f64 a0_2, .slice A0_3 l0_3.length c0_3] 72 (0, 0)) from by rw [hw]; have ne_ : g3002 ≠ g3077 := Z91; exact blk_far (blk_far (blk_far (blk_far (BK3003.out) ne_ _) ne_ _) ne_ _) ne_ _); have n1_ := ZA (show w3104.heap[g3014]? = some (.cells #[.int .i64 0, .int .i64 0, .float .f64 0, .slice none 0 0] 72 (0, 0)) from by rw [hw]; have ne_ : g3014 ≠ g3077 := Z91; exact blk_far (blk_far (blk_far (blk_far (BK3015.out) ne_ _) ne_ _) ne_ _) ne_ _); have n2_ := ZA (show w3104.heap[g3077]? = some (.cells #[.int .i64 t321, .int .i64 t322, .float .f64 t323, .slice Ao3057 t324.length co3058] 72 (0, 0)) from by rw [hw]; exact blk_put (cs := #[.int .i64 t321, .int .i64 t322, .float .f64 t323, .slice none 0 0]) (blk_put (cs := #[.int .i64 t321, .int .i64 t322, .float .f64 0, .slice none 0 0]) (blk_put (cs := #[.int .i64 t321, .int .i64 0, .float .f64 0, .slice none 0 0]) (blk_put (cs := #[.int .i64 0, .int .i64 0, .float .f64 0, .slice none 0 0]) (BK3078.out) 0 _ rfl) 1 _ rfl) 2 _ rfl) 3 _ rfl); have n3_ := ZA (show Kd.R (Kd.int .u8) 5 w3104 w.heap.size (iv lo3052 hi3053) (.slice Ao3057 t324.length co3058) t324 from by rw [hw]; have ne_ : g3077 < lo3052 ∨ hi3053 ≤ g3077 := Z91; exact Kd.R_ivset (Kd.R_ivset (Kd.R_ivset (Kd.R_ivset (F3056.out) ne_ 0 _) ne_ 1 _) ne_ 2 _) ne_ 3 _); have n4_ := ZA (show Below w.heap.size w w3104 from by rw [hw]; have ge_ : w.heap.size ≤ g3077 := Z91; exact below_set (below_set (below_set (below_set (HB.out) ge_) ge_) ge_) ge_); have n5_ := ZA (show g3077 + 1 ≤ w3104.heap.size from by rw [hw]; simp only [size_set]; exact TOP.out); (try clear BK3003 BK3015 BK3078 F3056 HB TOP); have BK3003 := n0_; have BK3015 := n1_; have BK3078 := n2_; have F3056 := n3_; have HB := n4_; have TOP := n5_; clear n0_ n1_ n2_ n3_ n4_ n5_ hw; (try clear hz3080 hz3081 hz3082 hz3083 hy3084 hy3085 hy3086 hy3087 hz3088 hz3089 hz3090 hz3091 hy3092 hy3093 hy3094 hy3095 hz3096 hz3097 hz3098 hz3099 hy3100 hy3101 hy3102 hy3103); obtain ⟨hz3106, hz3107, hz3108, hz3109⟩ := blk_cells4 BK3003.out; obtain ⟨hy3110, hy3111, hy3112, hy3113⟩ := blk_frozens4 BK3003.out; obtain ⟨hz3114, hz3115, hz3116, hz3117⟩ := blk_cells4 BK3015.out; obtain ⟨hy3118, hy3119, hy3120, hy3121⟩ := blk_frozens4 BK3015.out; obtain ⟨hz3122, hz3123, hz3124, hz3125⟩ := blk_cells4 BK3078.out; obtain ⟨hy3126, hy3127, hy3128, hy3129⟩ := blk_frozens4 BK3078.out) | ((with_reducible refine gate_store (t := 70) (p := 13) rfl ?_); refine store_event (t := 70) (p := 13) (v := ?vo3131) (w1 := (w3104.setCell ⟨g3077, 2, none⟩ (.float .f64 0))) ?hg ?ho ?hn ?hr ?_; (case ho => rfl); (case hg => rfl); (case hn => rfl); (case hr => first | (go_simp; done) | (go_simp; rfl)); intro w3130 hw; have n0_ := ZA (show w3130.heap[g3002]? = some (.cells #[.int .i64 a0_0, .int .i64 a0_1, .float .f64 a0_2, .slice A0_3 l0_3.length c0_3] 72 (0, 0)) from by rw [hw]; have ne_ : g3002 ≠ g3077 := Z91; exact blk_far (BK3003.out) ne_ _); have n1_ := ZA (show w3130.heap[g3014]? = some (.cells #[.int .i64 0, .int .i64 0, .float .f64 0, .slice none 0 0] 72 (0, 0)) from by rw [hw]; have ne_ : g3014 ≠ g3077 := Z91; exact blk_far (BK3015.out) ne_ _); have n2_ := ZA (show w3130.heap[g3077]? = some (.cells #[.int .i64 t321, .int .i64 t322, .float .f64 0, .slice Ao3057 t324.length co3058] 72 (0, 0)) from by rw [hw]; exact blk_put (cs := #[.int .i64 t321, .int .i64 t322, .float .f64 t323, .slice Ao3057 t324.length co3058]) (BK3078.out) 2 _ rfl); have n3_ := ZA (show Kd.R (Kd.int .u8) 5 w3130 w.heap.size (iv lo3052 hi3053) (.slice Ao3057 t324.length co3058) t324 from by rw [hw]; have ne_ : g3077 < lo3052 ∨ hi3053 ≤ g3077 := Z91; exact Kd.R_ivset (F3056.out) ne_ 2 _); have n4_ := ZA (show Below w.heap.size w w3130 from by rw [hw]; have ge_ : w.heap.size ≤ g3077 := Z91; exact below_set (HB.out) ge_); have n5_ := ZA (show g3077 + 1 ≤ w3130.heap.size from by rw [hw]; simp only [size_set]; exact TOP.out); (try clear BK3003 BK3015 BK3078 F3056 HB TOP); have BK3003 := n0_; have BK3015 := n1_; have BK3078 := n2_; have F3056 := n3_; have HB := n4_; have TOP := n5_; clear n0_ n1_ n2_ n3_ n4_ n5_ hw; (try clear hz3106 hz3107 hz3108 hz3109 hy3110 hy3111 hy3112 hy3113 hz3114 hz3115 hz3116 hz3117 hy3118 hy3119 hy3120 hy3121 hz3122 hz3123 hz3124 hz3125 hy3126 hy3127 hy3128 hy3129); obtain ⟨hz3132, hz3133, hz3134, hz3135⟩ := blk_cells4 BK3015.out; obtain ⟨hy3136, hy3137, hy3138, hy3139⟩ := blk_frozens4 BK3015.out; obtain ⟨hz3140, hz3141, hz3142, hz3143⟩ := blk_cells4 BK3078.out; obtain ⟨hy3144, hy3145, hy3146, hy3147⟩ := blk_frozens4 BK3078.out) | ((with_reducible refine gate_store (t := 72) (p := 2) rfl ?_); refine store_event (t := 72) (p := 2) (v := ?vo3149) (w1 := ((((w3130.setCell ⟨g3014, 0, none⟩ (.int .i64 t321)).setCell ⟨g3014, 1, none⟩ (.int .i64 t322)).setCell ⟨g3014, 2, none⟩ (.float .f64 0)).setCell ⟨g3014, 3, none⟩ (.slice Ao3057 t324.length co3058))) ?hg ?ho ?hn ?hr ?_; (case ho => rfl); (case hg => rfl); (case hn => rfl); (case hr => first | (go_simp; done) | (go_simp; rfl)); intro w3148 hw; have n0_ := ZA (show w3148.heap[g3002]? = some (.cells #[.int .i64 a0_0, .int .i64 a0_1, .float .f64 a0_2, .slice A0_3 l0_3.length c0_3] 72 (0, 0)) from by rw [hw]; have ne_ : g3002 ≠ g3014 := Z91; exact blk_far (blk_far (blk_far (blk_far (BK3003.out) ne_ _) ne_ _) ne_ _) ne_ _); have n1_ := ZA (show w3148.heap[g3014]? = some (.cells #[.int .i64 t321, .int .i64 t322, .float .f64 0, .slice Ao3057 t324.length co3058] 72 (0, 0)) from by rw [hw]; exact blk_put (cs := #[.int .i64 t321, .int .i64 t322, .float .f64 0, .slice none 0 0]) (blk_put (cs := #[.int .i64 t321, .int .i64 t322, .float .f64 0, .slice none 0 0]) (blk_put (cs := #[.int .i64 t321, .int .i64 0, .float .f64 0, .slice none 0 0]) (blk_put (cs := #[.int .i64 0, .int .i64 0, .float .f64 0, .slice none 0 0]) (BK3015.out) 0 _ rfl) 1 _ rfl) 2 _ rfl) 3 _ rfl); have n2_ := ZA (show w3148.heap[g3077]? = some (.cells #[.int .i64 t321, .int .i64 t322, .float .f64 0, .slice Ao3057 t324.length co3058] 72 (0, 0)) from by rw [hw]; have ne_ : g3077 ≠ g3014 := Z91; exact blk_far (blk_far (blk_far (blk_far (BK3078.out) ne_ _) ne_ _) ne_ _) ne_ _); have n3_ := ZA (show Kd.R (Kd.int .u8) 5 w3148 w.heap.size (iv lo3052 hi3053) (.slice Ao3057 t324.length co3058) t324 from by rw [hw]; have ne_ : g3014 < lo3052 ∨ hi3053 ≤ g3014 := Z91; exact Kd.R_ivset (Kd.R_ivset (Kd.R_ivset (Kd.R_ivset (F3056.out) ne_ 0 _) ne_ 1 _) ne_ 2 _) ne_ 3 _); have n4_ := ZA (show Below w.heap.size w w3148 from by rw [hw]; have ge_ : w.heap.size ≤ g3014 := Z91; exact below_set (below_set (below_set (below_set (HB.out) ge_) ge_) ge_) ge_); have n5_ := ZA (show g3077 + 1 ≤ w3148.heap.size from by rw [hw]; simp only [size_set]; exact TOP.out); (try clear BK3003 BK3015 BK3078 F3056 HB TOP); have BK3003 := n0_; have BK3015 := n1_; have BK3078 := n2_; have F3056 := n3_; have HB := n4_; have TOP := n5_; clear n0_ n1_ n2_ n3_ n4_ n5_ hw; (try clear hz3132 hz3133 hz3134 hz3135 hy3136 hy3137 hy3138 hy3139 hz3140 hz3141 hz3142 hz3143 hy3144 hy3145 hy3146 hy3147)))
   refine bodyPost_ret (results_cell_row rfl _ _ g3014 72 #[.int .i64 t321, .int .i64 t322, .float .f64 0, .slice Ao3057 t324.length co3058] (0, 0) _ rfl (by exact BK3015.out) Try.underlying72 rfl Z12) rfl ?_
   exact ⟨_, by first | rfl | (simp; done) | (simp [*]; done), Kd.R_mono F3056.out (fun _ hk => trivial), HB.out⟩
  ·rw [if_neg c5] at H
   have c5b0 : (feq a0_2 0) = false := by simpa using c5
   clear c5
   simp only [Option.some.injEq, Prod.mk.injEq] at H
   obtain ⟨rfl, rfl, rfl, rfl⟩ := H
   go_enter Try.func79, Try.ntmps79
   go_wp2_with (first | ((with_reducible refine gate_dst (N := 1) rfl ?_); refine box_event ?hg (N := 1) ?hd (cs := #[.int .i64 a0_0, .int .i64 a0_1, .float .f64 a0_2, .slice A0_3 l0_3.length c0_3]) (t := 72) ?hr ?_; (case hd => rfl); (case hg => rfl); (case hr => first | (go_simp; done) | (go_simp; rfl)); intro gb318 hg w20 hbox hb; have n0_ := ZA (below_step (hup HB.out) hb); have n1_ := ZA (hbox); have n2_ := Geq.mk ((Z28 : w.heap.size ≤ gb318)); have n3_ := Geq.mk ((Z28 : w.heap.size ≤ gb318)); clear HB; have HB := n0_; have BK318 := n1_; have GW318 := n2_; have GE318 := n3_; clear n0_ n1_ n2_ n3_ hb hbox hg) | ((with_reducible refine gate_dst (N := 2) rfl ?_); refine box_event ?hg (N := 2) ?hd (cs := #[.int .i64 0, .int .i64 0, .float .f64 0, .slice none 0 0]) (t := 72) ?hr ?_; (case hd => rfl); (case hg => rfl); (case hr => first | (go_simp; done) | (go_simp; rfl)); intro gb319 hg w21 hbox hb; have n0_ := ZA (blk_below (bup BK318.out) hb); have n1_ := ZA (below_step (hset HB.out) hb); have n2_ := ZA (hbox); have n3_ := Geq.mk ((Z34 : w.heap.size ≤ gb319)); have n4_ := Geq.mk ((Z34 : w.heap.size ≤ gb319)); have n5_ := Neq.mk ((Z84 : gb318 ≠ gb319)); have n6_ := Neq.mk ((Z85 : gb319 ≠ gb318)); clear BK318 HB; have BK318 := n0_; have HB := n1_; have BK319 := n2_; have GW319 := n3_; have GE319 := n4_; have NB318_319 := n5_; have NB319_318 := n6_; clear n0_ n1_ n2_ n3_ n4_ n5_ n6_ hb hbox hg; have hnb22 := NB318_319.out; have hnc22 := NB319_318.out; obtain ⟨hcz23_0, hcz23_1, hcz23_2, hcz23_3⟩ := blk_cells4 BK318.out; obtain ⟨hfz23_0, hfz23_1, hfz23_2, hfz23_3⟩ := blk_frozens4 BK318.out) | ((with_reducible refine gate_callee (f := 75) rfl ?_); refine goesL_ (some 5) rfl rfl Try.func75 Z12 rfl #[.agg #[.int .i64 a0_0, .int .i64 a0_1, .float .f64 a0_2, .slice A0_3 l0_3.length c0_3]] rfl Z1 ?_; (with_reducible refine (spec_ItemOk.calls k a0_0 a0_1 a0_2 _ _ l0_3 true _ ?side1 ?side2 A2.out).mono ?_); (case side1 => repeat (first | exact (Kd.C_below HR0_3.out HB.out) | (with_reducible refine Kd.C_alloc ?_ _) | (with_reducible refine Kd.C_drewN ?_ _) | (with_reducible refine Kd.C_drew ?_))); (case side2 => exact HC0_3.out); rintro e w24 ⟨rfl, hb⟩; refine ⟨_, rfl, ?_⟩; have n0_ := ZA (blk_below (bup BK318.out) hb); have n1_ := ZA (blk_below (bup BK319.out) hb); have n2_ := ZA (below_step (hset HB.out) hb); clear BK318 BK319 HB; have BK318 := n0_; have BK319 := n1_; have HB := n2_; clear n0_ n1_ n2_; (try clear hb); (try clear hb2); (try clear hk); (try clear hi); obtain ⟨hcz25_0, hcz25_1, hcz25_2, hcz25_3⟩ := blk_cells4 BK318.out; obtain ⟨hfz25_0, hfz25_1, hfz25_2, hfz25_3⟩ := blk_frozens4 BK318.out) | ((with_reducible refine gate_callee (f := 83) rfl ?_); refine goesL_ (some 9) rfl rfl Try.func83 Z12 rfl #[.agg #[.int .i64 a0_0, .int .i64 a0_1, .float .f64 a0_2, .slice A0_3 l0_3.length c0_3]] rfl Z1 ?_; (with_reducible refine (spec_l3copy.calls a0_0 a0_1 a0_2 _ _ l0_3 t321 t322 t323 t324 _ ?side1 ?side2 A4.out).mono ?_); (case side1 => repeat (first | exact (Kd.C_below HR0_3.out HB.out) | (with_reducible refine Kd.C_alloc ?_ _) | (with_reducible refine Kd.C_drewN ?_ _) | (with_reducible refine Kd.C_drew ?_))); (case side2 => exact HC0_3.out); rintro e w26 ⟨v325, rfl, ho0, hb⟩; refine ⟨_, rfl, ?_⟩; have n0_ := ZA (Kd.R_lower ho0 (below_size (hset HB.out))); have n1_ := ZA (blk_below (bup BK318.out) hb); have n2_ := ZA (blk_below (bup BK319.out) hb); have n3_ := ZA (below_step (hset HB.out) hb); clear BK318 BK319 HB; have HO326 := n0_; have BK318 := n1_; have BK319 := n2_; have HB := n3_; clear n0_ n1_ n2_ n3_; (try clear hb); (try clear hb2); (try clear hk); (try clear hi); (try clear ho0)) | ((with_reducible refine gate_dst (N := 3) rfl ?_); refine box_event ?hg (N := 3) ?hd (cs := #[.int .i64 0, .int .i64 0, .float .f64 0, .slice none 0 0]) (t := 72) ?hr ?_; (case hd => rfl); (case hg => rfl); (case hr => first | (go_simp; done) | (go_simp; rfl)); intro gb327 hg w27 hbox hb; have n0_ := ZA (Kd.R_below (Kd.rup HO326.out) hb); have n1_ := ZA (blk_below (bup BK318.out) hb); have n2_ := ZA (blk_below (bup BK319.out) hb); have n3_ := ZA (below_step (hset HB.out) hb); have n4_ := ZA (hbox); have n5_ := Geq.mk ((Z34 : w.heap.size ≤ gb327)); have n6_ := Geq.mk ((Z34 : w.heap.size ≤ gb327)); have n7_ := Neq.mk ((Z84 : gb318 ≠ gb327)); have n8_ := Neq.mk ((Z85 : gb327 ≠ gb318)); have n9_ := Neq.mk ((by rw [hg]; exact Nat.ne_of_lt (blk_lt (g := gb319) (o := .cells #[.int .i64 0, .int .i64 0, .float .f64 0, .slice none 0 0] 72 (0, 0)) (bup BK319.out)) : gb319 ≠ gb327)); have n10_ := Neq.mk ((by rw [hg]; exact Nat.ne_of_gt (blk_lt (g := gb319) (o := .cells #[.int .i64 0, .int .i64 0, .float .f64 0, .slice none 0 0] 72 (0, 0)) (bup BK319.out)) : gb327 ≠ gb319)); clear HO326 BK318 BK319 HB; have HO326 := n0_; have BK318 := n1_; have BK319 := n2_; have HB := n3_; have BK327 := n4_; have GW327 := n5_; have GE327 := n6_; have NB318_327 := n7_; have NB327_318 := n8_; have NB319_327 := n9_; have NB327_319 := n10_; clear n0_ n1_ n2_ n3_ n4_ n5_ n6_ n7_ n8_ n9_ n10_ hb hbox hg; have hnb28 := NB327_318.out; have hnc28 := NB318_327.out; have hnb29 := NB327_319.out; have hnc29 := NB319_327.out; obtain ⟨hcz30_0, hcz30_1, hcz30_2, hcz30_3⟩ := blk_cells4 BK327.out; obtain ⟨hfz30_0, hfz30_1, hfz30_2, hfz30_3⟩ := blk_frozens4 BK327.out; obtain ⟨Ao31, co31, eo31⟩ := Kd.R_slice HO326.out; subst eo31; obtain ⟨hcz32_0, hcz32_1, hcz32_2, hcz32_3⟩ := blk_cells4 BK318.out; obtain ⟨hfz32_0, hfz32_1, hfz32_2, hfz32_3⟩ := blk_frozens4 BK318.out; obtain ⟨hcz33_0, hcz33_1, hcz33_2, hcz33_3⟩ := blk_cells4 BK319.out; obtain ⟨hfz33_0, hfz33_1, hfz33_2, hfz33_3⟩ := blk_frozens4 BK319.out))
   refine bodyPost_ret (results_cell_row rfl _ _ gb319 72 #[.int .i64 t321, .int .i64 t322, .float .f64 t323, .slice Ao31 t324.length co31] (0, 0) _ rfl (bput BK319.out) Try.underlying72 rfl Z12) rfl ?_
   exact ⟨_, by first | rfl | (simp [errW_none, errW_some] <;> rfl) | (simp [*, errW_none, errW_some] <;> rfl), by exact Kd.rup (Kd.R_mono (Kd.R_far (p := ⟨gb319, 3, none⟩) (Kd.R_far (p := ⟨gb319, 2, none⟩) (Kd.R_far (p := ⟨gb319, 1, none⟩) (Kd.R_far (p := ⟨gb319, 0, none⟩) (Kd.R_far (p := ⟨gb327, 3, none⟩) (Kd.R_far (p := ⟨gb327, 2, none⟩) (Kd.R_far (p := ⟨gb327, 1, none⟩) (Kd.R_far (p := ⟨gb327, 0, none⟩) (Kd.R_types (Kd.R_types HO326.out BK327.out Z25) BK319.out Z25) (fun _ hk => hk.1.2) (.int .i64 t321)) (fun _ hk => hk.1.2) (.int .i64 t322)) (fun _ hk => hk.1.2) (.float .f64 t323)) (fun _ hk => hk.1.2) (.slice Ao31 t324.length co31)) (fun _ hk => hk.2) (.int .i64 t321)) (fun _ hk => hk.2) (.int .i64 t322)) (fun _ hk => hk.2) (.float .f64 t323)) (fun _ hk => hk.2) (.slice Ao31 t324.length co31)) (fun _ hk => trivial)), hset HB.out⟩
 ·replace c3 := Bool.eq_false_iff.mpr c3
  subst c3
  rw [if_neg (show ¬ (false = true) by decide)] at H
  (try dsimp only at H)
  simp only [Option.some.injEq, Prod.mk.injEq] at H
  obtain ⟨rfl, rfl, rfl, rfl⟩ := H
  go_enter Try.func79, Try.ntmps79
  go_wp2_with (first | ((with_reducible refine gate_dst (N := 1) rfl ?_); refine box_event ?hg (N := 1) ?hd (cs := #[.int .i64 a0_0, .int .i64 a0_1, .float .f64 a0_2, .slice A0_3 l0_3.length c0_3]) (t := 72) ?hr ?_; (case hd => rfl); (case hg => rfl); (case hr => first | (go_simp; done) | (go_simp; rfl)); intro gb318 hg w34 hbox hb; have n0_ := ZA (below_step (hup HB.out) hb); have n1_ := ZA (hbox); have n2_ := Geq.mk ((Z28 : w.heap.size ≤ gb318)); have n3_ := Geq.mk ((Z28 : w.heap.size ≤ gb318)); clear HB; have HB := n0_; have BK318 := n1_; have GW318 := n2_; have GE318 := n3_; clear n0_ n1_ n2_ n3_ hb hbox hg) | ((with_reducible refine gate_dst (N := 2) rfl ?_); refine box_event ?hg (N := 2) ?hd (cs := #[.int .i64 0, .int .i64 0, .float .f64 0, .slice none 0 0]) (t := 72) ?hr ?_; (case hd => rfl); (case hg => rfl); (case hr => first | (go_simp; done) | (go_simp; rfl)); intro gb319 hg w35 hbox hb; have n0_ := ZA (blk_below (bup BK318.out) hb); have n1_ := ZA (below_step (hset HB.out) hb); have n2_ := ZA (hbox); have n3_ := Geq.mk ((Z34 : w.heap.size ≤ gb319)); have n4_ := Geq.mk ((Z34 : w.heap.size ≤ gb319)); have n5_ := Neq.mk ((Z84 : gb318 ≠ gb319)); have n6_ := Neq.mk ((Z85 : gb319 ≠ gb318)); clear BK318 HB; have BK318 := n0_; have HB := n1_; have BK319 := n2_; have GW319 := n3_; have GE319 := n4_; have NB318_319 := n5_; have NB319_318 := n6_; clear n0_ n1_ n2_ n3_ n4_ n5_ n6_ hb hbox hg; have hnb36 := NB318_319.out; have hnc36 := NB319_318.out; obtain ⟨hcz37_0, hcz37_1, hcz37_2, hcz37_3⟩ := blk_cells4 BK318.out; obtain ⟨hfz37_0, hfz37_1, hfz37_2, hfz37_3⟩ := blk_frozens4 BK318.out) | ((with_reducible refine gate_callee (f := 75) rfl ?_); refine goesL_ (some 5) rfl rfl Try.func75 Z12 rfl #[.agg #[.int .i64 a0_0, .int .i64 a0_1, .float .f64 a0_2, .slice A0_3 l0_3.length c0_3]] rfl Z1 ?_; (with_reducible refine (spec_ItemOk.calls k a0_0 a0_1 a0_2 _ _ l0_3 false _ ?side1 ?side2 A2.out).mono ?_); (case side1 => repeat (first | exact (Kd.C_below HR0_3.out HB.out) | (with_reducible refine Kd.C_alloc ?_ _) | (with_reducible refine Kd.C_drewN ?_ _) | (with_reducible refine Kd.C_drew ?_))); (case side2 => exact HC0_3.out); rintro e w38 ⟨rfl, hb⟩; refine ⟨_, rfl, ?_⟩; have n0_ := ZA (blk_below (bup BK318.out) hb); have n1_ := ZA (blk_below (bup BK319.out) hb); have n2_ := ZA (below_step (hset HB.out) hb); clear BK318 BK319 HB; have BK318 := n0_; have BK319 := n1_; have HB := n2_; clear n0_ n1_ n2_; (try clear hb); (try clear hb2); (try clear hk); (try clear hi); obtain ⟨hcz39_0, hcz39_1, hcz39_2, hcz39_3⟩ := blk_cells4 BK319.out; obtain ⟨hfz39_0, hfz39_1, hfz39_2, hfz39_3⟩ := blk_frozens4 BK319.out))
  refine bodyPost_ret (results_cell_row rfl _ _ gb319 72 #[.int .i64 0, .int .i64 0, .float .f64 0, .slice none 0 0] (0, 0) _ rfl (bput BK319.out) Try.underlying72 rfl Z12) rfl ?_
  exact ⟨_, by first | rfl | (simp [errW_none, errW_some] <;> rfl) | (simp [*, errW_none, errW_some] <;> rfl), by first | exact Kd.R_nil _ _ _ _ _ | exact Kd.N_nil _ _ _ _ _ | exact Kd.V_nil _ _ _ _ _ | exact Kd.Q_nil _ _ _ _ _ | exact Kd.S_nil _ _ _ _ _, hset HB.out⟩
theorem spec_ItemClean.pass (k : Nat) (a0_0 : Int) (a0_1 : Int) (a0_2 : Nat) (l0_3 : List Int) (r1 : Int) (r2 : Int) (r3 : Nat) (r4 : List Int) (hp : a0_2 < 2 ^ 64) (h : spec_ItemClean.f k a0_0 a0_1 (cn a0_2) l0_3 = some (r1, r2, r3, r4)) : ∃ b, spec_ItemClean.f k a0_0 a0_1 a0_2 l0_3 = some (r1, r2, b, r4) ∧ cn b = r3 ∧ b < 2 ^ 64 := by
  have z_ : cn 0 = 0 := cn_num (fun h => absurd h.2 Z25)
  unfold spec_ItemClean.f at h ⊢
  obtain ⟨t, ht, h⟩ := Option.bind_eq_some_iff.mp h
  rw [spec_ItemOk.inv0] at ht
  rw [ht, Option.bind_some]
  by_cases c : t = true
  · rw [if_pos c] at h ⊢
    obtain ⟨⟨q1, q2, q3, q4⟩, hq, h⟩ := Option.bind_eq_some_iff.mp h
    obtain ⟨b, e1, e2, e3⟩ := spec_l3copy.pass a0_0 a0_1 a0_2 l0_3 q1 q2 q3 q4 hp hq
    rw [e1, Option.bind_some]
    rw [feq_cn_l] at h
    by_cases c2 : feq a0_2 0 = true
    · rw [if_pos c2] at h ⊢
      simp only [Option.some.injEq, Prod.mk.injEq] at h
      obtain ⟨rfl, rfl, rfl, rfl⟩ := h
      exact ⟨0, rfl, z_, by decide⟩
    · rw [if_neg c2] at h ⊢
      simp only [Option.some.injEq, Prod.mk.injEq] at h
      obtain ⟨rfl, rfl, rfl, rfl⟩ := h
      exact ⟨b, rfl, e2, e3⟩
  · rw [if_neg c] at h ⊢
    simp only [Option.some.injEq, Prod.mk.injEq] at h
    obtain ⟨rfl, rfl, rfl, rfl⟩ := h
    exact ⟨0, rfl, z_, by decide⟩
theorem spec_ItemClean.callsC (k : Nat) (a0_0 : Int) (a0_1 : Int) (a0_2 : Nat) (A0_3 : Option Addr) (c0_3 : Nat) (l0_3 : List Int) (r1 : Int) (r2 : Int) (r3 : Nat) (r4 : List Int) (w : World) (hr0_3 : Kd.C (Kd.int .u8) w A0_3 l0_3.length l0_3) (hc0_3 : l0_3.length ≤ c0_3) (hp : a0_2 < 2 ^ 64) (h : spec_ItemClean.f k a0_0 a0_1 (cn a0_2) l0_3 = some (r1, r2, r3, r4)) :
  Calls Try.prog 79 #[.agg #[.int .i64 a0_0, .int .i64 a0_1, .float .f64 a0_2, .slice A0_3 l0_3.length c0_3]] w fun e w' => ∃ b1_ : Nat, ∃ v3_ : Value, e = .returned (.agg #[.int .i64 r1, .int .i64 r2, .float .f64 b1_, v3_]) ∧ Kd.R (Kd.int .u8) 5 w' w.heap.size (fun _ => True) v3_ r4 ∧ Below w.heap.size w w' ∧ Aside0 (cn b1_ = r3 ∧ b1_ < 2 ^ 64) := by
  obtain ⟨b, hb1, hb2, hb3⟩ := spec_ItemClean.pass k a0_0 a0_1 a0_2 l0_3 r1 r2 r3 r4 hp h
  refine (spec_ItemClean.calls k a0_0 a0_1 a0_2 A0_3 c0_3 l0_3 r1 r2 b r4 w hr0_3 hc0_3 hb1).mono ?_
  rintro e w1 ⟨v3_, p0, p1, p2⟩
  exact ⟨b, v3_, p0, p1, p2, ⟨⟨hb2, hb3⟩⟩⟩
end Go.Proofs.Ytokpniagnbaflaa.PFnPlaces
