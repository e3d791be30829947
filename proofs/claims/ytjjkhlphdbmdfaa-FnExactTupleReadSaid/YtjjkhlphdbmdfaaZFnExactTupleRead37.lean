import Derived.Test.YtjjkhlphdbmdfaaZFnExactTupleRead30
import Derived.Test.YtjjkhlphdbmdfaaZFnExactTupleRead33
import Derived.Test.YtjjkhlphdbmdfaaZFnExactTupleRead35
import Derived.Test.YtjjkhlphdbmdfaaZFnExactTupleRead36
namespace Go.Proofs.Ytjjkhlphdbmdfaa.PFnExactTupleRead
open Go.RowKit Go.Proofs.YtjjkhlphdbmdfaaW.PrintWords Go.Proofs.YtjjkhlphdbmdfaaW.PrintLast Go.Proofs.YtjjkhlphdbmdfaaW.PrintMore
attribute [local go_sem] max2_int min2_int max_two min_two max_three min_three max_four min_four   -- for this text's walks alone
attribute [local go_sem high] fl_eql fl_neq fl_lss fl_leq fl_gtr fl_geq fl_add fl_sub fl_mul fl_quo fl_neg fl_ofInt fl_toInt fl_store sub_sign ext_bits ext_from fl_nan_quo fl_nan_add fl_nan_mul fl_nan_sub
open Go.Proofs.YtjjkhlphdbmdfaaW.PrintWords renaming below_alloc → h1, pw_below_drewN → h2, below_drew1 → h3, below_set → h4, blk_drewN → b1, blk_drew → b2, blk_alloc → b3
set_option linter.unusedVariables false
set_option linter.unusedSimpArgs false
def spec_TupleOk.f (k : Nat) (a0_0 : Int) (a0_1 : Int) (a0_2 : Int) (a0_3 : Int) (a0_4 : Nat) (l0_5 : List Int) (a0_6 : Int) (a0_7 : Int) (a0_8 : Nat) (l0_9 : List Int) : Option (Bool) := (spec_l5in.f a0_0 1 400).bind fun t224 => (if t224 = true then ((spec_l5in.f a0_1 0 400).bind fun t225 => (if t225 = true then ((spec_KeyOk.f k a0_2 a0_3 a0_4 l0_5).bind fun t226 => (if t226 = true then ((spec_ItemOk.f k a0_6 a0_7 a0_8 l0_9).bind fun t227 => (if t227 = true then (some (a0_6 != 0)) else (some false))) else (some false))) else (some false))) else (some false))
theorem spec_TupleOk.mono : ∀ a0 a1 a2 a3 a4 a5 a6 a7 a8 a9 k, LeO (spec_TupleOk.f k a0 a1 a2 a3 a4 a5 a6 a7 a8 a9) (spec_TupleOk.f (k + 1) a0 a1 a2 a3 a4 a5 a6 a7 a8 a9) := by
 intro a0 a1 a2 a3 a4 a5 a6 a7 a8 a9 k
 unfold spec_TupleOk.f
 repeat' with_reducible first | exact spec_ItemOk.mono _ _ _ _ _ | exact spec_KeyOk.mono _ _ _ _ _ | exact LeO.refl _ | exact LeO.none _ | refine LeO.ite ?_ ?_ | refine LeO.bind ?_ (fun _ => ?_)
set_option maxHeartbeats 8000000 in
set_option maxRecDepth 100000 in
theorem spec_TupleOk.calls (k : Nat) (a0_0 : Int) (a0_1 : Int) (a0_2 : Int) (a0_3 : Int) (a0_4 : Nat) (A0_5 : Option Addr) (c0_5 : Nat) (l0_5 : List Int) (a0_6 : Int) (a0_7 : Int) (a0_8 : Nat) (A0_9 : Option Addr) (c0_9 : Nat) (l0_9 : List Int) (r : Bool) (w : World) (hr0_5 : Kd.C (Kd.int .u8) w A0_5 l0_5.length l0_5) (hc0_5 : l0_5.length ≤ c0_5) (hr0_9 : Kd.C (Kd.int .u8) w A0_9 l0_9.length l0_9) (hc0_9 : l0_9.length ≤ c0_9) (h : spec_TupleOk.f k a0_0 a0_1 a0_2 a0_3 a0_4 l0_5 a0_6 a0_7 a0_8 l0_9 = some r) :
  Calls Try.prog 42 #[.agg #[.int .i64 a0_0, .int .i64 a0_1, .int .i64 a0_2, .int .i64 a0_3, .float .f64 a0_4, .slice A0_5 l0_5.length c0_5, .int .i64 a0_6, .int .i64 a0_7, .float .f64 a0_8, .slice A0_9 l0_9.length c0_9]] w fun e w' => e = .returned (.bool r) ∧ Below w.heap.size w w' := by
 have hu49 := Try.underlying49
 have hu25 := Try.underlying25
 have HR0_5 := Aside0.mk hr0_5
 have HC0_5 := Aside0.mk hc0_5
 clear hr0_5 hc0_5
 have HR0_9 := Aside0.mk hr0_9
 have HC0_9 := Aside0.mk hc0_9
 clear hr0_9 hc0_9
 have HB := Aside0.mk (Below.refl w.heap.size w)
 have H := h
 clear h
 unfold spec_TupleOk.f at H
 replace H := Option.bind_eq_some_iff.mp H
 obtain ⟨t224, A20, H⟩ := H
 (try dsimp only at H)
 have A2 := Aside0.mk A20
 clear A20
 go_enter Try.func42, Try.ntmps42
 repeat (first | ((with_reducible refine gate_dst (N := 1) rfl ?_); refine box_event ?hg (N := 1) ?hd (cs := #[.int .i64 a0_0, .int .i64 a0_1, .int .i64 a0_2, .int .i64 a0_3, .float .f64 a0_4, .slice A0_5 l0_5.length c0_5, .int .i64 a0_6, .int .i64 a0_7, .float .f64 a0_8, .slice A0_9 l0_9.length c0_9]) (t := 49) ?hr ?_; (case hd => rfl); (case hg => rfl); (case hr => first | (go_simp; done) | (go_simp; rfl)); intro gb223 hg w10 hbox hb; have n0_ := Aside0.mk (below_step (hup HB.out) hb); have n1_ := Aside0.mk (hbox); have n2_ := Geq.mk ((by rw [hg]; exact (below_size (hup HB.out)) : w.heap.size ≤ gb223)); have n3_ := Geq.mk ((by rw [hg]; exact (below_size (hup HB.out)) : w.heap.size ≤ gb223)); clear HB; have HB := n0_; have BK223 := n1_; have GW223 := n2_; have GE223 := n3_; clear n0_ n1_ n2_ n3_; clear hb hbox hg; obtain ⟨hcz11_0, hcz11_1, hcz11_2, hcz11_3, hcz11_4, hcz11_5, hcz11_6, hcz11_7, hcz11_8, hcz11_9⟩ := blk_cells10 BK223.out; obtain ⟨hfz11_0, hfz11_1, hfz11_2, hfz11_3, hfz11_4, hfz11_5, hfz11_6, hfz11_7, hfz11_8, hfz11_9⟩ := blk_frozens10 BK223.out) | ((fail_if_success (with_reducible refine gate_callee (f := 78) rfl ?_)); first | go_values | go_skip | go_guarded | go_step | go_upon | go_back | (simp only [Int.not_lt, Int.not_le] at *; go_simp)))
 (with_reducible refine gate_callee (f := 78) rfl ?_); refine goesL_ (some 5) rfl rfl Try.func78 (by kernel_rfl) rfl #[.int .i64 a0_0, .int .i64 1, .int .i64 400] rfl (by (try simp only [List.map_toArray, List.map_cons, List.map_nil]); first | done | rfl) ?_; (with_reducible refine (spec_l5in.calls a0_0 1 400 t224 _ A2.out).mono ?_); rintro e w' ⟨rfl, ⟨nd, rfl⟩⟩; refine ⟨_, rfl, ?_⟩
 by_cases c3 : t224 = true
 ·subst c3
  rw [if_pos rfl] at H
  (try dsimp only at H)
  replace H := Option.bind_eq_some_iff.mp H
  obtain ⟨t225, A40, H⟩ := H
  (try dsimp only at H)
  have A4 := Aside0.mk A40
  clear A40
  try go_wp2_with (fail)
  go_at_call 78; (with_reducible refine (spec_l5in.calls a0_1 0 400 t225 _ A4.out).mono ?_); rintro e w' ⟨rfl, ⟨nd, rfl⟩⟩
  by_cases c5 : t225 = true
  ·subst c5
   rw [if_pos rfl] at H
   (try dsimp only at H)
   replace H := Option.bind_eq_some_iff.mp H
   obtain ⟨t226, A60, H⟩ := H
   (try dsimp only at H)
   have A6 := Aside0.mk A60
   clear A60
   try go_wp2_with (fail)
   go_at_call 22; (with_reducible refine (spec_KeyOk.calls k a0_2 a0_3 a0_4 _ _ l0_5 t226 _ ?side1 ?side2 A6.out).mono ?_); (case side1 => repeat (first | exact (Kd.C_below HR0_5.out (hset HB.out)) | (with_reducible refine Kd.C_alloc ?_ _) | (with_reducible refine Kd.C_drewN ?_ _) | (with_reducible refine Kd.C_drew ?_))); (case side2 => exact HC0_5.out); rintro e w12 ⟨rfl, hb⟩; have n0_ := Aside0.mk (blk_below (bup BK223.out) hb); have n1_ := Aside0.mk (below_step (hset HB.out) hb); clear BK223; clear HB; have BK223 := n0_; have HB := n1_; clear n0_ n1_; (try clear hb); (try clear hb2); (try clear hk)
   by_cases c7 : t226 = true
   ·subst c7
    rw [if_pos rfl] at H
    (try dsimp only at H)
    replace H := Option.bind_eq_some_iff.mp H
    obtain ⟨t227, A80, H⟩ := H
    (try dsimp only at H)
    have A8 := Aside0.mk A80
    clear A80
    (try clear hi); obtain ⟨hcz13_0, hcz13_1, hcz13_2, hcz13_3, hcz13_4, hcz13_5, hcz13_6, hcz13_7, hcz13_8, hcz13_9⟩ := blk_cells10 BK223.out; obtain ⟨hfz13_0, hfz13_1, hfz13_2, hfz13_3, hfz13_4, hfz13_5, hfz13_6, hfz13_7, hfz13_8, hfz13_9⟩ := blk_frozens10 BK223.out
    try go_wp2_with (fail)
    go_at_call 27; (with_reducible refine (spec_ItemOk.calls k a0_6 a0_7 a0_8 _ _ l0_9 t227 _ ?side1 ?side2 A8.out).mono ?_); (case side1 => repeat (first | exact (Kd.C_below HR0_9.out HB.out) | (with_reducible refine Kd.C_alloc ?_ _) | (with_reducible refine Kd.C_drewN ?_ _) | (with_reducible refine Kd.C_drew ?_))); (case side2 => exact HC0_9.out); rintro e w14 ⟨rfl, hb⟩; have n0_ := Aside0.mk (blk_below (bup BK223.out) hb); have n1_ := Aside0.mk (below_step (hset HB.out) hb); clear BK223; clear HB; have BK223 := n0_; have HB := n1_; clear n0_ n1_; (try clear hb); (try clear hb2); (try clear hk)
    by_cases c9 : t227 = true
    ·subst c9
     rw [if_pos rfl] at H
     (try dsimp only at H)
     obtain rfl := Option.some.inj H
     (try clear hi); obtain ⟨hcz15_0, hcz15_1, hcz15_2, hcz15_3, hcz15_4, hcz15_5, hcz15_6, hcz15_7, hcz15_8, hcz15_9⟩ := blk_cells10 BK223.out; obtain ⟨hfz15_0, hfz15_1, hfz15_2, hfz15_3, hfz15_4, hfz15_5, hfz15_6, hfz15_7, hfz15_8, hfz15_9⟩ := blk_frozens10 BK223.out
     try go_wp2
     go_ret
     exact ⟨by first | rfl | (simp [errW_none, errW_some] <;> rfl) | (simp [*, errW_none, errW_some] <;> rfl), hset HB.out⟩
    ·replace c9 := Bool.eq_false_iff.mpr c9
     subst c9
     rw [if_neg (show ¬ (false = true) by decide)] at H
     (try dsimp only at H)
     obtain rfl := Option.some.inj H
     (try clear hi)
     try go_wp2
     go_ret
     exact ⟨by first | rfl | (simp [errW_none, errW_some] <;> rfl) | (simp [*, errW_none, errW_some] <;> rfl), hset HB.out⟩
   ·replace c7 := Bool.eq_false_iff.mpr c7
    subst c7
    rw [if_neg (show ¬ (false = true) by decide)] at H
    (try dsimp only at H)
    obtain rfl := Option.some.inj H
    (try clear hi)
    try go_wp2
    go_ret
    exact ⟨by first | rfl | (simp [errW_none, errW_some] <;> rfl) | (simp [*, errW_none, errW_some] <;> rfl), hset HB.out⟩
  ·replace c5 := Bool.eq_false_iff.mpr c5
   subst c5
   rw [if_neg (show ¬ (false = true) by decide)] at H
   (try dsimp only at H)
   obtain rfl := Option.some.inj H
   try go_wp2
   go_ret
   exact ⟨by first | rfl | (simp [errW_none, errW_some] <;> rfl) | (simp [*, errW_none, errW_some] <;> rfl), hset HB.out⟩
 ·replace c3 := Bool.eq_false_iff.mpr c3
  subst c3
  rw [if_neg (show ¬ (false = true) by decide)] at H
  (try dsimp only at H)
  obtain rfl := Option.some.inj H
  try go_wp2
  go_ret
  exact ⟨by first | rfl | (simp [errW_none, errW_some] <;> rfl) | (simp [*, errW_none, errW_some] <;> rfl), hset HB.out⟩
theorem spec_TupleOk.inv0 (k : Nat) (a0_0 : Int) (a0_1 : Int) (a0_2 : Int) (a0_3 : Int) (a0_4 : Nat) (l0_5 : List Int) (a0_6 : Int) (a0_7 : Int) (a0_8 : Nat) (l0_9 : List Int) : spec_TupleOk.f k a0_0 a0_1 a0_2 a0_3 (cn a0_4) l0_5 a0_6 a0_7 a0_8 l0_9 = spec_TupleOk.f k a0_0 a0_1 a0_2 a0_3 a0_4 l0_5 a0_6 a0_7 a0_8 l0_9 := by
  by_cases h_ : nanw a0_4
  · unfold spec_TupleOk.f
    first
      | (simp only [spec_ItemOk.inv0, spec_KeyOk.inv0, cn_zero, feq_cn_l, feq_cn_r, fls_cn_l, fls_cn_r, fgt_cn_l, fgt_cn_r, fle_cn_l, fle_cn_r, fge_cn_l, fge_cn_r]; done)
      | (simp only [spec_ItemOk.inv0, spec_KeyOk.inv0, cn_zero, feq_cn_l, feq_cn_r, fls_cn_l, fls_cn_r, fgt_cn_l, fgt_cn_r, fle_cn_l, fle_cn_r, fge_cn_l, fge_cn_r, feq_nan_l h_, feq_nan_l (cn_nanw h_), Bool.false_eq_true, if_false]; done)
      | (simp [feq_nan_l h_, feq_nan_l (cn_nanw h_)]; done)
  · rw [cn_num h_]
theorem spec_TupleOk.inv1 (k : Nat) (a0_0 : Int) (a0_1 : Int) (a0_2 : Int) (a0_3 : Int) (a0_4 : Nat) (l0_5 : List Int) (a0_6 : Int) (a0_7 : Int) (a0_8 : Nat) (l0_9 : List Int) : spec_TupleOk.f k a0_0 a0_1 a0_2 a0_3 a0_4 l0_5 a0_6 a0_7 (cn a0_8) l0_9 = spec_TupleOk.f k a0_0 a0_1 a0_2 a0_3 a0_4 l0_5 a0_6 a0_7 a0_8 l0_9 := by
  by_cases h_ : nanw a0_8
  · unfold spec_TupleOk.f
    first
      | (simp only [spec_ItemOk.inv0, spec_KeyOk.inv0, cn_zero, feq_cn_l, feq_cn_r, fls_cn_l, fls_cn_r, fgt_cn_l, fgt_cn_r, fle_cn_l, fle_cn_r, fge_cn_l, fge_cn_r]; done)
      | (simp only [spec_ItemOk.inv0, spec_KeyOk.inv0, cn_zero, feq_cn_l, feq_cn_r, fls_cn_l, fls_cn_r, fgt_cn_l, fgt_cn_r, fle_cn_l, fle_cn_r, fge_cn_l, fge_cn_r, feq_nan_l h_, feq_nan_l (cn_nanw h_), Bool.false_eq_true, if_false]; done)
      | (simp [feq_nan_l h_, feq_nan_l (cn_nanw h_)]; done)
  · rw [cn_num h_]
mutual
def spec_PutNum.j0 : Nat → Int → Int → List Int → Bool → Option (List Int)
  | 0, _, _, _, _ => none
  | k + 1, x0, x1, x5, x16 => if x16 = true then (some x5) else (spec_PutNum.l0 k x0 x1 x5 0)
def spec_PutNum.l0 : Nat → Int → Int → List Int → Int → Option (List Int)
  | 0, _, _, _, _ => none
  | k + 1, x0, x1, x5, x6 => if x6 < x1 then (if x5.length < 140737488355328 then (spec_PutNum.l0 k (wrap64 (Int.tdiv x0 256)) x1 (x5 ++ [(Int.tmod x0 256) % 256]) (wrap64 (x6 + 1))) else (none)) else (if x0 > 0 then (some ([] : List Int)) else (some x5))
end
def spec_PutNum.f (k : Nat) (a0 : Int) (a1 : Int) : Option (List Int) := if a1 < 1 then (spec_PutNum.j0 k a0 a1 ([] : List Int) true) else (if a1 > 8 then (spec_PutNum.j0 k a0 a1 ([] : List Int) true) else (spec_PutNum.j0 k a0 a1 ([] : List Int) (decide (a0 < 0))))
theorem spec_PutNum.mono_l : ∀ k, (∀ y0 y1 y2 y3, LeO (spec_PutNum.j0 k y0 y1 y2 y3) (spec_PutNum.j0 (k + 1) y0 y1 y2 y3)) ∧ (∀ y0 y1 y2 y3, LeO (spec_PutNum.l0 k y0 y1 y2 y3) (spec_PutNum.l0 (k + 1) y0 y1 y2 y3))
  | 0 => ⟨fun _ _ _ _ r h => by simp [spec_PutNum.j0] at h, fun _ _ _ _ r h => by simp [spec_PutNum.l0] at h⟩
  | k + 1 => by
    obtain ⟨ih0, ih1⟩ := spec_PutNum.mono_l k
    refine ⟨?_, ?_⟩
    · intro y0 y1 y2 y3
      unfold spec_PutNum.j0
      repeat' with_reducible first | exact ih0 _ _ _ _ | exact ih1 _ _ _ _ | exact LeO.refl _ | exact LeO.none _ | refine LeO.ite ?_ ?_ | refine LeO.bind ?_ (fun _ => ?_)
    · intro y0 y1 y2 y3
      unfold spec_PutNum.l0
      repeat' with_reducible first | exact ih0 _ _ _ _ | exact ih1 _ _ _ _ | exact LeO.refl _ | exact LeO.none _ | refine LeO.ite ?_ ?_ | refine LeO.bind ?_ (fun _ => ?_)
theorem spec_PutNum.mono : ∀ a0 a1 k, LeO (spec_PutNum.f k a0 a1) (spec_PutNum.f (k + 1) a0 a1) := by
  intro a0 a1 k
  obtain ⟨ih0, ih1⟩ := spec_PutNum.mono_l k
  unfold spec_PutNum.f
  repeat' with_reducible first | exact ih0 _ _ _ _ | exact ih1 _ _ _ _ | exact LeO.refl _ | exact LeO.none _ | refine LeO.ite ?_ ?_ | refine LeO.bind ?_ (fun _ => ?_)
set_option maxHeartbeats 8000000 in
set_option maxRecDepth 100000 in
theorem spec_PutNum.calls (k : Nat) (a0 : Int) (a1 : Int) (r : List Int) (w : World) (h : spec_PutNum.f k a0 a1 = some r) :
    Calls Try.prog 71 #[.int .i64 a0, .int .i64 a1] w fun e w' => ∃ v0_ : Value, e = .returned (v0_) ∧ Kd.R (Kd.int .u8) 5 w' w.heap.size (fun _ => True) v0_ r ∧ Below w.heap.size w w' := by
  have HB := Aside0.mk (Below.refl w.heap.size w)
  have H := h
  clear h
  unfold spec_PutNum.f at H
  have HC3 := Aside0.mk H
  clear H
  go_enter Try.func71, Try.ntmps71
  go_upto_region 2 with (fail)
  go_cut [16] (fun v16 wc => ∃ (kq : Nat) (x16_2 : Bool), v16 = .bool x16_2 ∧ Aside0 (spec_PutNum.j0 kq a0 a1 ([] : List Int) x16_2 = some r) ∧ Aside0 (kq ≤ k) ∧ Aside0 (Kd.R (Kd.int .u8) 5 wc w.heap.size (fun _ => True) (.slice none 0 0) ([] : List Int)) ∧ Aside0 (Below w.heap.size w wc))
  case first =>
    have H := HC3.out
    clear HC3
    by_cases c4 : a1 < 1
    · rw [if_pos c4] at H
      have c4b0 : decide (a1 < 1) = true := decide_eq_true c4
      clear c4
      (first | rw [c4b0] | (simp only [i64_w, i32_w]; rw [c4b0]) | skip)
      have H' := Aside0.mk H
      clear H
      go_wp2
      go_meet
      case rel => exact ⟨_, (true), (by first | rfl | (simp; done) | (simp [*]; done)), H', ⟨by first | omega | exact Nat.le_refl _⟩, ⟨by first | exact Kd.R_nil _ _ _ _ _ | exact Kd.N_nil _ _ _ _ _ | exact Kd.V_nil _ _ _ _ _ | exact Kd.Q_nil _ _ _ _ _ | exact Kd.S_nil _ _ _ _ _⟩, ⟨by with_reducible repeat (first | exact HB.out | apply h1 | apply h2 | apply h3)⟩⟩
    · rw [if_neg c4] at H
      have c4b0 : decide (a1 < 1) = false := decide_eq_false c4
      clear c4
      (first | rw [c4b0] | (simp only [i64_w, i32_w]; rw [c4b0]) | skip)
      by_cases c5 : a1 > 8
      · rw [if_pos c5] at H
        have c5b0 : decide (8 < a1) = true := decide_eq_true c5
        clear c5
        have H' := Aside0.mk H
        clear H
        go_wp2
        go_meet
        case rel => exact ⟨_, (true), (by first | rfl | (simp; done) | (simp [*]; done)), H', ⟨by first | omega | exact Nat.le_refl _⟩, ⟨by first | exact Kd.R_nil _ _ _ _ _ | exact Kd.N_nil _ _ _ _ _ | exact Kd.V_nil _ _ _ _ _ | exact Kd.Q_nil _ _ _ _ _ | exact Kd.S_nil _ _ _ _ _⟩, ⟨by with_reducible repeat (first | exact HB.out | apply h1 | apply h2 | apply h3)⟩⟩
      · rw [if_neg c5] at H
        have c5b0 : decide (8 < a1) = false := decide_eq_false c5
        clear c5
        have H' := Aside0.mk H
        clear H
        go_wp2
        go_meet
        case rel => exact ⟨_, (decide (a0 < 0)), (by first | rfl | (simp; done) | (simp [*]; done)), H', ⟨by first | omega | exact Nat.le_refl _⟩, ⟨by first | exact Kd.R_nil _ _ _ _ _ | exact Kd.N_nil _ _ _ _ _ | exact Kd.V_nil _ _ _ _ _ | exact Kd.Q_nil _ _ _ _ _ | exact Kd.S_nil _ _ _ _ _⟩, ⟨by with_reducible repeat (first | exact HB.out | apply h1 | apply h2 | apply h3)⟩⟩
  case rest =>
    clear HC3
    try clear p2
    try clear c4
    try clear c4b0
    try clear c5
    try clear c5b0
    obtain ⟨kq, x16_2, rfl, HA, HJ2, HO_5, HB⟩ := hcut
    cases kq with
    | zero => exact absurd HA.out (by simp [spec_PutNum.j0])
    | succ kj2 =>
      have H := HA.out
      clear HA
      simp only [spec_PutNum.j0] at H
      by_cases c6 : x16_2 = true
      · subst c6
        rw [if_pos rfl] at H
        (try dsimp only at H)
        obtain rfl := Option.some.inj H
        go_wp2
        go_ret
        exact ⟨_, by first | rfl | (simp [errW_none, errW_some] <;> rfl) | (simp [*, errW_none, errW_some] <;> rfl), by exact Kd.rup HO_5.out, by with_reducible repeat (first | exact HB.out | apply h1 | apply h2 | apply h3)⟩
      · replace c6 := Bool.eq_false_iff.mpr c6
        subst c6
        rw [if_neg (show ¬ (false = true) by decide)] at H
        (try dsimp only at H)
        have H' := Aside0.mk H
        clear H
        go_wp2
        go_loopg [0, 5, 6] kj2 (fun kq v0 v5 v6 w' => ∃ (x0_2 : Int) (x5_2 : List Int) (x6_2 : Int), v0 = .int .i64 x0_2 ∧ v6 = .int .i64 x6_2 ∧ Aside0 (spec_PutNum.l0 kq x0_2 a1 x5_2 x6_2 = some r) ∧ Aside0 (kq ≤ kj2) ∧ Aside0 (Kd.R (Kd.int .u8) 5 w' w.heap.size (fun _ => True) v5 x5_2) ∧ Aside0 (Below w.heap.size w w'))
        case atStart => exact ⟨(a0), (([] : List Int)), (0), (by first | rfl | (simp; done) | (simp [*]; done)), (by first | rfl | (simp; done) | (simp [*]; done)), H', ⟨Nat.le_refl _⟩, ⟨by exact Kd.rup HO_5.out⟩, ⟨by with_reducible repeat (first | exact HB.out | apply h1 | apply h2 | apply h3)⟩⟩
        case round =>
          clear H'
          try clear p2
          try clear c4
          try clear c4b0
          try clear c5
          try clear c5b0
          try clear c6
          try clear p2
          obtain ⟨x0_2, x5_2, x6_2, rfl, rfl, HA, HK2, HO_5, HB⟩ := hrel
          cases gk with
          | zero => exact absurd HA.out (by simp [spec_PutNum.l0])
          | succ k2 =>
            have H := HA.out
            clear HA
            simp only [spec_PutNum.l0] at H
            by_cases c7 : x6_2 < a1
            · rw [if_pos c7] at H
              have c7b0 : decide (x6_2 < a1) = true := decide_eq_true c7
              clear c7
              by_cases c8 : x5_2.length < 140737488355328
              · rw [if_pos c8] at H
                have LMc8 := Aside0.mk c8
                clear c8
                obtain ⟨y228, hy228⟩ : ∃ y_ : List Int, y_ = (x5_2 ++ [(Int.tmod x0_2 256) % 256]) := ⟨_, rfl⟩
                replace H : (spec_PutNum.l0 k2 (wrap64 (Int.tdiv x0_2 256)) a1 y228 (wrap64 (x6_2 + 1))) = some r := by first | (rw [hy228]; with_reducible exact H) | (have H2_ := (Option.bind_some _ _).symm.trans H; rw [hy228]; with_reducible exact H2_) | (have H2_ := (Option.bind_some _ _).symm.trans H; with_reducible exact H2_) | with_reducible exact H | (rw [hy228]; exact H) | exact H
                have Ny228 := Aside0.mk hy228
                clear hy228
                have H' := Aside0.mk H
                clear H
                go_wp2_with (first | ((with_reducible refine gate_builtin (b := .append) (xs := #[.tmp 23, .tmp 27]) rfl ?_); at_builtin; refine Kd.R_append (Kd.int .u8) (w0 := w) w.heap.size rfl (.tmp 23) (.tmp 27) 22 5 (.int .u8 0) 1 rfl Try.underlying22 info5 rfl (by decide) (by omega) u5 x5_2 ((Int.tmod x0_2 256) % 256) [.int .u8 ((Int.tmod x0_2 256) % 256)] (fun _ => True) (fun _ => False) rfl rfl ?aP (fun _ hk => hk.elim) ?aF ?aO ?aB ?aS ?aL ?_; (case aP => exact rfl); (case aB => exact (hup HB.out)); (case aF => exact (fun _ _ => trivial)); (case aO => exact (Kd.rup HO_5.out)); (case aS => exact (below_size (hup HB.out))); (case aL => have := LMc8.out; omega); intro v229 w9 ho hb hg hat; rw [← Ny228.out] at ho; have n0_ := Aside0.mk (hb); have n1_ := Aside0.mk (ho); clear HB; clear HO_5; have HB := n0_; have HO230 := n1_; clear n0_ n1_; clear ho hb hg hat))
                go_roundg k2
                case measure => have := HJ2.out; have := HK2.out; omega
                case rel => exact ⟨(wrap64 (Int.tdiv x0_2 256)), (y228), (wrap64 (x6_2 + 1)), (by first | rfl | (simp; done) | (simp [*]; done)), (by first | rfl | (simp; done) | (simp [*]; done)), H', ⟨by have := HJ2.out; have := HK2.out; omega⟩, ⟨by exact Kd.rup HO230.out⟩, ⟨by with_reducible repeat (first | exact HB.out | apply h1 | apply h2 | apply h3)⟩⟩
              · rw [if_neg c8] at H
                exact absurd H (by simp)
            · rw [if_neg c7] at H
              have c7b0 : decide (x6_2 < a1) = false := decide_eq_false c7
              clear c7
              by_cases c10 : x0_2 > 0
              · rw [if_pos c10] at H
                have c10b0 : decide (0 < x0_2) = true := decide_eq_true c10
                clear c10
                obtain rfl := Option.some.inj H
                go_wp2
                go_ret
                exact ⟨_, by first | rfl | (simp [errW_none, errW_some] <;> rfl) | (simp [*, errW_none, errW_some] <;> rfl), by first | exact Kd.R_nil _ _ _ _ _ | exact Kd.N_nil _ _ _ _ _ | exact Kd.V_nil _ _ _ _ _ | exact Kd.Q_nil _ _ _ _ _ | exact Kd.S_nil _ _ _ _ _, by with_reducible repeat (first | exact HB.out | apply h1 | apply h2 | apply h3)⟩
              · rw [if_neg c10] at H
                have c10b0 : decide (0 < x0_2) = false := decide_eq_false c10
                clear c10
                obtain rfl := Option.some.inj H
                go_wp2
                go_ret
                exact ⟨_, by first | rfl | (simp [errW_none, errW_some] <;> rfl) | (simp [*, errW_none, errW_some] <;> rfl), by exact Kd.rup HO_5.out, by with_reducible repeat (first | exact HB.out | apply h1 | apply h2 | apply h3)⟩
def spec_TupleBytes.f (k : Nat) (a0_0 : Int) (a0_1 : Int) (a0_2 : Int) (a0_3 : Int) (a0_4 : Nat) (l0_5 : List Int) (a0_6 : Int) (a0_7 : Int) (a0_8 : Nat) (l0_9 : List Int) : Option (List Int) := (spec_TupleOk.f k a0_0 a0_1 a0_2 a0_3 a0_4 l0_5 a0_6 a0_7 a0_8 l0_9).bind fun t232 => (if t232 = true then ((spec_KeyBytes.f k a0_2 a0_3 a0_4 l0_5).bind fun t233 => ((spec_ValueBytes.f k a0_6 a0_7 a0_8 l0_9).bind fun t236 => ((spec_PutNum.f k a0_0 4).bind fun t239 => ((spec_PutNum.f k a0_1 4).bind fun t242 => (if t239.length + t242.length < 140737488355328 then ((some (t239 ++ t242 : List Int)).bind fun y245 => (if y245.length < 140737488355328 then ((some (y245 ++ [((t233.length : Int)) % 256] : List Int)).bind fun y248 => (if y248.length + t233.length < 140737488355328 then ((some (y248 ++ t233 : List Int)).bind fun y251 => (if y251.length < 140737488355328 then ((some (y251 ++ [((t236.length : Int)) % 256] : List Int)).bind fun y254 => (if y254.length + t236.length < 140737488355328 then (some (y254 ++ t236)) else (none))) else (none))) else (none))) else (none))) else (none)))))) else (some ([] : List Int)))
theorem spec_TupleBytes.mono : ∀ a0 a1 a2 a3 a4 a5 a6 a7 a8 a9 k, LeO (spec_TupleBytes.f k a0 a1 a2 a3 a4 a5 a6 a7 a8 a9) (spec_TupleBytes.f (k + 1) a0 a1 a2 a3 a4 a5 a6 a7 a8 a9) := by
 intro a0 a1 a2 a3 a4 a5 a6 a7 a8 a9 k
 unfold spec_TupleBytes.f
 repeat' with_reducible first | exact spec_KeyBytes.mono _ _ _ _ _ | exact spec_PutNum.mono _ _ _ | exact spec_TupleOk.mono _ _ _ _ _ _ _ _ _ _ _ | exact spec_ValueBytes.mono _ _ _ _ _ | exact LeO.refl _ | exact LeO.none _ | refine LeO.ite ?_ ?_ | refine LeO.bind ?_ (fun _ => ?_)
set_option maxHeartbeats 8000000 in
set_option maxRecDepth 100000 in
theorem spec_TupleBytes.calls (k : Nat) (a0_0 : Int) (a0_1 : Int) (a0_2 : Int) (a0_3 : Int) (a0_4 : Nat) (A0_5 : Option Addr) (c0_5 : Nat) (l0_5 : List Int) (a0_6 : Int) (a0_7 : Int) (a0_8 : Nat) (A0_9 : Option Addr) (c0_9 : Nat) (l0_9 : List Int) (r : List Int) (w : World) (hr0_5 : Kd.C (Kd.int .u8) w A0_5 l0_5.length l0_5) (hc0_5 : l0_5.length ≤ c0_5) (hr0_9 : Kd.C (Kd.int .u8) w A0_9 l0_9.length l0_9) (hc0_9 : l0_9.length ≤ c0_9) (h : spec_TupleBytes.f k a0_0 a0_1 a0_2 a0_3 a0_4 l0_5 a0_6 a0_7 a0_8 l0_9 = some r) :
  Calls Try.prog 32 #[.agg #[.int .i64 a0_0, .int .i64 a0_1, .int .i64 a0_2, .int .i64 a0_3, .float .f64 a0_4, .slice A0_5 l0_5.length c0_5, .int .i64 a0_6, .int .i64 a0_7, .float .f64 a0_8, .slice A0_9 l0_9.length c0_9]] w fun e w' => ∃ v0_ : Value, e = .returned (v0_) ∧ Kd.R (Kd.int .u8) 5 w' w.heap.size (fun _ => True) v0_ r ∧ Below w.heap.size w w' := by
 have hu49 := Try.underlying49
 have hu25 := Try.underlying25
 have HR0_5 := Aside0.mk hr0_5
 have HC0_5 := Aside0.mk hc0_5
 clear hr0_5 hc0_5
 have HR0_9 := Aside0.mk hr0_9
 have HC0_9 := Aside0.mk hc0_9
 clear hr0_9 hc0_9
 have HB := Aside0.mk (Below.refl w.heap.size w)
 have H := h
 clear h
 unfold spec_TupleBytes.f at H
 replace H := Option.bind_eq_some_iff.mp H
 obtain ⟨t232, A20, H⟩ := H
 (try dsimp only at H)
 have A2 := Aside0.mk A20
 clear A20
 by_cases c3 : t232 = true
 ·subst c3
  rw [if_pos rfl] at H
  (try dsimp only at H)
  replace H := Option.bind_eq_some_iff.mp H
  obtain ⟨t233, A40, H⟩ := H
  (try dsimp only at H)
  have A4 := Aside0.mk A40
  clear A40
  replace H := Option.bind_eq_some_iff.mp H
  obtain ⟨t236, A50, H⟩ := H
  (try dsimp only at H)
  have A5 := Aside0.mk A50
  clear A50
  replace H := Option.bind_eq_some_iff.mp H
  obtain ⟨t239, A60, H⟩ := H
  (try dsimp only at H)
  have A6 := Aside0.mk A60
  clear A60
  replace H := Option.bind_eq_some_iff.mp H
  obtain ⟨t242, A70, H⟩ := H
  (try dsimp only at H)
  have A7 := Aside0.mk A70
  clear A70
  by_cases c8 : t239.length + t242.length < 140737488355328
  ·rw [if_pos c8] at H
   have LMc8 := Aside0.mk c8
   clear c8
   obtain ⟨y245, hy245⟩ : ∃ y_ : List Int, y_ = (t239 ++ t242) := ⟨_, rfl⟩
   replace H : (if y245.length < 140737488355328 then ((some (y245 ++ [((t233.length : Int)) % 256] : List Int)).bind fun y248 => (if y248.length + t233.length < 140737488355328 then ((some (y248 ++ t233 : List Int)).bind fun y251 => (if y251.length < 140737488355328 then ((some (y251 ++ [((t236.length : Int)) % 256] : List Int)).bind fun y254 => (if y254.length + t236.length < 140737488355328 then (some (y254 ++ t236)) else (none))) else (none))) else (none))) else (none)) = some r := by first | (rw [hy245]; with_reducible exact H) | (have H2_ := (Option.bind_some _ _).symm.trans H; rw [hy245]; with_reducible exact H2_) | (have H2_ := (Option.bind_some _ _).symm.trans H; with_reducible exact H2_) | with_reducible exact H | (rw [hy245]; exact H) | exact H
   have Ny245 := Aside0.mk hy245
   clear hy245
   by_cases c9 : y245.length < 140737488355328
   ·rw [if_pos c9] at H
    have LMc9 := Aside0.mk c9
    clear c9
    obtain ⟨y248, hy248⟩ : ∃ y_ : List Int, y_ = (y245 ++ [((t233.length : Int)) % 256]) := ⟨_, rfl⟩
    replace H : (if y248.length + t233.length < 140737488355328 then ((some (y248 ++ t233 : List Int)).bind fun y251 => (if y251.length < 140737488355328 then ((some (y251 ++ [((t236.length : Int)) % 256] : List Int)).bind fun y254 => (if y254.length + t236.length < 140737488355328 then (some (y254 ++ t236)) else (none))) else (none))) else (none)) = some r := by first | (rw [hy248]; with_reducible exact H) | (have H2_ := (Option.bind_some _ _).symm.trans H; rw [hy248]; with_reducible exact H2_) | (have H2_ := (Option.bind_some _ _).symm.trans H; with_reducible exact H2_) | with_reducible exact H | (rw [hy248]; exact H) | exact H
    have Ny248 := Aside0.mk hy248
    clear hy248
    by_cases c10 : y248.length + t233.length < 140737488355328
    ·rw [if_pos c10] at H
     have LMc10 := Aside0.mk c10
     clear c10
     obtain ⟨y251, hy251⟩ : ∃ y_ : List Int, y_ = (y248 ++ t233) := ⟨_, rfl⟩
     replace H : (if y251.length < 140737488355328 then ((some (y251 ++ [((t236.length : Int)) % 256] : List Int)).bind fun y254 => (if y254.length + t236.length < 140737488355328 then (some (y254 ++ t236)) else (none))) else (none)) = some r := by first | (rw [hy251]; with_reducible exact H) | (have H2_ := (Option.bind_some _ _).symm.trans H; rw [hy251]; with_reducible exact H2_) | (have H2_ := (Option.bind_some _ _).symm.trans H; with_reducible exact H2_) | with_reducible exact H | (rw [hy251]; exact H) | exact H
     have Ny251 := Aside0.mk hy251
     clear hy251
     by_cases c11 : y251.length < 140737488355328
     ·rw [if_pos c11] at H
      have LMc11 := Aside0.mk c11
      clear c11
      obtain ⟨y254, hy254⟩ : ∃ y_ : List Int, y_ = (y251 ++ [((t236.length : Int)) % 256]) := ⟨_, rfl⟩
      replace H : (if y254.length + t236.length < 140737488355328 then (some (y254 ++ t236)) else (none)) = some r := by first | (rw [hy254]; with_reducible exact H) | (have H2_ := (Option.bind_some _ _).symm.trans H; rw [hy254]; with_reducible exact H2_) | (have H2_ := (Option.bind_some _ _).symm.trans H; with_reducible exact H2_) | with_reducible exact H | (rw [hy254]; exact H) | exact H
      have Ny254 := Aside0.mk hy254
      clear hy254
      by_cases c12 : y254.length + t236.length < 140737488355328
      ·rw [if_pos c12] at H
       have LMc12 := Aside0.mk c12
       clear c12
       obtain ⟨y257, hy257⟩ : ∃ y_ : List Int, y_ = (y254 ++ t236) := ⟨_, rfl⟩
       replace H : (some y257) = some r := by first | (rw [hy257]; with_reducible exact H) | (have H2_ := (Option.bind_some _ _).symm.trans H; rw [hy257]; with_reducible exact H2_) | (have H2_ := (Option.bind_some _ _).symm.trans H; with_reducible exact H2_) | with_reducible exact H | (rw [hy257]; exact H) | exact H
       have Ny257 := Aside0.mk hy257
       clear hy257
       obtain rfl := Option.some.inj H
       go_enter Try.func32, Try.ntmps32
       go_wp2_with (first | ((with_reducible refine gate_dst (N := 1) rfl ?_); refine box_event ?hg (N := 1) ?hd (cs := #[.int .i64 a0_0, .int .i64 a0_1, .int .i64 a0_2, .int .i64 a0_3, .float .f64 a0_4, .slice A0_5 l0_5.length c0_5, .int .i64 a0_6, .int .i64 a0_7, .float .f64 a0_8, .slice A0_9 l0_9.length c0_9]) (t := 49) ?hr ?_; (case hd => rfl); (case hg => rfl); (case hr => first | (go_simp; done) | (go_simp; rfl)); intro gb231 hg w13 hbox hb; have n0_ := Aside0.mk (below_step (hup HB.out) hb); have n1_ := Aside0.mk (hbox); have n2_ := Geq.mk ((by rw [hg]; exact (below_size (hup HB.out)) : w.heap.size ≤ gb231)); have n3_ := Geq.mk ((by rw [hg]; exact (below_size (hup HB.out)) : w.heap.size ≤ gb231)); clear HB; have HB := n0_; have BK231 := n1_; have GW231 := n2_; have GE231 := n3_; clear n0_ n1_ n2_ n3_; clear hb hbox hg; obtain ⟨hcz14_0, hcz14_1, hcz14_2, hcz14_3, hcz14_4, hcz14_5, hcz14_6, hcz14_7, hcz14_8, hcz14_9⟩ := blk_cells10 BK231.out; obtain ⟨hfz14_0, hfz14_1, hfz14_2, hfz14_3, hfz14_4, hfz14_5, hfz14_6, hfz14_7, hfz14_8, hfz14_9⟩ := blk_frozens10 BK231.out) | ((with_reducible refine gate_callee (f := 42) rfl ?_); refine goesL_ (some 7) rfl rfl Try.func42 (by kernel_rfl) rfl #[.agg #[.int .i64 a0_0, .int .i64 a0_1, .int .i64 a0_2, .int .i64 a0_3, .float .f64 a0_4, .slice A0_5 l0_5.length c0_5, .int .i64 a0_6, .int .i64 a0_7, .float .f64 a0_8, .slice A0_9 l0_9.length c0_9]] rfl (by (try simp only [List.map_toArray, List.map_cons, List.map_nil]); first | done | rfl) ?_; (with_reducible refine (spec_TupleOk.calls k a0_0 a0_1 a0_2 a0_3 a0_4 _ _ l0_5 a0_6 a0_7 a0_8 _ _ l0_9 true _ ?side1 ?side2 ?side3 ?side4 A2.out).mono ?_); (case side1 => repeat (first | exact (Kd.C_below HR0_5.out HB.out) | (with_reducible refine Kd.C_alloc ?_ _) | (with_reducible refine Kd.C_drewN ?_ _) | (with_reducible refine Kd.C_drew ?_))); (case side2 => exact HC0_5.out); (case side3 => repeat (first | exact (Kd.C_below HR0_9.out HB.out) | (with_reducible refine Kd.C_alloc ?_ _) | (with_reducible refine Kd.C_drewN ?_ _) | (with_reducible refine Kd.C_drew ?_))); (case side4 => exact HC0_9.out); rintro e w15 ⟨rfl, hb⟩; refine ⟨_, rfl, ?_⟩; have n0_ := Aside0.mk (blk_below (bup BK231.out) hb); have n1_ := Aside0.mk (below_step (hset HB.out) hb); clear BK231; clear HB; have BK231 := n0_; have HB := n1_; clear n0_ n1_; (try clear hb); (try clear hb2); (try clear hk); (try clear hi); obtain ⟨hcz16_0, hcz16_1, hcz16_2, hcz16_3, hcz16_4, hcz16_5, hcz16_6, hcz16_7, hcz16_8, hcz16_9⟩ := blk_cells10 BK231.out; obtain ⟨hfz16_0, hfz16_1, hfz16_2, hfz16_3, hfz16_4, hfz16_5, hfz16_6, hfz16_7, hfz16_8, hfz16_9⟩ := blk_frozens10 BK231.out) | ((with_reducible refine gate_callee (f := 54) rfl ?_); refine goesL_ (some 11) rfl rfl Try.func54 (by kernel_rfl) rfl #[.agg #[.int .i64 a0_2, .int .i64 a0_3, .float .f64 a0_4, .slice A0_5 l0_5.length c0_5]] rfl (by (try simp only [List.map_toArray, List.map_cons, List.map_nil]); first | done | rfl) ?_; (with_reducible refine (spec_KeyBytes.calls k a0_2 a0_3 a0_4 _ _ l0_5 t233 _ ?side1 ?side2 A4.out).mono ?_); (case side1 => repeat (first | exact (Kd.C_below HR0_5.out HB.out) | (with_reducible refine Kd.C_alloc ?_ _) | (with_reducible refine Kd.C_drewN ?_ _) | (with_reducible refine Kd.C_drew ?_))); (case side2 => exact HC0_5.out); rintro e w17 ⟨v234, rfl, ho0, hb⟩; refine ⟨_, rfl, ?_⟩; have n0_ := Aside0.mk (Kd.R_lower ho0 (below_size (hset HB.out))); have n1_ := Aside0.mk (blk_below (bup BK231.out) hb); have n2_ := Aside0.mk (below_step (hset HB.out) hb); clear BK231; clear HB; have HO235 := n0_; have BK231 := n1_; have HB := n2_; clear n0_ n1_ n2_; (try clear hb); (try clear hb2); (try clear hk); (try clear hi); (try clear ho0); obtain ⟨hcz18_0, hcz18_1, hcz18_2, hcz18_3, hcz18_4, hcz18_5, hcz18_6, hcz18_7, hcz18_8, hcz18_9⟩ := blk_cells10 BK231.out; obtain ⟨hfz18_0, hfz18_1, hfz18_2, hfz18_3, hfz18_4, hfz18_5, hfz18_6, hfz18_7, hfz18_8, hfz18_9⟩ := blk_frozens10 BK231.out) | ((with_reducible refine gate_callee (f := 47) rfl ?_); refine goesL_ (some 14) rfl rfl Try.func47 (by kernel_rfl) rfl #[.agg #[.int .i64 a0_6, .int .i64 a0_7, .float .f64 a0_8, .slice A0_9 l0_9.length c0_9]] rfl (by (try simp only [List.map_toArray, List.map_cons, List.map_nil]); first | done | rfl) ?_; (with_reducible refine (spec_ValueBytes.calls k a0_6 a0_7 a0_8 _ _ l0_9 t236 _ ?side1 ?side2 A5.out).mono ?_); (case side1 => repeat (first | exact (Kd.C_below HR0_9.out HB.out) | (with_reducible refine Kd.C_alloc ?_ _) | (with_reducible refine Kd.C_drewN ?_ _) | (with_reducible refine Kd.C_drew ?_))); (case side2 => exact HC0_9.out); rintro e w19 ⟨v237, rfl, ho0, hb⟩; refine ⟨_, rfl, ?_⟩; have n0_ := Aside0.mk (Kd.R_elder' (Kd.rup HO235.out) (Kd.R_base ho0) hb); have n1_ := Aside0.mk (Kd.R_lower (Kd.R_new' ho0 (Kd.R_lt (Kd.rup HO235.out))) (below_size (hset HB.out))); have n2_ := Aside0.mk (blk_below (bup BK231.out) hb); have n3_ := Aside0.mk (below_step (hset HB.out) hb); clear HO235; clear BK231; clear HB; have HO235 := n0_; have HO238 := n1_; have BK231 := n2_; have HB := n3_; clear n0_ n1_ n2_ n3_; (try clear hb); (try clear hb2); (try clear hk); (try clear hi); (try clear ho0); obtain ⟨hcz20_0, hcz20_1, hcz20_2, hcz20_3, hcz20_4, hcz20_5, hcz20_6, hcz20_7, hcz20_8, hcz20_9⟩ := blk_cells10 BK231.out; obtain ⟨hfz20_0, hfz20_1, hfz20_2, hfz20_3, hfz20_4, hfz20_5, hfz20_6, hfz20_7, hfz20_8, hfz20_9⟩ := blk_frozens10 BK231.out) | ((with_reducible refine gate_callee (f := 71) rfl ?_); refine goesL_ (some 17) rfl rfl Try.func71 (by kernel_rfl) rfl #[.int .i64 a0_0, .int .i64 4] rfl (by (try simp only [List.map_toArray, List.map_cons, List.map_nil]); first | done | rfl) ?_; (with_reducible refine (spec_PutNum.calls k a0_0 4 t239 _ A6.out).mono ?_); rintro e w21 ⟨v240, rfl, ho0, hb⟩; refine ⟨_, rfl, ?_⟩; have n0_ := Aside0.mk (Kd.R_elder' (Kd.rup HO235.out) (Kd.R_base ho0) hb); have n1_ := Aside0.mk (Kd.R_elder' (Kd.rup HO238.out) (Kd.R_base ho0) hb); have n2_ := Aside0.mk (Kd.R_lower (Kd.R_new' (Kd.R_new' ho0 (Kd.R_lt (Kd.rup HO235.out))) (Kd.R_lt (Kd.rup HO238.out))) (below_size (hset HB.out))); have n3_ := Aside0.mk (blk_below (bup BK231.out) hb); have n4_ := Aside0.mk (below_step (hset HB.out) hb); clear HO235; clear HO238; clear BK231; clear HB; have HO235 := n0_; have HO238 := n1_; have HO241 := n2_; have BK231 := n3_; have HB := n4_; clear n0_ n1_ n2_ n3_ n4_; (try clear hb); (try clear hb2); (try clear hk); (try clear hi); (try clear ho0); obtain ⟨hcz22_0, hcz22_1, hcz22_2, hcz22_3, hcz22_4, hcz22_5, hcz22_6, hcz22_7, hcz22_8, hcz22_9⟩ := blk_cells10 BK231.out; obtain ⟨hfz22_0, hfz22_1, hfz22_2, hfz22_3, hfz22_4, hfz22_5, hfz22_6, hfz22_7, hfz22_8, hfz22_9⟩ := blk_frozens10 BK231.out) | ((with_reducible refine gate_callee (f := 71) rfl ?_); refine goesL_ (some 21) rfl rfl Try.func71 (by kernel_rfl) rfl #[.int .i64 a0_1, .int .i64 4] rfl (by (try simp only [List.map_toArray, List.map_cons, List.map_nil]); first | done | rfl) ?_; (with_reducible refine (spec_PutNum.calls k a0_1 4 t242 _ A7.out).mono ?_); rintro e w23 ⟨v243, rfl, ho0, hb⟩; refine ⟨_, rfl, ?_⟩; have n0_ := Aside0.mk (Kd.R_elder' (Kd.rup HO235.out) (Kd.R_base ho0) hb); have n1_ := Aside0.mk (Kd.R_elder' (Kd.rup HO238.out) (Kd.R_base ho0) hb); have n2_ := Aside0.mk (Kd.R_elder' (Kd.rup HO241.out) (Kd.R_base ho0) hb); have n3_ := Aside0.mk (Kd.R_lower (Kd.R_new' (Kd.R_new' (Kd.R_new' ho0 (Kd.R_lt (Kd.rup HO235.out))) (Kd.R_lt (Kd.rup HO238.out))) (Kd.R_lt (Kd.rup HO241.out))) (below_size (hset HB.out))); have n4_ := Aside0.mk (blk_below (bup BK231.out) hb); have n5_ := Aside0.mk (below_step (hset HB.out) hb); clear HO235; clear HO238; clear HO241; clear BK231; clear HB; have HO235 := n0_; have HO238 := n1_; have HO241 := n2_; have HO244 := n3_; have BK231 := n4_; have HB := n5_; clear n0_ n1_ n2_ n3_ n4_ n5_; (try clear hb); (try clear hb2); (try clear hk); (try clear hi); (try clear ho0); obtain ⟨Ao25, co25, eo25⟩ := Kd.R_slice HO244.out; subst eo25) | ((with_reducible refine gate_builtin (b := .append) (xs := #[.tmp 18, .tmp 21]) rfl ?_); at_builtin; refine Kd.R_append_rows (Kd.int .u8) (w0 := w) w.heap.size rfl (.tmp 18) (.tmp 21) 22 5 (.int .u8 0) 1 rfl Try.underlying22 info5 rfl (by decide) (by omega) v240 t239 t242 _ _ _ (fun k_ => some k_ ≠ (v234 : Value).ownBlock ∧ some k_ ≠ (v237 : Value).ownBlock ∧ some k_ ≠ (.slice Ao25 t242.length co25 : Value).ownBlock) (fun _ => False) rfl rfl ?aO ?aR (fun _ _ h => h) (fun _ h => h.elim) ?aF ?aB ?aS ?aL ?_; (case aR => repeat (first | exact (Kd.R_reads' HO244.out).2.2 | (with_reducible refine Kd.C_alloc ?_ _) | (with_reducible refine Kd.C_drewN ?_ _) | (with_reducible refine Kd.C_drew ?_))); (case aB => exact (hset HB.out)); (case aF => exact (fun k_ hk => ⟨Kd.fresh' (Kd.R_lt (Kd.rup HO235.out)) k_ hk, Kd.fresh' (Kd.R_lt (Kd.rup HO238.out)) k_ hk, Kd.fresh' (Kd.R_lt (Kd.rup HO244.out)) k_ hk⟩)); (case aO => exact (by exact Kd.rup (Kd.R_mono HO241.out (fun _ hk => ⟨hk.1.1.2, ⟨hk.1.2, hk.2⟩⟩)))); (case aS => exact (below_size (hset HB.out))); (case aL => have := LMc8.out; omega); intro v246 w24 ho hb hg hat; rw [← Ny245.out] at ho; have n0_ := Aside0.mk (blk_grown (g := gb231) (o := .cells #[.int .i64 a0_0, .int .i64 a0_1, .int .i64 a0_2, .int .i64 a0_3, .float .f64 a0_4, .slice A0_5 l0_5.length c0_5, .int .i64 a0_6, .int .i64 a0_7, .float .f64 a0_8, .slice A0_9 l0_9.length c0_9] 49 (0, 0)) (bup BK231.out) hg (Kd.R_ne HO241.out BK231.out (by decide))); have n1_ := Aside0.mk (Kd.R_after (ok := (fun k_ => some k_ ≠ (v237 : Value).ownBlock ∧ some k_ ≠ (.slice Ao25 t242.length co25 : Value).ownBlock)) (by exact Kd.rup (Kd.R_mono HO235.out (fun _ hk => ⟨⟨hk.1.1.2, hk.2⟩, hk.1.2⟩))) hg hat); have n2_ := Aside0.mk (Kd.R_after (ok := (fun k_ => some k_ ≠ (v234 : Value).ownBlock ∧ some k_ ≠ (.slice Ao25 t242.length co25 : Value).ownBlock)) (by exact Kd.rup (Kd.R_mono HO238.out (fun _ hk => ⟨⟨hk.1.1.2, hk.2⟩, hk.1.2⟩))) hg hat); have n3_ := Aside0.mk (Kd.R_after (ok := (fun k_ => some k_ ≠ (v234 : Value).ownBlock ∧ some k_ ≠ (v237 : Value).ownBlock)) (by exact Kd.rup (Kd.R_mono HO244.out (fun _ hk => ⟨⟨hk.1.1.2, hk.1.2⟩, hk.2⟩))) hg hat); have n4_ := Aside0.mk (hb); have n5_ := Aside0.mk (ho); clear BK231; clear HO235; clear HO238; clear HO244; clear HB; clear HO241; have BK231 := n0_; have HO235 := n1_; have HO238 := n2_; have HO244 := n3_; have HB := n4_; have HO247 := n5_; clear n0_ n1_ n2_ n3_ n4_ n5_; clear ho hb hg hat; obtain ⟨Ao26, co26, eo26⟩ := Kd.R_slice HO235.out; subst eo26) | ((with_reducible refine gate_builtin (b := .append) (xs := #[.tmp 23, .tmp 27]) rfl ?_); at_builtin; refine Kd.R_append (Kd.int .u8) (w0 := w) w.heap.size rfl (.tmp 23) (.tmp 27) 22 5 (.int .u8 0) 1 rfl Try.underlying22 info5 rfl (by decide) (by omega) v246 y245 (((t233.length : Int)) % 256) [.int .u8 (((t233.length : Int)) % 256)] (fun k_ => some k_ ≠ (.slice Ao26 t233.length co26 : Value).ownBlock ∧ some k_ ≠ (v237 : Value).ownBlock ∧ some k_ ≠ (.slice Ao25 t242.length co25 : Value).ownBlock) (fun _ => False) rfl rfl ?aP (fun _ hk => hk.elim) ?aF ?aO ?aB ?aS ?aL ?_; (case aP => exact rfl); (case aB => exact (hset HB.out)); (case aF => exact (fun k_ hk => ⟨Kd.fresh' (Kd.R_lt (Kd.rup HO235.out)) k_ hk, Kd.fresh' (Kd.R_lt (Kd.rup HO238.out)) k_ hk, Kd.fresh' (Kd.R_lt (Kd.rup HO244.out)) k_ hk⟩)); (case aO => exact (Kd.rup HO247.out)); (case aS => exact (below_size (hset HB.out))); (case aL => have := LMc9.out; omega); intro v249 w27 ho hb hg hat; rw [← Ny248.out] at ho; have n0_ := Aside0.mk (blk_grown (g := gb231) (o := .cells #[.int .i64 a0_0, .int .i64 a0_1, .int .i64 a0_2, .int .i64 a0_3, .float .f64 a0_4, .slice A0_5 l0_5.length c0_5, .int .i64 a0_6, .int .i64 a0_7, .float .f64 a0_8, .slice A0_9 l0_9.length c0_9] 49 (0, 0)) (bup BK231.out) hg (Kd.R_ne HO247.out BK231.out (by decide))); have n1_ := Aside0.mk (Kd.R_after (ok := (fun k_ => some k_ ≠ (v237 : Value).ownBlock ∧ some k_ ≠ (.slice Ao25 t242.length co25 : Value).ownBlock)) (Kd.rup HO235.out) hg hat); have n2_ := Aside0.mk (Kd.R_after (ok := (fun k_ => some k_ ≠ (.slice Ao26 t233.length co26 : Value).ownBlock ∧ some k_ ≠ (.slice Ao25 t242.length co25 : Value).ownBlock)) (Kd.rup HO238.out) hg hat); have n3_ := Aside0.mk (Kd.R_after (ok := (fun k_ => some k_ ≠ (.slice Ao26 t233.length co26 : Value).ownBlock ∧ some k_ ≠ (v237 : Value).ownBlock)) (Kd.rup HO244.out) hg hat); have n4_ := Aside0.mk (hb); have n5_ := Aside0.mk (ho); clear BK231; clear HO235; clear HO238; clear HO244; clear HB; clear HO247; have BK231 := n0_; have HO235 := n1_; have HO238 := n2_; have HO244 := n3_; have HB := n4_; have HO250 := n5_; clear n0_ n1_ n2_ n3_ n4_ n5_; clear ho hb hg hat) | ((with_reducible refine gate_builtin (b := .append) (xs := #[.tmp 29, .tmp 30]) rfl ?_); at_builtin; refine Kd.R_append_rows (Kd.int .u8) (w0 := w) w.heap.size rfl (.tmp 29) (.tmp 30) 22 5 (.int .u8 0) 1 rfl Try.underlying22 info5 rfl (by decide) (by omega) v249 y248 t233 _ _ _ (fun k_ => some k_ ≠ (.slice Ao26 t233.length co26 : Value).ownBlock ∧ some k_ ≠ (v237 : Value).ownBlock ∧ some k_ ≠ (.slice Ao25 t242.length co25 : Value).ownBlock) (fun _ => False) rfl rfl ?aO ?aR (fun _ _ h => h) (fun _ h => h.elim) ?aF ?aB ?aS ?aL ?_; (case aR => repeat (first | exact (Kd.R_reads' HO235.out).2.2 | (with_reducible refine Kd.C_alloc ?_ _) | (with_reducible refine Kd.C_drewN ?_ _) | (with_reducible refine Kd.C_drew ?_))); (case aB => exact (hset HB.out)); (case aF => exact (fun k_ hk => ⟨Kd.fresh' (Kd.R_lt (Kd.rup HO235.out)) k_ hk, Kd.fresh' (Kd.R_lt (Kd.rup HO238.out)) k_ hk, Kd.fresh' (Kd.R_lt (Kd.rup HO244.out)) k_ hk⟩)); (case aO => exact (Kd.rup HO250.out)); (case aS => exact (below_size (hset HB.out))); (case aL => have := LMc10.out; omega); intro v252 w28 ho hb hg hat; rw [← Ny251.out] at ho; have n0_ := Aside0.mk (blk_grown (g := gb231) (o := .cells #[.int .i64 a0_0, .int .i64 a0_1, .int .i64 a0_2, .int .i64 a0_3, .float .f64 a0_4, .slice A0_5 l0_5.length c0_5, .int .i64 a0_6, .int .i64 a0_7, .float .f64 a0_8, .slice A0_9 l0_9.length c0_9] 49 (0, 0)) (bup BK231.out) hg (Kd.R_ne HO250.out BK231.out (by decide))); have n1_ := Aside0.mk (Kd.R_after (ok := (fun k_ => some k_ ≠ (v237 : Value).ownBlock ∧ some k_ ≠ (.slice Ao25 t242.length co25 : Value).ownBlock)) (Kd.rup HO235.out) hg hat); have n2_ := Aside0.mk (Kd.R_after (ok := (fun k_ => some k_ ≠ (.slice Ao26 t233.length co26 : Value).ownBlock ∧ some k_ ≠ (.slice Ao25 t242.length co25 : Value).ownBlock)) (Kd.rup HO238.out) hg hat); have n3_ := Aside0.mk (Kd.R_after (ok := (fun k_ => some k_ ≠ (.slice Ao26 t233.length co26 : Value).ownBlock ∧ some k_ ≠ (v237 : Value).ownBlock)) (Kd.rup HO244.out) hg hat); have n4_ := Aside0.mk (hb); have n5_ := Aside0.mk (ho); clear BK231; clear HO235; clear HO238; clear HO244; clear HB; clear HO250; have BK231 := n0_; have HO235 := n1_; have HO238 := n2_; have HO244 := n3_; have HB := n4_; have HO253 := n5_; clear n0_ n1_ n2_ n3_ n4_ n5_; clear ho hb hg hat; obtain ⟨Ao29, co29, eo29⟩ := Kd.R_slice HO238.out; subst eo29) | ((with_reducible refine gate_builtin (b := .append) (xs := #[.tmp 32, .tmp 36]) rfl ?_); at_builtin; refine Kd.R_append (Kd.int .u8) (w0 := w) w.heap.size rfl (.tmp 32) (.tmp 36) 22 5 (.int .u8 0) 1 rfl Try.underlying22 info5 rfl (by decide) (by omega) v252 y251 (((t236.length : Int)) % 256) [.int .u8 (((t236.length : Int)) % 256)] (fun k_ => some k_ ≠ (.slice Ao26 t233.length co26 : Value).ownBlock ∧ some k_ ≠ (.slice Ao29 t236.length co29 : Value).ownBlock ∧ some k_ ≠ (.slice Ao25 t242.length co25 : Value).ownBlock) (fun _ => False) rfl rfl ?aP (fun _ hk => hk.elim) ?aF ?aO ?aB ?aS ?aL ?_; (case aP => exact rfl); (case aB => exact (hset HB.out)); (case aF => exact (fun k_ hk => ⟨Kd.fresh' (Kd.R_lt (Kd.rup HO235.out)) k_ hk, Kd.fresh' (Kd.R_lt (Kd.rup HO238.out)) k_ hk, Kd.fresh' (Kd.R_lt (Kd.rup HO244.out)) k_ hk⟩)); (case aO => exact (Kd.rup HO253.out)); (case aS => exact (below_size (hset HB.out))); (case aL => have := LMc11.out; omega); intro v255 w30 ho hb hg hat; rw [← Ny254.out] at ho; have n0_ := Aside0.mk (blk_grown (g := gb231) (o := .cells #[.int .i64 a0_0, .int .i64 a0_1, .int .i64 a0_2, .int .i64 a0_3, .float .f64 a0_4, .slice A0_5 l0_5.length c0_5, .int .i64 a0_6, .int .i64 a0_7, .float .f64 a0_8, .slice A0_9 l0_9.length c0_9] 49 (0, 0)) (bup BK231.out) hg (Kd.R_ne HO253.out BK231.out (by decide))); have n1_ := Aside0.mk (Kd.R_after (ok := (fun k_ => some k_ ≠ (.slice Ao29 t236.length co29 : Value).ownBlock ∧ some k_ ≠ (.slice Ao25 t242.length co25 : Value).ownBlock)) (Kd.rup HO235.out) hg hat); have n2_ := Aside0.mk (Kd.R_after (ok := (fun k_ => some k_ ≠ (.slice Ao26 t233.length co26 : Value).ownBlock ∧ some k_ ≠ (.slice Ao25 t242.length co25 : Value).ownBlock)) (Kd.rup HO238.out) hg hat); have n3_ := Aside0.mk (Kd.R_after (ok := (fun k_ => some k_ ≠ (.slice Ao26 t233.length co26 : Value).ownBlock ∧ some k_ ≠ (.slice Ao29 t236.length co29 : Value).ownBlock)) (Kd.rup HO244.out) hg hat); have n4_ := Aside0.mk (hb); have n5_ := Aside0.mk (ho); clear BK231; clear HO235; clear HO238; clear HO244; clear HB; clear HO253; have BK231 := n0_; have HO235 := n1_; have HO238 := n2_; have HO244 := n3_; have HB := n4_; have HO256 := n5_; clear n0_ n1_ n2_ n3_ n4_ n5_; clear ho hb hg hat) | ((with_reducible refine gate_builtin (b := .append) (xs := #[.tmp 38, .tmp 39]) rfl ?_); at_builtin; refine Kd.R_append_rows (Kd.int .u8) (w0 := w) w.heap.size rfl (.tmp 38) (.tmp 39) 22 5 (.int .u8 0) 1 rfl Try.underlying22 info5 rfl (by decide) (by omega) v255 y254 t236 _ _ _ (fun k_ => some k_ ≠ (.slice Ao26 t233.length co26 : Value).ownBlock ∧ some k_ ≠ (.slice Ao29 t236.length co29 : Value).ownBlock ∧ some k_ ≠ (.slice Ao25 t242.length co25 : Value).ownBlock) (fun _ => False) rfl rfl ?aO ?aR (fun _ _ h => h) (fun _ h => h.elim) ?aF ?aB ?aS ?aL ?_; (case aR => repeat (first | exact (Kd.R_reads' HO238.out).2.2 | (with_reducible refine Kd.C_alloc ?_ _) | (with_reducible refine Kd.C_drewN ?_ _) | (with_reducible refine Kd.C_drew ?_))); (case aB => exact (hset HB.out)); (case aF => exact (fun k_ hk => ⟨Kd.fresh' (Kd.R_lt (Kd.rup HO235.out)) k_ hk, Kd.fresh' (Kd.R_lt (Kd.rup HO238.out)) k_ hk, Kd.fresh' (Kd.R_lt (Kd.rup HO244.out)) k_ hk⟩)); (case aO => exact (Kd.rup HO256.out)); (case aS => exact (below_size (hset HB.out))); (case aL => have := LMc12.out; omega); intro v258 w31 ho hb hg hat; rw [← Ny257.out] at ho; have n0_ := Aside0.mk (blk_grown (g := gb231) (o := .cells #[.int .i64 a0_0, .int .i64 a0_1, .int .i64 a0_2, .int .i64 a0_3, .float .f64 a0_4, .slice A0_5 l0_5.length c0_5, .int .i64 a0_6, .int .i64 a0_7, .float .f64 a0_8, .slice A0_9 l0_9.length c0_9] 49 (0, 0)) (bup BK231.out) hg (Kd.R_ne HO256.out BK231.out (by decide))); have n1_ := Aside0.mk (Kd.R_after (ok := (fun k_ => some k_ ≠ (.slice Ao29 t236.length co29 : Value).ownBlock ∧ some k_ ≠ (.slice Ao25 t242.length co25 : Value).ownBlock)) (Kd.rup HO235.out) hg hat); have n2_ := Aside0.mk (Kd.R_after (ok := (fun k_ => some k_ ≠ (.slice Ao26 t233.length co26 : Value).ownBlock ∧ some k_ ≠ (.slice Ao25 t242.length co25 : Value).ownBlock)) (Kd.rup HO238.out) hg hat); have n3_ := Aside0.mk (Kd.R_after (ok := (fun k_ => some k_ ≠ (.slice Ao26 t233.length co26 : Value).ownBlock ∧ some k_ ≠ (.slice Ao29 t236.length co29 : Value).ownBlock)) (Kd.rup HO244.out) hg hat); have n4_ := Aside0.mk (hb); have n5_ := Aside0.mk (ho); clear BK231; clear HO235; clear HO238; clear HO244; clear HB; clear HO256; have BK231 := n0_; have HO235 := n1_; have HO238 := n2_; have HO244 := n3_; have HB := n4_; have HO259 := n5_; clear n0_ n1_ n2_ n3_ n4_ n5_; clear ho hb hg hat))
       go_ret
       exact ⟨_, by first | rfl | (simp [errW_none, errW_some] <;> rfl) | (simp [*, errW_none, errW_some] <;> rfl), by exact Kd.rup (Kd.R_mono HO259.out (fun _ hk => trivial)), hset HB.out⟩
      ·rw [if_neg c12] at H
       exact absurd H (by simp)
     ·rw [if_neg c11] at H
      exact absurd H (by simp)
    ·rw [if_neg c10] at H
     exact absurd H (by simp)
   ·rw [if_neg c9] at H
    exact absurd H (by simp)
  ·rw [if_neg c8] at H
   exact absurd H (by simp)
 ·replace c3 := Bool.eq_false_iff.mpr c3
  subst c3
  rw [if_neg (show ¬ (false = true) by decide)] at H
  (try dsimp only at H)
  obtain rfl := Option.some.inj H
  go_enter Try.func32, Try.ntmps32
  go_wp2_with (first | ((with_reducible refine gate_dst (N := 1) rfl ?_); refine box_event ?hg (N := 1) ?hd (cs := #[.int .i64 a0_0, .int .i64 a0_1, .int .i64 a0_2, .int .i64 a0_3, .float .f64 a0_4, .slice A0_5 l0_5.length c0_5, .int .i64 a0_6, .int .i64 a0_7, .float .f64 a0_8, .slice A0_9 l0_9.length c0_9]) (t := 49) ?hr ?_; (case hd => rfl); (case hg => rfl); (case hr => first | (go_simp; done) | (go_simp; rfl)); intro gb231 hg w32 hbox hb; have n0_ := Aside0.mk (below_step (hup HB.out) hb); have n1_ := Aside0.mk (hbox); have n2_ := Geq.mk ((by rw [hg]; exact (below_size (hup HB.out)) : w.heap.size ≤ gb231)); have n3_ := Geq.mk ((by rw [hg]; exact (below_size (hup HB.out)) : w.heap.size ≤ gb231)); clear HB; have HB := n0_; have BK231 := n1_; have GW231 := n2_; have GE231 := n3_; clear n0_ n1_ n2_ n3_; clear hb hbox hg; obtain ⟨hcz33_0, hcz33_1, hcz33_2, hcz33_3, hcz33_4, hcz33_5, hcz33_6, hcz33_7, hcz33_8, hcz33_9⟩ := blk_cells10 BK231.out; obtain ⟨hfz33_0, hfz33_1, hfz33_2, hfz33_3, hfz33_4, hfz33_5, hfz33_6, hfz33_7, hfz33_8, hfz33_9⟩ := blk_frozens10 BK231.out) | ((with_reducible refine gate_callee (f := 42) rfl ?_); refine goesL_ (some 7) rfl rfl Try.func42 (by kernel_rfl) rfl #[.agg #[.int .i64 a0_0, .int .i64 a0_1, .int .i64 a0_2, .int .i64 a0_3, .float .f64 a0_4, .slice A0_5 l0_5.length c0_5, .int .i64 a0_6, .int .i64 a0_7, .float .f64 a0_8, .slice A0_9 l0_9.length c0_9]] rfl (by (try simp only [List.map_toArray, List.map_cons, List.map_nil]); first | done | rfl) ?_; (with_reducible refine (spec_TupleOk.calls k a0_0 a0_1 a0_2 a0_3 a0_4 _ _ l0_5 a0_6 a0_7 a0_8 _ _ l0_9 false _ ?side1 ?side2 ?side3 ?side4 A2.out).mono ?_); (case side1 => repeat (first | exact (Kd.C_below HR0_5.out HB.out) | (with_reducible refine Kd.C_alloc ?_ _) | (with_reducible refine Kd.C_drewN ?_ _) | (with_reducible refine Kd.C_drew ?_))); (case side2 => exact HC0_5.out); (case side3 => repeat (first | exact (Kd.C_below HR0_9.out HB.out) | (with_reducible refine Kd.C_alloc ?_ _) | (with_reducible refine Kd.C_drewN ?_ _) | (with_reducible refine Kd.C_drew ?_))); (case side4 => exact HC0_9.out); rintro e w34 ⟨rfl, hb⟩; refine ⟨_, rfl, ?_⟩; have n0_ := Aside0.mk (blk_below (bup BK231.out) hb); have n1_ := Aside0.mk (below_step (hset HB.out) hb); clear BK231; clear HB; have BK231 := n0_; have HB := n1_; clear n0_ n1_; (try clear hb); (try clear hb2); (try clear hk); (try clear hi)))
  go_ret
  exact ⟨_, by first | rfl | (simp [errW_none, errW_some] <;> rfl) | (simp [*, errW_none, errW_some] <;> rfl), by first | exact Kd.R_nil _ _ _ _ _ | exact Kd.N_nil _ _ _ _ _ | exact Kd.V_nil _ _ _ _ _ | exact Kd.Q_nil _ _ _ _ _ | exact Kd.S_nil _ _ _ _ _, hset HB.out⟩
theorem spec_TupleBytes.inv0 (k : Nat) (a0_0 : Int) (a0_1 : Int) (a0_2 : Int) (a0_3 : Int) (a0_4 : Nat) (l0_5 : List Int) (a0_6 : Int) (a0_7 : Int) (a0_8 : Nat) (l0_9 : List Int) : spec_TupleBytes.f k a0_0 a0_1 a0_2 a0_3 (cn a0_4) l0_5 a0_6 a0_7 a0_8 l0_9 = spec_TupleBytes.f k a0_0 a0_1 a0_2 a0_3 a0_4 l0_5 a0_6 a0_7 a0_8 l0_9 := by
  by_cases h_ : nanw a0_4
  · unfold spec_TupleBytes.f
    first
      | (simp only [spec_ValueBytes.inv0, spec_KeyBytes.inv0, spec_TupleOk.inv0, spec_TupleOk.inv1, cn_zero, feq_cn_l, feq_cn_r, fls_cn_l, fls_cn_r, fgt_cn_l, fgt_cn_r, fle_cn_l, fle_cn_r, fge_cn_l, fge_cn_r]; done)
      | (simp only [spec_ValueBytes.inv0, spec_KeyBytes.inv0, spec_TupleOk.inv0, spec_TupleOk.inv1, cn_zero, feq_cn_l, feq_cn_r, fls_cn_l, fls_cn_r, fgt_cn_l, fgt_cn_r, fle_cn_l, fle_cn_r, fge_cn_l, fge_cn_r, feq_nan_l h_, feq_nan_l (cn_nanw h_), Bool.false_eq_true, if_false]; done)
      | (simp [feq_nan_l h_, feq_nan_l (cn_nanw h_)]; done)
  · rw [cn_num h_]
theorem spec_TupleBytes.inv1 (k : Nat) (a0_0 : Int) (a0_1 : Int) (a0_2 : Int) (a0_3 : Int) (a0_4 : Nat) (l0_5 : List Int) (a0_6 : Int) (a0_7 : Int) (a0_8 : Nat) (l0_9 : List Int) : spec_TupleBytes.f k a0_0 a0_1 a0_2 a0_3 a0_4 l0_5 a0_6 a0_7 (cn a0_8) l0_9 = spec_TupleBytes.f k a0_0 a0_1 a0_2 a0_3 a0_4 l0_5 a0_6 a0_7 a0_8 l0_9 := by
  by_cases h_ : nanw a0_8
  · unfold spec_TupleBytes.f
    first
      | (simp only [spec_ValueBytes.inv0, spec_KeyBytes.inv0, spec_TupleOk.inv0, spec_TupleOk.inv1, cn_zero, feq_cn_l, feq_cn_r, fls_cn_l, fls_cn_r, fgt_cn_l, fgt_cn_r, fle_cn_l, fle_cn_r, fge_cn_l, fge_cn_r]; done)
      | (simp only [spec_ValueBytes.inv0, spec_KeyBytes.inv0, spec_TupleOk.inv0, spec_TupleOk.inv1, cn_zero, feq_cn_l, feq_cn_r, fls_cn_l, fls_cn_r, fgt_cn_l, fgt_cn_r, fle_cn_l, fle_cn_r, fge_cn_l, fge_cn_r, feq_nan_l h_, feq_nan_l (cn_nanw h_), Bool.false_eq_true, if_false]; done)
      | (simp [feq_nan_l h_, feq_nan_l (cn_nanw h_)]; done)
  · rw [cn_num h_]
mutual
def spec_GetNum.j0 : Nat → List Int → Int → Int → Bool → Option (Int × Bool)
  | 0, _, _, _, _ => none
  | k + 1, x0, x1, x2, x34 => if x34 = true then (some (0, false)) else (spec_GetNum.l0 k x0 x1 0 (wrap64 (x2 - 1)))
def spec_GetNum.l0 : Nat → List Int → Int → Int → Int → Option (Int × Bool)
  | 0, _, _, _, _ => none
  | k + 1, x0, x1, x8, x9 => if x9 ≥ 0 then (if 0 ≤ (wrap64 (x1 + x9)) then (if (wrap64 (x1 + x9)) < (x0.length : Int) then (if x9 = 7 then (if (wrap64 (rd x0 (wrap64 (x1 + x9)))) > 127 then (some (0, false)) else (spec_GetNum.l0 k x0 x1 (wrap64 ((wrap64 (x8 * 256)) + (wrap64 (rd x0 (wrap64 (x1 + x9)))))) (wrap64 (x9 - 1)))) else (spec_GetNum.l0 k x0 x1 (wrap64 ((wrap64 (x8 * 256)) + (wrap64 (rd x0 (wrap64 (x1 + x9)))))) (wrap64 (x9 - 1)))) else (none)) else (none)) else (some (x8, true))
end
def spec_GetNum.f (k : Nat) (l0 : List Int) (a1 : Int) (a2 : Int) : Option (Int × Bool) := if a2 < 1 then (spec_GetNum.j0 k l0 a1 a2 true) else (if a2 > 8 then (spec_GetNum.j0 k l0 a1 a2 true) else (if a1 < 0 then (spec_GetNum.j0 k l0 a1 a2 true) else (if a1 > (l0.length : Int) then (spec_GetNum.j0 k l0 a1 a2 true) else (spec_GetNum.j0 k l0 a1 a2 (decide (a2 > (wrap64 ((l0.length : Int) - a1))))))))
theorem spec_GetNum.mono_l : ∀ k, (∀ y0 y1 y2 y3, LeO (spec_GetNum.j0 k y0 y1 y2 y3) (spec_GetNum.j0 (k + 1) y0 y1 y2 y3)) ∧ (∀ y0 y1 y2 y3, LeO (spec_GetNum.l0 k y0 y1 y2 y3) (spec_GetNum.l0 (k + 1) y0 y1 y2 y3))
  | 0 => ⟨fun _ _ _ _ r h => by simp [spec_GetNum.j0] at h, fun _ _ _ _ r h => by simp [spec_GetNum.l0] at h⟩
  | k + 1 => by
    obtain ⟨ih0, ih1⟩ := spec_GetNum.mono_l k
    refine ⟨?_, ?_⟩
    · intro y0 y1 y2 y3
      unfold spec_GetNum.j0
      repeat' with_reducible first | exact ih0 _ _ _ _ | exact ih1 _ _ _ _ | exact LeO.refl _ | exact LeO.none _ | refine LeO.ite ?_ ?_ | refine LeO.bind ?_ (fun _ => ?_)
    · intro y0 y1 y2 y3
      unfold spec_GetNum.l0
      repeat' with_reducible first | exact ih0 _ _ _ _ | exact ih1 _ _ _ _ | exact LeO.refl _ | exact LeO.none _ | refine LeO.ite ?_ ?_ | refine LeO.bind ?_ (fun _ => ?_)
theorem spec_GetNum.mono : ∀ a0 a1 a2 k, LeO (spec_GetNum.f k a0 a1 a2) (spec_GetNum.f (k + 1) a0 a1 a2) := by
  intro a0 a1 a2 k
  obtain ⟨ih0, ih1⟩ := spec_GetNum.mono_l k
  unfold spec_GetNum.f
  repeat' with_reducible first | exact ih0 _ _ _ _ | exact ih1 _ _ _ _ | exact LeO.refl _ | exact LeO.none _ | refine LeO.ite ?_ ?_ | refine LeO.bind ?_ (fun _ => ?_)
set_option maxHeartbeats 8000000 in
set_option maxRecDepth 100000 in
theorem spec_GetNum.calls (k : Nat) (A0 : Option Addr) (c0 : Nat) (l0 : List Int) (a1 : Int) (a2 : Int) (r1 : Int) (r2 : Bool) (w : World) (hr0 : Kd.C (Kd.int .u8) w A0 l0.length l0) (hc0 : l0.length ≤ c0) (h : spec_GetNum.f k l0 a1 a2 = some (r1, r2)) :
    Calls Try.prog 75 #[.slice A0 l0.length c0, .int .i64 a1, .int .i64 a2] w fun e w' => e = .returned (.tuple #[.int .i64 r1, .bool r2]) ∧ Drawn0 w w' := by
  have HR0 := Aside0.mk hr0
  have HC0 := Aside0.mk hc0
  clear hr0 hc0
  have H := h
  clear h
  unfold spec_GetNum.f at H
  have HC4 := Aside0.mk H
  clear H
  go_enter Try.func75, Try.ntmps75
  go_upto_region 1 with (fail)
  go_cut [34] (fun v34 wc => ∃ (kq : Nat) (x34_3 : Bool), v34 = .bool x34_3 ∧ Aside0 (spec_GetNum.j0 kq l0 a1 a2 x34_3 = some (r1, r2)) ∧ Aside0 (kq ≤ k) ∧ Drawn0 w wc)
  case first =>
    have H := HC4.out
    clear HC4
    by_cases c5 : a2 < 1
    · rw [if_pos c5] at H
      have c5b0 : decide (a2 < 1) = true := decide_eq_true c5
      clear c5
      (first | rw [c5b0] | (simp only [i64_w, i32_w]; rw [c5b0]) | skip)
      have H' := Aside0.mk H
      clear H
      go_wp2
      go_meet
      case rel => exact ⟨_, (true), (by first | rfl | (simp; done) | (simp [*]; done)), H', ⟨by first | omega | exact Nat.le_refl _⟩, by repeat (first | exact Drawn0.refl _ | apply Drawn0.step)⟩
    · rw [if_neg c5] at H
      have c5b0 : decide (a2 < 1) = false := decide_eq_false c5
      clear c5
      (first | rw [c5b0] | (simp only [i64_w, i32_w]; rw [c5b0]) | skip)
      by_cases c6 : a2 > 8
      · rw [if_pos c6] at H
        have c6b0 : decide (8 < a2) = true := decide_eq_true c6
        clear c6
        have H' := Aside0.mk H
        clear H
        go_wp2
        go_meet
        case rel => exact ⟨_, (true), (by first | rfl | (simp; done) | (simp [*]; done)), H', ⟨by first | omega | exact Nat.le_refl _⟩, by repeat (first | exact Drawn0.refl _ | apply Drawn0.step)⟩
      · rw [if_neg c6] at H
        have c6b0 : decide (8 < a2) = false := decide_eq_false c6
        clear c6
        by_cases c7 : a1 < 0
        · rw [if_pos c7] at H
          have c7b0 : decide (a1 < 0) = true := decide_eq_true c7
          clear c7
          have H' := Aside0.mk H
          clear H
          go_wp2
          go_meet
          case rel => exact ⟨_, (true), (by first | rfl | (simp; done) | (simp [*]; done)), H', ⟨by first | omega | exact Nat.le_refl _⟩, by repeat (first | exact Drawn0.refl _ | apply Drawn0.step)⟩
        · rw [if_neg c7] at H
          have c7b0 : decide (a1 < 0) = false := decide_eq_false c7
          clear c7
          by_cases c8 : a1 > (l0.length : Int)
          · rw [if_pos c8] at H
            have c8b0 : decide ((l0.length : Int) < a1) = true := decide_eq_true c8
            clear c8
            have H' := Aside0.mk H
            clear H
            go_wp2
            go_meet
            case rel => exact ⟨_, (true), (by first | rfl | (simp; done) | (simp [*]; done)), H', ⟨by first | omega | exact Nat.le_refl _⟩, by repeat (first | exact Drawn0.refl _ | apply Drawn0.step)⟩
          · rw [if_neg c8] at H
            have c8b0 : decide ((l0.length : Int) < a1) = false := decide_eq_false c8
            clear c8
            have H' := Aside0.mk H
            clear H
            go_wp2
            go_meet
            case rel => exact ⟨_, (decide (a2 > (wrap64 ((l0.length : Int) - a1)))), (by first | rfl | (simp; done) | (simp [*]; done)), H', ⟨by first | omega | exact Nat.le_refl _⟩, by repeat (first | exact Drawn0.refl _ | apply Drawn0.step)⟩
  case rest =>
    clear HC4
    try clear p2
    try clear c5
    try clear c5b0
    try clear c6
    try clear c6b0
    try clear p6
    try clear c7
    try clear c7b0
    try clear c8
    try clear c8b0
    obtain ⟨kq, x34_3, rfl, HA, HJ3, ⟨mc3, rfl⟩⟩ := hcut
    cases kq with
    | zero => exact absurd HA.out (by simp [spec_GetNum.j0])
    | succ kj3 =>
      have H := HA.out
      clear HA
      simp only [spec_GetNum.j0] at H
      by_cases c9 : x34_3 = true
      · subst c9
        rw [if_pos rfl] at H
        (try dsimp only at H)
        simp only [Option.some.injEq, Prod.mk.injEq] at H
        obtain ⟨rfl, rfl⟩ := H
        go_wp2
        go_ret2
        exact ⟨by first | rfl | (simp; done) | (simp [*]; done), by repeat (first | exact Drawn0.refl _ | apply Drawn0.step)⟩
      · replace c9 := Bool.eq_false_iff.mpr c9
        subst c9
        rw [if_neg (show ¬ (false = true) by decide)] at H
        (try dsimp only at H)
        have H' := Aside0.mk H
        clear H
        go_wp2
        go_loopg [8, 9] kj3 (fun kq v8 v9 w' => ∃ (x8_2 : Int) (x9_2 : Int), v8 = .int .i64 x8_2 ∧ v9 = .int .i64 x9_2 ∧ Aside0 (spec_GetNum.l0 kq l0 a1 x8_2 x9_2 = some (r1, r2)) ∧ Aside0 (kq ≤ kj3) ∧ Drawn0 w w')
        case atStart => exact ⟨(0), (wrap64 (a2 - 1)), (by first | rfl | (simp; done) | (simp [*]; done)), (by first | rfl | (simp; done) | (simp [*]; done)), H', ⟨Nat.le_refl _⟩, by repeat (first | exact Drawn0.refl _ | apply Drawn0.step)⟩
        case round =>
          clear H'
          try clear p2
          try clear c3
          try clear c5
          try clear c5b0
          try clear c6
          try clear c6b0
          try clear p6
          try clear c7
          try clear c7b0
          try clear c8
          try clear c8b0
          try clear c9
          try clear p2
          try clear p6
          obtain ⟨x8_2, x9_2, rfl, rfl, HA, HK2, ⟨m2, rfl⟩⟩ := hrel
          cases gk with
          | zero => exact absurd HA.out (by simp [spec_GetNum.l0])
          | succ k2 =>
            have H := HA.out
            clear HA
            simp only [spec_GetNum.l0] at H
            by_cases c10 : x9_2 ≥ 0
            · rw [if_pos c10] at H
              have c10b0 : decide (0 ≤ x9_2) = true := decide_eq_true c10
              clear c10
              obtain ⟨ji11, hji11⟩ : ∃ j_ : Int, (wrap64 (a1 + x9_2)) = j_ := ⟨_, rfl⟩
              replace H : (if 0 ≤ (ji11) then (if (ji11) < (l0.length : Int) then (if x9_2 = 7 then (if (wrap64 (rd l0 (ji11))) > 127 then (some (0, false)) else (spec_GetNum.l0 k2 l0 a1 (wrap64 ((wrap64 (x8_2 * 256)) + (wrap64 (rd l0 (ji11))))) (wrap64 (x9_2 - 1)))) else (spec_GetNum.l0 k2 l0 a1 (wrap64 ((wrap64 (x8_2 * 256)) + (wrap64 (rd l0 (ji11))))) (wrap64 (x9_2 - 1)))) else (none)) else (none)) = some (r1, r2) := by first | (rw [hji11] at H; exact H) | (simp only [hji11] at H ⊢; exact H)
              have hji11w : (IntKind.i64.wrap (a1 + x9_2)) = ji11 := (i64_w _).trans hji11
              by_cases c12 : 0 ≤ (ji11)
              · rw [if_pos c12] at H
                have c12b0 : decide (0 ≤ (ji11)) = true := decide_eq_true c12
                clear c12
                by_cases c13 : (ji11) < (l0.length : Int)
                · rw [if_pos c13] at H
                  have c13b0 : decide ((ji11) < (l0.length : Int)) = true := decide_eq_true c13
                  clear c13
                  by_cases c14 : x9_2 = 7
                  · rw [if_pos c14] at H
                    have c14b0 : (x9_2 == 7) = true := beq_iff_eq.mpr c14
                    have c14b1 : (x9_2 != 7) = false := bne_eq_false_iff_eq.mpr c14
                    clear c14
                    by_cases c15 : (wrap64 (rd l0 (ji11))) > 127
                    · rw [if_pos c15] at H
                      have c15b0 : decide (127 < (wrap64 (rd l0 (ji11)))) = true := decide_eq_true c15
                      clear c15
                      simp only [Option.some.injEq, Prod.mk.injEq] at H
                      obtain ⟨rfl, rfl⟩ := H
                      have p260 : 0 ≤ ((ji11) : Int) := of_decide_eq_true (by first | (with_reducible assumption) | assumption)
                      have q260 : (ji11) < (l0.length : Int) := of_decide_eq_true (by first | (with_reducible assumption) | assumption)
                      obtain ⟨ad260, e260, hx260_0⟩ := Kd.at_int HR0.out (ji11) p260 q260
                      cases e260
                      replace p260 := eq_true p260
                      replace q260 := eq_true q260
                      go_wp2
                      go_ret2
                      exact ⟨by first | rfl | (simp; done) | (simp only [← hji11] <;> (first | rfl | simp)) | (simp [*]; done), by repeat (first | exact Drawn0.refl _ | apply Drawn0.step)⟩
                    · rw [if_neg c15] at H
                      have c15b0 : decide (127 < (wrap64 (rd l0 (ji11)))) = false := decide_eq_false c15
                      clear c15
                      have H' := Aside0.mk H
                      clear H
                      have p260 : 0 ≤ ((ji11) : Int) := of_decide_eq_true (by first | (with_reducible assumption) | assumption)
                      have q260 : (ji11) < (l0.length : Int) := of_decide_eq_true (by first | (with_reducible assumption) | assumption)
                      obtain ⟨ad260, e260, hx260_0⟩ := Kd.at_int HR0.out (ji11) p260 q260
                      cases e260
                      replace p260 := eq_true p260
                      replace q260 := eq_true q260
                      go_wp2
                      go_roundg k2
                      case measure => have := HJ3.out; have := HK2.out; omega
                      case rel => exact ⟨(wrap64 ((wrap64 (x8_2 * 256)) + (wrap64 (rd l0 (ji11))))), (wrap64 (x9_2 - 1)), (by first | rfl | (simp; done) | (simp only [← hji11] <;> (first | rfl | simp)) | (simp [*]; done)), (by first | rfl | (simp; done) | (simp [*]; done)), H', ⟨by have := HJ3.out; have := HK2.out; omega⟩, by repeat (first | exact Drawn0.refl _ | apply Drawn0.step)⟩
                  · rw [if_neg c14] at H
                    have c14b0 : (x9_2 == 7) = false := beq_eq_false_iff_ne.mpr c14
                    have c14b1 : (x9_2 != 7) = true := bne_iff_ne.mpr c14
                    have H' := Aside0.mk H
                    clear H
                    have p260 : 0 ≤ ((ji11) : Int) := of_decide_eq_true (by first | (with_reducible assumption) | assumption)
                    have q260 : (ji11) < (l0.length : Int) := of_decide_eq_true (by first | (with_reducible assumption) | assumption)
                    obtain ⟨ad260, e260, hx260_0⟩ := Kd.at_int HR0.out (ji11) p260 q260
                    cases e260
                    replace p260 := eq_true p260
                    replace q260 := eq_true q260
                    go_wp2
                    go_roundg k2
                    case measure => have := HJ3.out; have := HK2.out; omega
                    case rel => exact ⟨(wrap64 ((wrap64 (x8_2 * 256)) + (wrap64 (rd l0 (ji11))))), (wrap64 (x9_2 - 1)), (by first | rfl | (simp; done) | (simp only [← hji11] <;> (first | rfl | simp)) | (simp [*]; done)), (by first | rfl | (simp; done) | (simp [*]; done)), H', ⟨by have := HJ3.out; have := HK2.out; omega⟩, by repeat (first | exact Drawn0.refl _ | apply Drawn0.step)⟩
                · rw [if_neg c13] at H
                  exact absurd H (by simp)
              · rw [if_neg c12] at H
                exact absurd H (by simp)
            · rw [if_neg c10] at H
              have c10b0 : decide (0 ≤ x9_2) = false := decide_eq_false c10
              clear c10
              simp only [Option.some.injEq, Prod.mk.injEq] at H
              obtain ⟨rfl, rfl⟩ := H
              go_wp2
              go_ret2
              exact ⟨by first | rfl | (simp; done) | (simp [*]; done), by repeat (first | exact Drawn0.refl _ | apply Drawn0.step)⟩
end Go.Proofs.Ytjjkhlphdbmdfaa.PFnExactTupleRead
