import Derived.Test.YtjjkhlphdbmdfaaZFnExactTupleRead30
import Derived.Test.YtjjkhlphdbmdfaaZFnExactTupleRead34
import Derived.Test.YtjjkhlphdbmdfaaZFnExactTupleRead36
import Derived.Test.YtjjkhlphdbmdfaaZFnExactTupleRead37
namespace Go.Proofs.Ytjjkhlphdbmdfaa.PFnExactTupleRead
open Go.RowKit Go.Proofs.YtjjkhlphdbmdfaaW.PrintWords Go.Proofs.YtjjkhlphdbmdfaaW.PrintLast Go.Proofs.YtjjkhlphdbmdfaaW.PrintMore
attribute [local go_sem] max2_int min2_int max_two min_two max_three min_three max_four min_four   -- for this text's walks alone
attribute [local go_sem high] fl_eql fl_neq fl_lss fl_leq fl_gtr fl_geq fl_add fl_sub fl_mul fl_quo fl_neg fl_ofInt fl_toInt fl_store sub_sign ext_bits ext_from fl_nan_quo fl_nan_add fl_nan_mul fl_nan_sub
open Go.Proofs.YtjjkhlphdbmdfaaW.PrintWords renaming below_alloc → h1, pw_below_drewN → h2, below_drew1 → h3, below_set → h4, blk_drewN → b1, blk_drew → b2, blk_alloc → b3
set_option linter.unusedVariables false
set_option linter.unusedSimpArgs false
def spec_TupleRead.j0 : Nat → List Int → Bool → Int → Int → Int → Int → Nat → Int → Int → Nat → Option (Int × Int × Int × Int × Nat × List Int × Int × Int × Nat × List Int × Bool)
 | 0, _, _, _, _, _, _, _, _, _, _ => none
 | k + 1, x0, x17, x263000, x263001, x263002, x263003, x263004, x263006, x263007, x263008 => if x17 = true then (some (x263000, x263001, x263002, x263003, x263004, ([] : List Int), x263006, x263007, x263008, ([] : List Int), false)) else ((spec_GetNum.f k x0 0 4).bind fun bt263 => ((spec_GetNum.f k x0 4 4).bind fun bt265 => (if 8 < (x0.length : Int) then (if (wrap64 (rd x0 8)) > (wrap64 ((x0.length : Int) - 10)) then (some (0, 0, 0, 0, 0, ([] : List Int), 0, 0, 0, ([] : List Int), false)) else (if 9 ≤ (wrap64 (9 + (wrap64 (rd x0 8)))) then (if (wrap64 (9 + (wrap64 (rd x0 8)))) ≤ (x0.length : Int) then ((spec_KeyRead.f k ((x0.take ((wrap64 (9 + (wrap64 (rd x0 8)))) : Int).toNat).drop 9)).bind fun bt269 => (if 0 ≤ (wrap64 (10 + (wrap64 (rd x0 8)))) then (if (wrap64 (10 + (wrap64 (rd x0 8)))) ≤ (x0.length : Int) then ((spec_ValueRead.f k (x0.drop ((wrap64 (10 + (wrap64 (rd x0 8)))) : Int).toNat)).bind fun bt278 => (if bt269.2.2.2.2 = true then (if bt278.2.2.2.2 = true then ((spec_TupleBytes.f k bt263.1 bt265.1 bt269.1 bt269.2.1 bt269.2.2.1 bt269.2.2.2.1 bt278.1 bt278.2.1 bt278.2.2.1 bt278.2.2.2.1).bind fun t286 => (if (strOfNums t286).toList = (strOfNums x0).toList then (some (bt263.1, bt265.1, bt269.1, bt269.2.1, bt269.2.2.1, bt269.2.2.2.1, bt278.1, bt278.2.1, bt278.2.2.1, bt278.2.2.2.1, true)) else (some (0, 0, 0, 0, 0, ([] : List Int), 0, 0, 0, ([] : List Int), false)))) else (some (0, 0, 0, 0, 0, ([] : List Int), 0, 0, 0, ([] : List Int), false))) else (some (0, 0, 0, 0, 0, ([] : List Int), 0, 0, 0, ([] : List Int), false)))) else (none)) else (none))) else (none)) else (none))) else (none))))
def spec_TupleRead.f (k : Nat) (l0 : List Int) : Option (Int × Int × Int × Int × Nat × List Int × Int × Int × Nat × List Int × Bool) := if (l0.length : Int) < 10 then (spec_TupleRead.j0 k l0 true 0 0 0 0 0 0 0 0) else (spec_TupleRead.j0 k l0 (decide ((l0.length : Int) > 92)) 0 0 0 0 0 0 0 0)
theorem spec_TupleRead.mono_l : ∀ k, (∀ y0 y1 y2 y3 y4 y5 y6 y7 y8 y9, LeO (spec_TupleRead.j0 k y0 y1 y2 y3 y4 y5 y6 y7 y8 y9) (spec_TupleRead.j0 (k + 1) y0 y1 y2 y3 y4 y5 y6 y7 y8 y9))
 | 0 => fun _ _ _ _ _ _ _ _ _ _ r h => by simp [spec_TupleRead.j0] at h
 | k + 1 => by
  have ih0 := spec_TupleRead.mono_l k
  ·intro y0 y1 y2 y3 y4 y5 y6 y7 y8 y9
   unfold spec_TupleRead.j0
   repeat' with_reducible first | exact ih0 _ _ _ _ _ _ _ _ _ _ | exact spec_GetNum.mono _ _ _ _ | exact spec_KeyRead.mono _ _ | exact spec_TupleBytes.mono _ _ _ _ _ _ _ _ _ _ _ | exact spec_ValueRead.mono _ _ | exact LeO.refl _ | exact LeO.none _ | refine LeO.ite ?_ ?_ | refine LeO.bind ?_ (fun _ => ?_)
theorem spec_TupleRead.mono : ∀ a0 k, LeO (spec_TupleRead.f k a0) (spec_TupleRead.f (k + 1) a0) := by
 intro a0 k
 have ih0 := spec_TupleRead.mono_l k
 unfold spec_TupleRead.f
 repeat' with_reducible first | exact ih0 _ _ _ _ _ _ _ _ _ _ | exact spec_GetNum.mono _ _ _ _ | exact spec_KeyRead.mono _ _ | exact spec_TupleBytes.mono _ _ _ _ _ _ _ _ _ _ _ | exact spec_ValueRead.mono _ _ | exact LeO.refl _ | exact LeO.none _ | refine LeO.ite ?_ ?_ | refine LeO.bind ?_ (fun _ => ?_)
def spec_TupleRead.T13 : Bool × List (List Nat × List Nat) := (true, [([], []), ([0], [0]), ([1], [1]), ([2], [2]), ([3, 2], [2, 3]), ([2, 4], [2, 4]), ([5, 2], [5]), ([6], [6]), ([7, 6, 6], [6, 7]), ([8, 6], [6, 8]), ([6], [6]), ([10, 6], [6, 10]), ([9, 11, 6], [6, 9, 11]), ([6, 12], [6, 12])])
def spec_TupleRead.B13 : List Nat := [0, 1, 3, 7, 15, 31, 63, 127, 255, 511, 127, 1151, 4095, 8191]
theorem spec_TupleRead.tab13 : rtab .any (opsOf Try.f38 13) = spec_TupleRead.T13 := by kernel_rfl
theorem spec_TupleRead.bits13 : waitsOk spec_TupleRead.T13.2 spec_TupleRead.B13 = true := by kernel_rfl
set_option maxHeartbeats 8000000 in
set_option maxRecDepth 100000 in
theorem spec_TupleRead.callsC (k : Nat) (A0 : Option Addr) (c0 : Nat) (l0 : List Int) (r1 : Int) (r2 : Int) (r3 : Int) (r4 : Int) (r5 : Nat) (r6 : List Int) (r7 : Int) (r8 : Int) (r9 : Nat) (r10 : List Int) (r11 : Bool) (w : World) (hr0 : Kd.C (Kd.int .u8) w A0 l0.length l0) (hc0 : l0.length ≤ c0) (h : spec_TupleRead.f k l0 = some (r1, r2, r3, r4, r5, r6, r7, r8, r9, r10, r11)) :
  Calls Try.prog 38 #[.slice A0 l0.length c0] w fun e w' => ∃ b1_ : Nat, ∃ b2_ : Nat, ∃ v5_ v9_ : Value, e = .returned (.tuple #[.agg #[.int .i64 r1, .int .i64 r2, .int .i64 r3, .int .i64 r4, .float .f64 b1_, v5_, .int .i64 r7, .int .i64 r8, .float .f64 b2_, v9_], .bool r11]) ∧ Kd.R (Kd.int .u8) 5 w' w.heap.size (fun k_ => some k_ ≠ (v9_ : Value).ownBlock) v5_ r6 ∧ Kd.R (Kd.int .u8) 5 w' w.heap.size (fun k_ => some k_ ≠ (v5_ : Value).ownBlock) v9_ r10 ∧ Below w.heap.size w w' ∧ Aside0 (cn b1_ = r5 ∧ b1_ < 2 ^ 64) ∧ Aside0 (cn b2_ = r9 ∧ b2_ < 2 ^ 64) := by
 have hu49 := Try.underlying49
 have hu25 := Try.underlying25
 have HR0 := Aside0.mk hr0
 have HC0 := Aside0.mk hc0
 clear hr0 hc0
 have HB := Aside0.mk (Below.refl w.heap.size w)
 have H := h
 clear h
 unfold spec_TupleRead.f at H
 have HC2 := Aside0.mk H
 clear H
 go_enter Try.func38, Try.ntmps38
 go_upto_region 2 with (first | ((with_reducible refine gate_dst (N := 2) rfl ?_); (try (refine gate_guard (by rfl) ?_; dsimp only)); refine box_event ?hg (N := 2) ?hd (cs := #[.int .i64 0, .int .i64 0, .int .i64 0, .int .i64 0, .float .f64 0, .slice none 0 0, .int .i64 0, .int .i64 0, .float .f64 0, .slice none 0 0]) (t := 49) ?hr ?_; (case hd => rfl); (case hg => rfl); (case hr => first | (go_simp; done) | (go_simp; rfl)); intro gb261 hg w3 hbox hb; have n0_ := Aside0.mk (below_step (hup HB.out) hb); have n1_ := Aside0.mk (hbox); have n2_ := Geq.mk ((by rw [hg]; exact (below_size (hup HB.out)) : w.heap.size ≤ gb261)); have n3_ := Geq.mk ((by rw [hg]; exact (below_size (hup HB.out)) : w.heap.size ≤ gb261)); clear HB; have HB := n0_; have BK261 := n1_; have GW261 := n2_; have GE261 := n3_; clear n0_ n1_ n2_ n3_; clear hb hbox hg) | ((with_reducible refine gate_dst (N := 4) rfl ?_); (try (refine gate_guard (by rfl) ?_; dsimp only)); refine box_event ?hg (N := 4) ?hd (cs := #[.int .i64 0, .int .i64 0, .int .i64 0, .int .i64 0, .float .f64 0, .slice none 0 0, .int .i64 0, .int .i64 0, .float .f64 0, .slice none 0 0]) (t := 49) ?hr ?_; (case hd => rfl); (case hg => rfl); (case hr => first | (go_simp; done) | (go_simp; rfl)); intro gb262 hg w4 hbox hb; have n0_ := Aside0.mk (blk_below (bup BK261.out) hb); have n1_ := Aside0.mk (below_step (hset HB.out) hb); have n2_ := Aside0.mk (hbox); have n3_ := Geq.mk ((by rw [hg]; exact (below_size (hset HB.out)) : w.heap.size ≤ gb262)); have n4_ := Geq.mk ((by rw [hg]; exact (below_size (hset HB.out)) : w.heap.size ≤ gb262)); have n5_ := Neq.mk ((by rw [hg]; exact Nat.ne_of_lt (blk_lt (g := gb261) (o := .cells #[.int .i64 0, .int .i64 0, .int .i64 0, .int .i64 0, .float .f64 0, .slice none 0 0, .int .i64 0, .int .i64 0, .float .f64 0, .slice none 0 0] 49 (0, 0)) (bup BK261.out)) : gb261 ≠ gb262)); have n6_ := Neq.mk ((by rw [hg]; exact Nat.ne_of_gt (blk_lt (g := gb261) (o := .cells #[.int .i64 0, .int .i64 0, .int .i64 0, .int .i64 0, .float .f64 0, .slice none 0 0, .int .i64 0, .int .i64 0, .float .f64 0, .slice none 0 0] 49 (0, 0)) (bup BK261.out)) : gb262 ≠ gb261)); clear BK261; clear HB; have BK261 := n0_; have HB := n1_; have BK262 := n2_; have GW262 := n3_; have GE262 := n4_; have NB261_262 := n5_; have NB262_261 := n6_; clear n0_ n1_ n2_ n3_ n4_ n5_ n6_; clear hb hbox hg))
 (try simp only [Act.put, List.setIfInBounds_toArray, List.set_cons_zero, List.set_cons_succ])
 go_cut [17] (fun v17 wc => ∃ (kq : Nat) (x17_1 : Bool), v17 = .bool x17_1 ∧ Aside0 (spec_TupleRead.j0 kq l0 x17_1 0 0 0 0 0 0 0 0 = some (r1, r2, r3, r4, r5, r6, r7, r8, r9, r10, r11)) ∧ Aside0 (kq ≤ k) ∧ Aside0 (wc.heap[gb261]? = some (.cells #[.int .i64 0, .int .i64 0, .int .i64 0, .int .i64 0, .float .f64 0, (.slice none 0 0), .int .i64 0, .int .i64 0, .float .f64 0, (.slice none 0 0)] 49 (0, 0))) ∧ Aside0 (wc.heap[gb262]? = some (.cells #[.int .i64 0, .int .i64 0, .int .i64 0, .int .i64 0, .float .f64 0, (.slice none 0 0), .int .i64 0, .int .i64 0, .float .f64 0, (.slice none 0 0)] 49 (0, 0))) ∧ Aside0 (Below w.heap.size w wc))
 case first =>
  have H := HC2.out
  clear HC2
  by_cases c5 : (l0.length : Int) < 10
  ·rw [if_pos c5] at H
   have c5b0 : decide ((l0.length : Int) < 10) = true := decide_eq_true c5
   have c5b1 : decide (l0.length < 10) = true := decide_eq_true (by omega)
   clear c5
   (first | rw [c5b0] | (simp only [i64_w, i32_w]; rw [c5b0]) | skip)
   have H' := Aside0.mk H
   clear H
   go_wp2
   go_meet
   case rel => exact ⟨_, (true), (by first | rfl | (simp; done) | (simp [*]; done)), H', ⟨by first | omega | exact Nat.le_refl _⟩, ⟨by exact bup BK261.out⟩, ⟨by exact bup BK262.out⟩, ⟨hset HB.out⟩⟩
  ·rw [if_neg c5] at H
   have c5b0 : decide ((l0.length : Int) < 10) = false := decide_eq_false c5
   have c5b1 : decide (l0.length < 10) = false := decide_eq_false (by omega)
   clear c5
   (first | rw [c5b0] | (simp only [i64_w, i32_w]; rw [c5b0]) | skip)
   have H' := Aside0.mk H
   clear H
   go_wp2
   go_meet
   case rel => exact ⟨_, (decide ((l0.length : Int) > 92)), (by first | rfl | (simp; done) | (simp [*]; done)), H', ⟨by first | omega | exact Nat.le_refl _⟩, ⟨by exact bup BK261.out⟩, ⟨by exact bup BK262.out⟩, ⟨hset HB.out⟩⟩
 case rest =>
  clear HC2
  try clear p2
  try clear c3
  try clear c5
  try clear c5b0
  try clear c5b1
  obtain ⟨kq, x17_1, rfl, HA, HJ1, BK261, BK262, HB⟩ := hcut
  cases kq with
  | zero => exact absurd HA.out (by simp [spec_TupleRead.j0])
  | succ kj1 =>
   have H := HA.out
   clear HA
   simp only [spec_TupleRead.j0] at H
   by_cases c6 : x17_1 = true
   ·subst c6
    rw [if_pos rfl] at H
    (try dsimp only at H)
    simp only [Option.some.injEq, Prod.mk.injEq] at H
    obtain ⟨rfl, rfl, rfl, rfl, rfl, rfl, rfl, rfl, rfl, rfl, rfl⟩ := H
    have hnb7 := NB262_261.out
    have hnc7 := NB261_262.out
    obtain ⟨hcz8_0, hcz8_1, hcz8_2, hcz8_3, hcz8_4, hcz8_5, hcz8_6, hcz8_7, hcz8_8, hcz8_9⟩ := blk_cells10 BK262.out
    obtain ⟨hfz8_0, hfz8_1, hfz8_2, hfz8_3, hfz8_4, hfz8_5, hfz8_6, hfz8_7, hfz8_8, hfz8_9⟩ := blk_frozens10 BK262.out
    obtain ⟨hcz9_0, hcz9_1, hcz9_2, hcz9_3, hcz9_4, hcz9_5, hcz9_6, hcz9_7, hcz9_8, hcz9_9⟩ := blk_cells10 BK261.out
    obtain ⟨hfz9_0, hfz9_1, hfz9_2, hfz9_3, hfz9_4, hfz9_5, hfz9_6, hfz9_7, hfz9_8, hfz9_9⟩ := blk_frozens10 BK261.out
    go_wp2
    refine bodyPost_ret (results_ct rfl _ _ gb261 49 #[.int .i64 0, .int .i64 0, .int .i64 0, .int .i64 0, .float .f64 0, .slice none 0 0, .int .i64 0, .int .i64 0, .float .f64 0, .slice none 0 0] (0, 0) _ rfl (bput BK261.out) Try.underlying49 rfl (by kernel_rfl)) rfl ?_
    exact ⟨_, _, _, _, by first | rfl | (simp [errW_none, errW_some] <;> rfl) | (simp [*, errW_none, errW_some] <;> rfl), by first | exact Kd.R_nil _ _ _ _ _ | exact Kd.N_nil _ _ _ _ _ | exact Kd.V_nil _ _ _ _ _ | exact Kd.Q_nil _ _ _ _ _ | exact Kd.S_nil _ _ _ _ _, by first | exact Kd.R_nil _ _ _ _ _ | exact Kd.N_nil _ _ _ _ _ | exact Kd.V_nil _ _ _ _ _ | exact Kd.Q_nil _ _ _ _ _ | exact Kd.S_nil _ _ _ _ _, hset HB.out, (by first | exact ⟨⟨by first | rfl | decide, by decide⟩⟩), (by first | exact ⟨⟨by first | rfl | decide, by decide⟩⟩)⟩
   ·replace c6 := Bool.eq_false_iff.mpr c6
    subst c6
    rw [if_neg (show ¬ (false = true) by decide)] at H
    (try dsimp only at H)
    replace H := Option.bind_eq_some_iff.mp H
    obtain ⟨⟨t263, t264⟩, A100, H⟩ := H
    (try dsimp only at H)
    have A10 := Aside0.mk A100
    clear A100
    replace H := Option.bind_eq_some_iff.mp H
    obtain ⟨⟨t265, t266⟩, A110, H⟩ := H
    (try dsimp only at H)
    have A11 := Aside0.mk A110
    clear A110
    by_cases c12 : 8 < (l0.length : Int)
    ·rw [if_pos c12] at H
     have c12b0 : decide (8 < (l0.length : Int)) = true := decide_eq_true c12
     have c12b1 : decide (8 < l0.length) = true := decide_eq_true (by omega)
     clear c12
     repeat (first | ((with_reducible refine gate_callee (f := 75) rfl ?_); refine goesL_ (some 21) rfl rfl Try.func75 (by kernel_rfl) rfl #[.slice A0 l0.length c0, .int .i64 0, .int .i64 4] rfl (by (try simp only [List.map_toArray, List.map_cons, List.map_nil]); first | done | rfl) ?_; (with_reducible refine (spec_GetNum.calls kj1 _ _ l0 0 4 t263 t264 _ ?side1 ?side2 A10.out).mono ?_); (case side1 => repeat (first | exact (Kd.C_below HR0.out HB.out) | (with_reducible refine Kd.C_alloc ?_ _) | (with_reducible refine Kd.C_drewN ?_ _) | (with_reducible refine Kd.C_drew ?_))); (case side2 => exact HC0.out); rintro e w' ⟨rfl, ⟨nd, rfl⟩⟩; refine ⟨_, rfl, ?_⟩; (try (rw [drewN_self wc]; generalize hq_ : World.drewN wc _ = wc; have n0_ : Aside0 (wc.heap[gb261]? = some (.cells #[.int .i64 0, .int .i64 0, .int .i64 0, .int .i64 0, .float .f64 0, .slice none 0 0, .int .i64 0, .int .i64 0, .float .f64 0, .slice none 0 0] 49 (0, 0))) := ⟨by rw [← hq_]; exact (bup BK261.out)⟩; have n1_ : Aside0 (wc.heap[gb262]? = some (.cells #[.int .i64 0, .int .i64 0, .int .i64 0, .int .i64 0, .float .f64 0, .slice none 0 0, .int .i64 0, .int .i64 0, .float .f64 0, .slice none 0 0] 49 (0, 0))) := ⟨by rw [← hq_]; exact (bup BK262.out)⟩; have n2_ : Aside0 (Below w.heap.size w wc) := ⟨by rw [← hq_]; exact (hset HB.out)⟩; clear BK261 BK262 HB hq_; have BK261 := n0_; have BK262 := n1_; have HB := n2_; clear n0_ n1_ n2_)); have hnb14 := NB262_261.out; have hnc14 := NB261_262.out; obtain ⟨hcz15_0, hcz15_1, hcz15_2, hcz15_3, hcz15_4, hcz15_5, hcz15_6, hcz15_7, hcz15_8, hcz15_9⟩ := blk_cells10 BK262.out; obtain ⟨hfz15_0, hfz15_1, hfz15_2, hfz15_3, hfz15_4, hfz15_5, hfz15_6, hfz15_7, hfz15_8, hfz15_9⟩ := blk_frozens10 BK262.out) | ((fail_if_success (with_reducible refine gate_callee (f := 75) rfl ?_)); first | go_values | go_skip | go_guarded | go_step | go_upon | go_back | (simp only [Int.not_lt, Int.not_le] at *; go_simp)))
     (with_reducible refine gate_callee (f := 75) rfl ?_); refine goesL_ (some 27) rfl rfl Try.func75 (by kernel_rfl) rfl #[.slice A0 l0.length c0, .int .i64 4, .int .i64 4] rfl (by (try simp only [List.map_toArray, List.map_cons, List.map_nil]); first | done | rfl) ?_; (with_reducible refine (spec_GetNum.calls kj1 _ _ l0 4 4 t265 t266 _ ?side1 ?side2 A11.out).mono ?_); (case side1 => exact Kd.C_below HR0.out (hset HB.out)); (case side2 => exact HC0.out); rintro e w' ⟨rfl, ⟨nd, rfl⟩⟩; refine ⟨_, rfl, ?_⟩; have p267 : 0 ≤ (8 : Int) := (by omega); have q267 : 8 < (l0.length : Int) := of_decide_eq_true (by first | (with_reducible assumption) | assumption); obtain ⟨ad267, e267, hx267_0⟩ := Kd.at_int HR0.out 8 p267 q267; cases e267; (try simp only [show (8 : Int).toNat = 8 from rfl, Nat.reduceMul, Nat.reduceEqDiff, Go.Addr.add, ↓reduceIte] at hx267_0); have qi267 : (8 < l0.length) = True := eq_true (by omega); (try rw [show ((8 : Int)).toNat = 8 from rfl] at hx267_0); have hn267_0 : ad267.block ≠ gb262 := Nat.ne_of_lt (Nat.lt_of_lt_of_le (by have := World.block_lt_of_cell? _ _ hx267_0; first | rwa [add_block] at this | exact this) GW262.out); have hn267_1 : ad267.block ≠ gb262 := Nat.ne_of_lt (Nat.lt_of_lt_of_le (by have := World.block_lt_of_cell? _ _ hx267_0; first | rwa [add_block] at this | exact this) GW262.out); replace hx267_0 := (HB.out.cell (World.block_lt_of_cell? w _ hx267_0)).trans hx267_0; have hy267_0 := hx267_0; replace hx267_0 := (cell_far (p := ⟨gb262, 0, none⟩) (by first | (rw [add_block]; exact hn267_0) | (show (Addr.add _ _).block ≠ _; rw [add_block]; exact hn267_0) | exact hn267_0) (.int .i64 t263)).trans hx267_0; replace hx267_0 := (cell_far (p := ⟨gb262, 1, none⟩) (by first | (rw [add_block]; exact hn267_1) | (show (Addr.add _ _).block ≠ _; rw [add_block]; exact hn267_1) | exact hn267_1) (.int .i64 t265)).trans hx267_0; clear hn267_0; clear hn267_1; replace p267 := eq_true p267; replace q267 := eq_true q267
     by_cases c13 : (wrap64 (rd l0 8)) > (wrap64 ((l0.length : Int) - 10))
     ·rw [if_pos c13] at H
      have c13b0 : decide ((wrap64 ((l0.length : Int) - 10)) < (wrap64 (rd l0 8))) = true := decide_eq_true c13
      (try simp only [c13b0, Bool.not_true, Bool.not_false])
      clear c13
      simp only [Option.some.injEq, Prod.mk.injEq] at H
      obtain ⟨rfl, rfl, rfl, rfl, rfl, rfl, rfl, rfl, rfl, rfl, rfl⟩ := H
      obtain ⟨hcz16_0, hcz16_1, hcz16_2, hcz16_3, hcz16_4, hcz16_5, hcz16_6, hcz16_7, hcz16_8, hcz16_9⟩ := blk_cells10 BK261.out; obtain ⟨hfz16_0, hfz16_1, hfz16_2, hfz16_3, hfz16_4, hfz16_5, hfz16_6, hfz16_7, hfz16_8, hfz16_9⟩ := blk_frozens10 BK261.out
      try go_wp2
      refine bodyPost_ret (results_ct rfl _ _ gb261 49 #[.int .i64 0, .int .i64 0, .int .i64 0, .int .i64 0, .float .f64 0, .slice none 0 0, .int .i64 0, .int .i64 0, .float .f64 0, .slice none 0 0] (0, 0) _ rfl (bput BK261.out) Try.underlying49 rfl (by kernel_rfl)) rfl ?_
      exact ⟨_, _, _, _, by first | rfl | (simp [errW_none, errW_some] <;> rfl) | (simp [*, errW_none, errW_some] <;> rfl), by first | exact Kd.R_nil _ _ _ _ _ | exact Kd.N_nil _ _ _ _ _ | exact Kd.V_nil _ _ _ _ _ | exact Kd.Q_nil _ _ _ _ _ | exact Kd.S_nil _ _ _ _ _, by first | exact Kd.R_nil _ _ _ _ _ | exact Kd.N_nil _ _ _ _ _ | exact Kd.V_nil _ _ _ _ _ | exact Kd.Q_nil _ _ _ _ _ | exact Kd.S_nil _ _ _ _ _, hset HB.out, (by first | exact ⟨⟨by first | rfl | decide, by decide⟩⟩), (by first | exact ⟨⟨by first | rfl | decide, by decide⟩⟩)⟩
     ·rw [if_neg c13] at H
      have c13b0 : decide ((wrap64 ((l0.length : Int) - 10)) < (wrap64 (rd l0 8))) = false := decide_eq_false c13
      (try simp only [c13b0, Bool.not_true, Bool.not_false])
      clear c13
      by_cases c17 : 9 ≤ (wrap64 (9 + (wrap64 (rd l0 8))))
      ·rw [if_pos c17] at H
       have c17b0 := eq_true c17
       have c17b1 : decide (9 ≤ (wrap64 (9 + (wrap64 (rd l0 8))))) = true := decide_eq_true c17
       (try simp only [c17b0, c17b1, Bool.not_true, Bool.not_false])
       by_cases c18 : (wrap64 (9 + (wrap64 (rd l0 8)))) ≤ (l0.length : Int)
       ·rw [if_pos c18] at H
        have c18b0 := eq_true c18
        have c18b1 : decide ((wrap64 (9 + (wrap64 (rd l0 8)))) ≤ (l0.length : Int)) = true := decide_eq_true c18
        (try simp only [c18b0, c18b1, Bool.not_true, Bool.not_false])
        replace H := Option.bind_eq_some_iff.mp H
        obtain ⟨⟨t269, t270, t271, t272, t275⟩, A190, H⟩ := H
        (try dsimp only at H)
        have A19 := Aside0.mk A190
        clear A190
        obtain ⟨ji20, hji20⟩ : ∃ j_ : Int, (wrap64 (10 + (wrap64 (rd l0 8)))) = j_ := ⟨_, rfl⟩
        replace H : (if 0 ≤ (ji20) then (if (ji20) ≤ (l0.length : Int) then ((spec_ValueRead.f kj1 (l0.drop ((ji20) : Int).toNat)).bind fun bt278 => (if t275 = true then (if bt278.2.2.2.2 = true then ((spec_TupleBytes.f kj1 t263 t265 t269 t270 t271 t272 bt278.1 bt278.2.1 bt278.2.2.1 bt278.2.2.2.1).bind fun t286 => (if (strOfNums t286).toList = (strOfNums l0).toList then (some (t263, t265, t269, t270, t271, t272, bt278.1, bt278.2.1, bt278.2.2.1, bt278.2.2.2.1, true)) else (some (0, 0, 0, 0, 0, ([] : List Int), 0, 0, 0, ([] : List Int), false)))) else (some (0, 0, 0, 0, 0, ([] : List Int), 0, 0, 0, ([] : List Int), false))) else (some (0, 0, 0, 0, 0, ([] : List Int), 0, 0, 0, ([] : List Int), false)))) else (none)) else (none)) = some (r1, r2, r3, r4, r5, r6, r7, r8, r9, r10, r11) := by first | (rw [hji20] at H; exact H) | (simp only [hji20] at H ⊢; exact H)
        (try rw [hji20] at A10)
        (try rw [hji20] at A11)
        (try rw [hji20] at A19)
        have hji20w : (IntKind.i64.wrap (10 + (wrap64 (rd l0 8)))) = ji20 := (i64_w _).trans hji20
        by_cases c21 : 0 ≤ (ji20)
        ·rw [if_pos c21] at H
         have c21b0 := eq_true c21
         have c21b1 : decide (0 ≤ (ji20)) = true := decide_eq_true c21
         (try simp only [c21b0, c21b1, Bool.not_true, Bool.not_false])
         clear c21
         by_cases c22 : (ji20) ≤ (l0.length : Int)
         ·rw [if_pos c22] at H
          have c22b0 := eq_true c22
          have c22b1 : decide ((ji20) ≤ (l0.length : Int)) = true := decide_eq_true c22
          (try simp only [c22b0, c22b1, Bool.not_true, Bool.not_false])
          clear c22
          replace H := Option.bind_eq_some_iff.mp H
          obtain ⟨⟨t278, t279, t280, t281, t284⟩, A230, H⟩ := H
          (try dsimp only at H)
          have A23 := Aside0.mk A230
          clear A230
          obtain ⟨i030, hi030, _, hsz30, _⟩ := info_parts info5; obtain ⟨A30, hcut30, hA30, hC30⟩ := print_mid_of (P := Try.prog) (Value.int .u8) 0 22 5 .i64 .i64 Try.underlying22 hi030 hsz30 (some ad267) c0 l0 9 (wrap64 (9 + (wrap64 (rd l0 8)))) (by omega) (by first | omega | exact of_decide_eq_true (by first | (with_reducible assumption) | assumption)) (of_decide_eq_true (by first | (with_reducible assumption) | assumption)) HC0.out; have HR268 := Aside0.mk (Kd.C_of_reads (h1 := fun _ => rfl) (hA30 _ (Kd.reads_of_C HR0.out))); have HC268 := Aside0.mk hC30; clear hA30 hC30 hi030 hsz30
          repeat (first | ((fail_if_success (with_reducible refine gate_callee (f := 17) rfl ?_)); first | go_values | go_skip | go_guarded | go_step | go_upon | go_back | (simp only [Int.not_lt, Int.not_le] at *; go_simp)))
          (with_reducible refine gate_callee (f := 17) rfl ?_); refine goesL_ (some 46) rfl rfl Try.func17 (by kernel_rfl) rfl #[.slice A30 ((l0.take ((wrap64 (9 + (wrap64 (rd l0 8)))) : Int).toNat).drop 9).length (c0 - 9)] rfl (by (try simp only [List.map_toArray, List.map_cons, List.map_nil]); first | done | (rw [show ((l0.take ((wrap64 (9 + (wrap64 (rd l0 8)))) : Int).toNat).drop 9).length = ((wrap64 (9 + (wrap64 (rd l0 8)))).toNat - 9) from (by rw [List.length_drop, List.length_take]; have h_ : ((wrap64 (9 + (wrap64 (rd l0 8)))) : Int) ≤ (l0.length : Int) := of_decide_eq_true (by first | (with_reducible assumption) | assumption); omega)] <;> rfl) | rfl | (simp only [List.length_drop, List.length_take]; rfl)) ?_; (with_reducible refine (spec_KeyRead.callsC kj1 _ _ ((l0.take ((wrap64 (9 + (wrap64 (rd l0 8)))) : Int).toNat).drop 9) t269 t270 t271 t272 t275 _ ?side1 ?side2 A19.out).mono ?_); (case side1 => exact Kd.C_below HR268.out (hset HB.out)); (case side2 => exact HC268.out); rintro e w31 ⟨b271, v273, rfl, ho0, hb, ⟨⟨hcnb271, hltb271⟩⟩⟩; refine ⟨_, rfl, ?_⟩; have LTb271 := Aside0.mk hltb271; clear hltb271; subst hcnb271; have n0_ := Aside0.mk (Kd.R_lower ho0 (below_size (hset HB.out))); have n1_ := Aside0.mk (blk_below (g := gb261) (o := .cells #[.int .i64 0, .int .i64 0, .int .i64 0, .int .i64 0, .float .f64 0, .slice none 0 0, .int .i64 0, .int .i64 0, .float .f64 0, .slice none 0 0] 49 (0, 0)) (bput BK261.out) hb); have n2_ := Aside0.mk (blk_below (g := gb262) (o := .cells #[.int .i64 t263, .int .i64 t265, .int .i64 0, .int .i64 0, .float .f64 0, .slice none 0 0, .int .i64 0, .int .i64 0, .float .f64 0, .slice none 0 0] 49 (0, 0)) (bput BK262.out) hb); have n3_ := Aside0.mk (below_step (hset HB.out) hb); clear BK261; clear BK262; clear HB; have HO274 := n0_; have BK261 := n1_; have BK262 := n2_; have HB := n3_; clear n0_ n1_ n2_ n3_; (try clear hb); (try clear hb2); (try clear hk); (try clear hi); (try clear ho0)
          by_cases c24 : t275 = true
          ·subst c24
           rw [if_pos rfl] at H
           (try dsimp only at H)
           try go_wp2_with (first | ((with_reducible refine gate_dst (N := 6) rfl ?_); (try (refine gate_guard (by rfl) ?_; dsimp only)); refine box_event ?hg (N := 6) ?hd (cs := #[.int .i64 0, .int .i64 0, .float .f64 0, .slice none 0 0]) (t := 25) ?hr ?_; (case hd => rfl); (case hg => rfl); (case hr => first | (go_simp; done) | (go_simp; rfl)); intro gb276 hg w32 hbox hb; have n0_ := Aside0.mk (Kd.R_below (Kd.rup HO274.out) hb); have n1_ := Aside0.mk (blk_below (bup BK261.out) hb); have n2_ := Aside0.mk (blk_below (bup BK262.out) hb); have n3_ := Aside0.mk (below_step (hset HB.out) hb); have n4_ := Aside0.mk (hbox); have n5_ := Geq.mk ((by rw [hg]; exact (below_size (hset HB.out)) : w.heap.size ≤ gb276)); have n6_ := Geq.mk ((by rw [hg]; exact (below_size (hset HB.out)) : w.heap.size ≤ gb276)); have n7_ := Neq.mk ((by rw [hg]; exact Nat.ne_of_lt (blk_lt (g := gb261) (o := .cells #[.int .i64 0, .int .i64 0, .int .i64 0, .int .i64 0, .float .f64 0, .slice none 0 0, .int .i64 0, .int .i64 0, .float .f64 0, .slice none 0 0] 49 (0, 0)) (bup BK261.out)) : gb261 ≠ gb276)); have n8_ := Neq.mk ((by rw [hg]; exact Nat.ne_of_gt (blk_lt (g := gb261) (o := .cells #[.int .i64 0, .int .i64 0, .int .i64 0, .int .i64 0, .float .f64 0, .slice none 0 0, .int .i64 0, .int .i64 0, .float .f64 0, .slice none 0 0] 49 (0, 0)) (bup BK261.out)) : gb276 ≠ gb261)); have n9_ := Neq.mk ((by rw [hg]; exact Nat.ne_of_lt (blk_lt (g := gb262) (o := .cells #[.int .i64 t263, .int .i64 t265, .int .i64 0, .int .i64 0, .float .f64 0, .slice none 0 0, .int .i64 0, .int .i64 0, .float .f64 0, .slice none 0 0] 49 (0, 0)) (bup BK262.out)) : gb262 ≠ gb276)); have n10_ := Neq.mk ((by rw [hg]; exact Nat.ne_of_gt (blk_lt (g := gb262) (o := .cells #[.int .i64 t263, .int .i64 t265, .int .i64 0, .int .i64 0, .float .f64 0, .slice none 0 0, .int .i64 0, .int .i64 0, .float .f64 0, .slice none 0 0] 49 (0, 0)) (bup BK262.out)) : gb276 ≠ gb262)); clear HO274; clear BK261; clear BK262; clear HB; have HO274 := n0_; have BK261 := n1_; have BK262 := n2_; have HB := n3_; have BK276 := n4_; have GW276 := n5_; have GE276 := n6_; have NB261_276 := n7_; have NB276_261 := n8_; have NB262_276 := n9_; have NB276_262 := n10_; clear n0_ n1_ n2_ n3_ n4_ n5_ n6_ n7_ n8_ n9_ n10_; clear hb hbox hg; have hnb33 := NB276_261.out; have hnc33 := NB261_276.out; have hnb34 := NB276_262.out; have hnc34 := NB262_276.out; obtain ⟨hcz35_0, hcz35_1, hcz35_2, hcz35_3⟩ := blk_cells4 BK276.out; obtain ⟨hfz35_0, hfz35_1, hfz35_2, hfz35_3⟩ := blk_frozens4 BK276.out; obtain ⟨Ao36, co36, eo36⟩ := Kd.R_slice HO274.out; subst eo36; obtain ⟨i037, hi037, _, hsz37, _⟩ := info_parts info5; obtain ⟨A37, hcut37, hA37, hC37⟩ := print_drop_of (P := Try.prog) (Value.int .u8) 0 22 5 .i64 Try.underlying22 hi037 hsz37 (some ad267) c0 l0 (ji20) (of_decide_eq_true (by first | (with_reducible assumption) | assumption)) (of_decide_eq_true (by first | (with_reducible assumption) | assumption)) HC0.out; have HR277 := Aside0.mk (Kd.C_of_reads (h1 := fun _ => rfl) (hA37 _ (Kd.reads_of_C HR0.out))); have HC277 := Aside0.mk hC37; clear hA37 hC37 hi037 hsz37) | ((with_reducible refine gate_callee (f := 9) rfl ?_); refine goesL_ (some 54) rfl rfl Try.func9 (by kernel_rfl) rfl #[.slice A37 (l0.drop ((ji20) : Int).toNat).length (c0 - (ji20).toNat)] rfl (by (try simp only [List.map_toArray, List.map_cons, List.map_nil]); first | done | (rw [show (l0.drop ((ji20) : Int).toNat).length = (l0.length - (ji20).toNat) from List.length_drop] <;> rfl) | (simp only [hji20]; rfl) | rfl | (simp only [List.length_drop, List.length_take]; rfl)) ?_; (with_reducible refine (spec_ValueRead.callsC kj1 _ _ (l0.drop ((ji20) : Int).toNat) t278 t279 t280 t281 t284 _ ?side1 ?side2 A23.out).mono ?_); (case side1 => exact Kd.C_below HR277.out (hset HB.out)); (case side2 => exact HC277.out); rintro e w38 ⟨b280, v282, rfl, ho0, hb, ⟨⟨hcnb280, hltb280⟩⟩⟩; refine ⟨_, rfl, ?_⟩; have LTb280 := Aside0.mk hltb280; clear hltb280; subst hcnb280; have n0_ := Aside0.mk (Kd.R_elder' ((Kd.roff1 HO274.out BK276.out (by decide))) (Kd.R_base ho0) hb); have n1_ := Aside0.mk (Kd.R_lower (Kd.R_new' ho0 (Kd.R_lt ((Kd.roff1 HO274.out BK276.out (by decide))))) (below_size (hset HB.out))); have n2_ := Aside0.mk (blk_below (g := gb261) (o := .cells #[.int .i64 0, .int .i64 0, .int .i64 0, .int .i64 0, .float .f64 0, .slice none 0 0, .int .i64 0, .int .i64 0, .float .f64 0, .slice none 0 0] 49 (0, 0)) (bput BK261.out) hb); have n3_ := Aside0.mk (blk_below (g := gb262) (o := .cells #[.int .i64 t263, .int .i64 t265, .int .i64 0, .int .i64 0, .float .f64 0, .slice none 0 0, .int .i64 0, .int .i64 0, .float .f64 0, .slice none 0 0] 49 (0, 0)) (bput BK262.out) hb); have n4_ := Aside0.mk (blk_below (g := gb276) (o := .cells #[.int .i64 t269, .int .i64 t270, .float .f64 b271, .slice Ao36 t272.length co36] 25 (0, 0)) (bput BK276.out) hb); have n5_ := Aside0.mk (below_step (hset HB.out) hb); clear HO274; clear BK261; clear BK262; clear BK276; clear HB; have HO274 := n0_; have HO283 := n1_; have BK261 := n2_; have BK262 := n3_; have BK276 := n4_; have HB := n5_; clear n0_ n1_ n2_ n3_ n4_ n5_; (try clear hb); (try clear hb2); (try clear hk); (try clear hi); (try clear ho0)) | ((with_reducible refine gate_dst (N := 8) rfl ?_); (try (refine gate_guard (by rfl) ?_; dsimp only)); refine box_event ?hg (N := 8) ?hd (cs := #[.int .i64 0, .int .i64 0, .float .f64 0, .slice none 0 0]) (t := 25) ?hr ?_; (case hd => rfl); (case hg => rfl); (case hr => first | (go_simp; done) | (go_simp; rfl)); intro gb285 hg w39 hbox hb; have n0_ := Aside0.mk (Kd.R_below (Kd.rup HO274.out) hb); have n1_ := Aside0.mk (Kd.R_below (Kd.rup HO283.out) hb); have n2_ := Aside0.mk (blk_below (bup BK261.out) hb); have n3_ := Aside0.mk (blk_below (bup BK262.out) hb); have n4_ := Aside0.mk (blk_below (bup BK276.out) hb); have n5_ := Aside0.mk (below_step (hset HB.out) hb); have n6_ := Aside0.mk (hbox); have n7_ := Geq.mk ((by rw [hg]; exact (below_size (hset HB.out)) : w.heap.size ≤ gb285)); have n8_ := Geq.mk ((by rw [hg]; exact (below_size (hset HB.out)) : w.heap.size ≤ gb285)); have n9_ := Neq.mk ((by rw [hg]; exact Nat.ne_of_lt (blk_lt (g := gb261) (o := .cells #[.int .i64 0, .int .i64 0, .int .i64 0, .int .i64 0, .float .f64 0, .slice none 0 0, .int .i64 0, .int .i64 0, .float .f64 0, .slice none 0 0] 49 (0, 0)) (bup BK261.out)) : gb261 ≠ gb285)); have n10_ := Neq.mk ((by rw [hg]; exact Nat.ne_of_gt (blk_lt (g := gb261) (o := .cells #[.int .i64 0, .int .i64 0, .int .i64 0, .int .i64 0, .float .f64 0, .slice none 0 0, .int .i64 0, .int .i64 0, .float .f64 0, .slice none 0 0] 49 (0, 0)) (bup BK261.out)) : gb285 ≠ gb261)); have n11_ := Neq.mk ((by rw [hg]; exact Nat.ne_of_lt (blk_lt (g := gb262) (o := .cells #[.int .i64 t263, .int .i64 t265, .int .i64 0, .int .i64 0, .float .f64 0, .slice none 0 0, .int .i64 0, .int .i64 0, .float .f64 0, .slice none 0 0] 49 (0, 0)) (bup BK262.out)) : gb262 ≠ gb285)); have n12_ := Neq.mk ((by rw [hg]; exact Nat.ne_of_gt (blk_lt (g := gb262) (o := .cells #[.int .i64 t263, .int .i64 t265, .int .i64 0, .int .i64 0, .float .f64 0, .slice none 0 0, .int .i64 0, .int .i64 0, .float .f64 0, .slice none 0 0] 49 (0, 0)) (bup BK262.out)) : gb285 ≠ gb262)); have n13_ := Neq.mk ((by rw [hg]; exact Nat.ne_of_lt (blk_lt (g := gb276) (o := .cells #[.int .i64 t269, .int .i64 t270, .float .f64 b271, .slice Ao36 t272.length co36] 25 (0, 0)) (bup BK276.out)) : gb276 ≠ gb285)); have n14_ := Neq.mk ((by rw [hg]; exact Nat.ne_of_gt (blk_lt (g := gb276) (o := .cells #[.int .i64 t269, .int .i64 t270, .float .f64 b271, .slice Ao36 t272.length co36] 25 (0, 0)) (bup BK276.out)) : gb285 ≠ gb276)); clear HO274; clear HO283; clear BK261; clear BK262; clear BK276; clear HB; have HO274 := n0_; have HO283 := n1_; have BK261 := n2_; have BK262 := n3_; have BK276 := n4_; have HB := n5_; have BK285 := n6_; have GW285 := n7_; have GE285 := n8_; have NB261_285 := n9_; have NB285_261 := n10_; have NB262_285 := n11_; have NB285_262 := n12_; have NB276_285 := n13_; have NB285_276 := n14_; clear n0_ n1_ n2_ n3_ n4_ n5_ n6_ n7_ n8_ n9_ n10_ n11_ n12_ n13_ n14_; clear hb hbox hg; have hnb40 := NB285_261.out; have hnc40 := NB261_285.out; have hnb41 := NB285_262.out; have hnc41 := NB262_285.out; have hnb42 := NB285_276.out; have hnc42 := NB276_285.out; obtain ⟨hcz43_0, hcz43_1, hcz43_2, hcz43_3⟩ := blk_cells4 BK285.out; obtain ⟨hfz43_0, hfz43_1, hfz43_2, hfz43_3⟩ := blk_frozens4 BK285.out; obtain ⟨Ao44, co44, eo44⟩ := Kd.R_slice HO283.out; subst eo44; obtain ⟨hcz45_0, hcz45_1, hcz45_2, hcz45_3⟩ := blk_cells4 BK276.out; obtain ⟨hfz45_0, hfz45_1, hfz45_2, hfz45_3⟩ := blk_frozens4 BK276.out; obtain ⟨hcz46_0, hcz46_1, hcz46_2, hcz46_3, hcz46_4, hcz46_5, hcz46_6, hcz46_7, hcz46_8, hcz46_9⟩ := blk_cells10 BK262.out; obtain ⟨hfz46_0, hfz46_1, hfz46_2, hfz46_3, hfz46_4, hfz46_5, hfz46_6, hfz46_7, hfz46_8, hfz46_9⟩ := blk_frozens10 BK262.out))
           have n0_ : Aside0 (Kd.R (Kd.int .u8) 5 ((((((((((((w39.setCell ⟨gb285, 0, none⟩ (.int .i64 t278)).setCell ⟨gb285, 1, none⟩ (.int .i64 t279)).setCell ⟨gb285, 2, none⟩ (.float .f64 b280)).setCell ⟨gb285, 3, none⟩ (.slice Ao44 t281.length co44)).setCell ⟨gb262, 2, none⟩ (.int .i64 t269)).setCell ⟨gb262, 3, none⟩ (.int .i64 t270)).setCell ⟨gb262, 4, none⟩ (.float .f64 b271)).setCell ⟨gb262, 5, none⟩ (.slice Ao36 t272.length co36)).setCell ⟨gb262, 6, none⟩ (.int .i64 t278)).setCell ⟨gb262, 7, none⟩ (.int .i64 t279)).setCell ⟨gb262, 8, none⟩ (.float .f64 b280)).setCell ⟨gb262, 9, none⟩ (.slice Ao44 t281.length co44)) w.heap.size (fun k_ => some k_ ≠ (.slice Ao44 t281.length co44 : Value).ownBlock) (.slice Ao36 t272.length co36) t272) := ⟨(Kd.R_mono (Kd.roff2 HO274.out BK285.out (by decide) BK262.out (by decide)) (fun _ hk => hk.2))⟩
           have n1_ : Aside0 (Kd.R (Kd.int .u8) 5 ((((((((((((w39.setCell ⟨gb285, 0, none⟩ (.int .i64 t278)).setCell ⟨gb285, 1, none⟩ (.int .i64 t279)).setCell ⟨gb285, 2, none⟩ (.float .f64 b280)).setCell ⟨gb285, 3, none⟩ (.slice Ao44 t281.length co44)).setCell ⟨gb262, 2, none⟩ (.int .i64 t269)).setCell ⟨gb262, 3, none⟩ (.int .i64 t270)).setCell ⟨gb262, 4, none⟩ (.float .f64 b271)).setCell ⟨gb262, 5, none⟩ (.slice Ao36 t272.length co36)).setCell ⟨gb262, 6, none⟩ (.int .i64 t278)).setCell ⟨gb262, 7, none⟩ (.int .i64 t279)).setCell ⟨gb262, 8, none⟩ (.float .f64 b280)).setCell ⟨gb262, 9, none⟩ (.slice Ao44 t281.length co44)) w.heap.size (fun k_ => some k_ ≠ (.slice Ao36 t272.length co36 : Value).ownBlock) (.slice Ao44 t281.length co44) t281) := ⟨(Kd.R_mono (Kd.roff2 HO283.out BK285.out (by decide) BK262.out (by decide)) (fun _ hk => hk.2))⟩
           have n2_ : Aside0 (((((((((((((w39.setCell ⟨gb285, 0, none⟩ (.int .i64 t278)).setCell ⟨gb285, 1, none⟩ (.int .i64 t279)).setCell ⟨gb285, 2, none⟩ (.float .f64 b280)).setCell ⟨gb285, 3, none⟩ (.slice Ao44 t281.length co44)).setCell ⟨gb262, 2, none⟩ (.int .i64 t269)).setCell ⟨gb262, 3, none⟩ (.int .i64 t270)).setCell ⟨gb262, 4, none⟩ (.float .f64 b271)).setCell ⟨gb262, 5, none⟩ (.slice Ao36 t272.length co36)).setCell ⟨gb262, 6, none⟩ (.int .i64 t278)).setCell ⟨gb262, 7, none⟩ (.int .i64 t279)).setCell ⟨gb262, 8, none⟩ (.float .f64 b280)).setCell ⟨gb262, 9, none⟩ (.slice Ao44 t281.length co44)).heap[gb261]? = some (.cells #[.int .i64 0, .int .i64 0, .int .i64 0, .int .i64 0, .float .f64 0, .slice none 0 0, .int .i64 0, .int .i64 0, .float .f64 0, .slice none 0 0] 49 (0, 0))) := ⟨bput BK261.out⟩
           have n3_ : Aside0 (((((((((((((w39.setCell ⟨gb285, 0, none⟩ (.int .i64 t278)).setCell ⟨gb285, 1, none⟩ (.int .i64 t279)).setCell ⟨gb285, 2, none⟩ (.float .f64 b280)).setCell ⟨gb285, 3, none⟩ (.slice Ao44 t281.length co44)).setCell ⟨gb262, 2, none⟩ (.int .i64 t269)).setCell ⟨gb262, 3, none⟩ (.int .i64 t270)).setCell ⟨gb262, 4, none⟩ (.float .f64 b271)).setCell ⟨gb262, 5, none⟩ (.slice Ao36 t272.length co36)).setCell ⟨gb262, 6, none⟩ (.int .i64 t278)).setCell ⟨gb262, 7, none⟩ (.int .i64 t279)).setCell ⟨gb262, 8, none⟩ (.float .f64 b280)).setCell ⟨gb262, 9, none⟩ (.slice Ao44 t281.length co44)).heap[gb262]? = some (.cells #[.int .i64 t263, .int .i64 t265, .int .i64 t269, .int .i64 t270, .float .f64 b271, .slice Ao36 t272.length co36, .int .i64 t278, .int .i64 t279, .float .f64 b280, .slice Ao44 t281.length co44] 49 (0, 0))) := ⟨bput BK262.out⟩
           have n4_ : Aside0 (((((((((((((w39.setCell ⟨gb285, 0, none⟩ (.int .i64 t278)).setCell ⟨gb285, 1, none⟩ (.int .i64 t279)).setCell ⟨gb285, 2, none⟩ (.float .f64 b280)).setCell ⟨gb285, 3, none⟩ (.slice Ao44 t281.length co44)).setCell ⟨gb262, 2, none⟩ (.int .i64 t269)).setCell ⟨gb262, 3, none⟩ (.int .i64 t270)).setCell ⟨gb262, 4, none⟩ (.float .f64 b271)).setCell ⟨gb262, 5, none⟩ (.slice Ao36 t272.length co36)).setCell ⟨gb262, 6, none⟩ (.int .i64 t278)).setCell ⟨gb262, 7, none⟩ (.int .i64 t279)).setCell ⟨gb262, 8, none⟩ (.float .f64 b280)).setCell ⟨gb262, 9, none⟩ (.slice Ao44 t281.length co44)).heap[gb276]? = some (.cells #[.int .i64 t269, .int .i64 t270, .float .f64 b271, .slice Ao36 t272.length co36] 25 (0, 0))) := ⟨bput BK276.out⟩
           have n5_ : Aside0 (((((((((((((w39.setCell ⟨gb285, 0, none⟩ (.int .i64 t278)).setCell ⟨gb285, 1, none⟩ (.int .i64 t279)).setCell ⟨gb285, 2, none⟩ (.float .f64 b280)).setCell ⟨gb285, 3, none⟩ (.slice Ao44 t281.length co44)).setCell ⟨gb262, 2, none⟩ (.int .i64 t269)).setCell ⟨gb262, 3, none⟩ (.int .i64 t270)).setCell ⟨gb262, 4, none⟩ (.float .f64 b271)).setCell ⟨gb262, 5, none⟩ (.slice Ao36 t272.length co36)).setCell ⟨gb262, 6, none⟩ (.int .i64 t278)).setCell ⟨gb262, 7, none⟩ (.int .i64 t279)).setCell ⟨gb262, 8, none⟩ (.float .f64 b280)).setCell ⟨gb262, 9, none⟩ (.slice Ao44 t281.length co44)).heap[gb285]? = some (.cells #[.int .i64 t278, .int .i64 t279, .float .f64 b280, .slice Ao44 t281.length co44] 25 (0, 0))) := ⟨bput BK285.out⟩
           have n6_ : Aside0 (Below w.heap.size w ((((((((((((w39.setCell ⟨gb285, 0, none⟩ (.int .i64 t278)).setCell ⟨gb285, 1, none⟩ (.int .i64 t279)).setCell ⟨gb285, 2, none⟩ (.float .f64 b280)).setCell ⟨gb285, 3, none⟩ (.slice Ao44 t281.length co44)).setCell ⟨gb262, 2, none⟩ (.int .i64 t269)).setCell ⟨gb262, 3, none⟩ (.int .i64 t270)).setCell ⟨gb262, 4, none⟩ (.float .f64 b271)).setCell ⟨gb262, 5, none⟩ (.slice Ao36 t272.length co36)).setCell ⟨gb262, 6, none⟩ (.int .i64 t278)).setCell ⟨gb262, 7, none⟩ (.int .i64 t279)).setCell ⟨gb262, 8, none⟩ (.float .f64 b280)).setCell ⟨gb262, 9, none⟩ (.slice Ao44 t281.length co44))) := ⟨hset HB.out⟩
           (try clear HO274)
           (try clear HO283)
           (try clear BK261)
           (try clear BK262)
           (try clear BK276)
           (try clear BK285)
           (try clear HB)
           generalize ((((((((((((w39.setCell ⟨gb285, 0, none⟩ (.int .i64 t278)).setCell ⟨gb285, 1, none⟩ (.int .i64 t279)).setCell ⟨gb285, 2, none⟩ (.float .f64 b280)).setCell ⟨gb285, 3, none⟩ (.slice Ao44 t281.length co44)).setCell ⟨gb262, 2, none⟩ (.int .i64 t269)).setCell ⟨gb262, 3, none⟩ (.int .i64 t270)).setCell ⟨gb262, 4, none⟩ (.float .f64 b271)).setCell ⟨gb262, 5, none⟩ (.slice Ao36 t272.length co36)).setCell ⟨gb262, 6, none⟩ (.int .i64 t278)).setCell ⟨gb262, 7, none⟩ (.int .i64 t279)).setCell ⟨gb262, 8, none⟩ (.float .f64 b280)).setCell ⟨gb262, 9, none⟩ (.slice Ao44 t281.length co44)) = w47 at n0_ n1_ n2_ n3_ n4_ n5_ n6_ ⊢
           have HO274 := n0_
           have HO283 := n1_
           have BK261 := n2_
           have BK262 := n3_
           have BK276 := n4_
           have BK285 := n5_
           have HB := n6_
           clear n0_ n1_ n2_ n3_ n4_ n5_ n6_
           have n0_ := Aside0.mk (Kd.R_drew HO274.out)
           have n1_ := Aside0.mk (Kd.R_drew HO283.out)
           have n2_ := Aside0.mk (blk_drew BK261.out)
           have n3_ := Aside0.mk (blk_drew BK262.out)
           have n4_ := Aside0.mk (blk_drew BK276.out)
           have n5_ := Aside0.mk (blk_drew BK285.out)
           have n6_ := Aside0.mk (below_drew1 HB.out)
           clear HO274
           clear HO283
           clear BK261
           clear BK262
           clear BK276
           clear BK285
           clear HB
           have HO274 := n0_
           have HO283 := n1_
           have BK261 := n2_
           have BK262 := n3_
           have BK276 := n4_
           have BK285 := n5_
           have HB := n6_
           clear n0_ n1_ n2_ n3_ n4_ n5_ n6_
           by_cases c25 : t284 = true
           ·subst c25
            rw [if_pos rfl] at H
            (try dsimp only at H)
            replace H := Option.bind_eq_some_iff.mp H
            obtain ⟨t286, A260, H⟩ := H
            (try dsimp only at H)
            have A26 := Aside0.mk A260
            clear A260
            refine start_ (n := 14) (S := fun w' => w'.cell? ⟨gb262, 0, none⟩ = some (.int .i64 t263) ∧ w'.cell? ⟨gb262, 1, none⟩ = some (.int .i64 t265) ∧ w'.cell? ⟨gb262, 2, none⟩ = some (.int .i64 t269) ∧ w'.cell? ⟨gb262, 3, none⟩ = some (.int .i64 t270) ∧ w'.cell? ⟨gb262, 4, none⟩ = some (.float .f64 b271) ∧ w'.cell? ⟨gb262, 5, none⟩ = some (.slice Ao36 t272.length co36) ∧ w'.cell? ⟨gb262, 6, none⟩ = some (.int .i64 t278) ∧ w'.cell? ⟨gb262, 7, none⟩ = some (.int .i64 t279) ∧ w'.cell? ⟨gb262, 8, none⟩ = some (.float .f64 b280) ∧ w'.cell? ⟨gb262, 9, none⟩ = some (.slice Ao44 t281.length co44) ∧ Kd.C (Kd.int .u8) w' (some ad267) l0.length l0) (ds := []) #[false, false, false, false, false, false, false, false, false, false, false, false, false, false] (by kernel_rfl) rfl rfl ⟨(blk_cell BK262.out 0).trans rfl, (blk_cell BK262.out 1).trans rfl, (blk_cell BK262.out 2).trans rfl, (blk_cell BK262.out 3).trans rfl, (blk_cell BK262.out 4).trans rfl, (blk_cell BK262.out 5).trans rfl, (blk_cell BK262.out 6).trans rfl, (blk_cell BK262.out 7).trans rfl, (blk_cell BK262.out 8).trans rfl, (blk_cell BK262.out 9).trans rfl, (Kd.C_below HR0.out HB.out)⟩ (fun hHeld => ?_); refine with_tabW spec_TupleRead.tab13 spec_TupleRead.bits13 (fun HT_ HW_ => ?_)
            generalize w47.drew = w48 at HO274 HO283 BK261 BK262 BK276 BK285 HB hHeld ⊢
            refine pure_ (i := 0) (N := some 61) (v := ?_) (a' := ?_) #[true, false, false, false, false, false, false, false, false, false, false, false, false, false] rfl rfl (any_of HT_.out (by kernel_rfl)) (fun _ _ _ h => h) (Or.inl ⟨by rfl, ?_⟩) ?_ ?_
            rotate_left
            ·intro w'
             go_simp
             with_reducible rfl
            rotate_left
            ·simp only [Act.put, List.setIfInBounds_toArray, List.set_cons_zero, List.set_cons_succ, i64_w, i32_w]
             rfl
            refine pure_ (i := 1) (N := some 62) (v := ?_) (a' := ?_) #[true, true, false, false, false, false, false, false, false, false, false, false, false, false] rfl rfl (any_of HT_.out (by kernel_rfl)) (fun _ _ _ h => h) (Or.inl ⟨by rfl, ?_⟩) ?_ ?_
            rotate_left
            ·intro w'
             go_simp
             with_reducible rfl
            rotate_left
            ·simp only [Act.put, List.setIfInBounds_toArray, List.set_cons_zero, List.set_cons_succ, i64_w, i32_w]
             rfl
            refine pure_ (i := 2) (N := some 63) (v := ?_) (a' := ?_) #[true, true, true, false, false, false, false, false, false, false, false, false, false, false] rfl rfl (any_of HT_.out (by kernel_rfl)) (fun _ _ _ h => h) (Or.inl ⟨by rfl, ?_⟩) ?_ ?_
            rotate_left
            ·intro w'
             go_simp
             with_reducible rfl
            rotate_left
            ·simp only [Act.put, List.setIfInBounds_toArray, List.set_cons_zero, List.set_cons_succ, i64_w, i32_w]
             rfl
            refine pure_ (i := 3) (N := some 64) (v := ?_) (a' := ?_) #[true, true, true, true, false, false, false, false, false, false, false, false, false, false] rfl rfl (any_of HT_.out (by kernel_rfl)) (fun _ _ _ h => h) (Or.inl ⟨by rfl, ?_⟩) ?_ ?_
            rotate_left
            ·intro w'
             go_simp
             with_reducible rfl
            rotate_left
            ·simp only [Act.put, List.setIfInBounds_toArray, List.set_cons_zero, List.set_cons_succ, i64_w, i32_w]
             rfl
            refine pure_ (i := 4) (N := some 65) (v := ?_) (a' := ?_) #[true, true, true, true, true, false, false, false, false, false, false, false, false, false] rfl rfl (any_of HT_.out (by kernel_rfl)) (fun _ _ _ h => h) (Or.inl ⟨by rfl, ?_⟩) ?_ ?_
            rotate_left
            ·intro w'
             go_simp
             with_reducible rfl
            rotate_left
            ·simp only [Act.put, List.setIfInBounds_toArray, List.set_cons_zero, List.set_cons_succ, i64_w, i32_w]
             rfl
            refine pure_ (i := 5) (N := some 66) (v := ?_) (a' := ?_) #[true, true, true, true, true, true, false, false, false, false, false, false, false, false] rfl rfl (any_of HT_.out (by kernel_rfl)) (fun _ _ _ h => h) (Or.inl ⟨by rfl, ?_⟩) ?_ ?_
            rotate_left
            ·intro w'
             go_simp
             with_reducible rfl
            rotate_left
            ·simp only [Act.put, List.setIfInBounds_toArray, List.set_cons_zero, List.set_cons_succ, i64_w, i32_w]
             rfl
            refine pure_ (i := 6) (N := some 67) (v := ?_) (a' := ?_) #[true, true, true, true, true, true, true, false, false, false, false, false, false, false] rfl rfl (any_of HT_.out (by kernel_rfl)) (fun _ _ _ h => h) (Or.inl ⟨by rfl, ?_⟩) ?_ ?_
            rotate_left
            ·intro w'
             go_simp
             with_reducible rfl
            rotate_left
            ·simp only [Act.put, List.setIfInBounds_toArray, List.set_cons_zero, List.set_cons_succ, i64_w, i32_w]
             rfl
            refine pure_ (i := 10) (N := some 71) (v := ?_) (a' := ?_) #[true, true, true, true, true, true, true, false, false, false, true, false, false, false] rfl rfl (any_of HT_.out (by kernel_rfl)) (fun _ _ _ h => h) (Or.inl ⟨by rfl, ?_⟩) ?_ ?_
            rotate_left
            ·intro w'
             go_simp
             with_reducible rfl
            rotate_left
            ·simp only [Act.put, List.setIfInBounds_toArray, List.set_cons_zero, List.set_cons_succ, i64_w, i32_w]
             rfl
            refine take_ (i := 11) (N := some 72) (v := ?_) (a' := ?_) #[true, true, true, true, true, true, true, false, false, false, true, true, false, false] rfl rfl (take_ofW HT_.out HW_.out (by kernel_rfl)) (fun _ _ _ h => h) (Or.inl ⟨by rfl, ?_⟩) hHeld ?_ ?_
            rotate_left
            ·rintro w' ⟨s0, s1, s2, s3, s4, s5, s6, s7, s8, s9, sC⟩
             have hcv_ := Kd.C_string (P := Try.prog) (A := (some ad267)) (c := c0) Try.underlying22 Try.underlying5 Try.underlying9 sC
             go_simp
             with_reducible rfl
            rotate_left
            ·simp only [Act.put, List.setIfInBounds_toArray, List.set_cons_zero, List.set_cons_succ, i64_w, i32_w]
             rfl
            refine take_ (i := 7) (N := some 68) (v := ?_) (a' := ?_) #[true, true, true, true, true, true, true, true, false, false, true, true, false, false] rfl rfl (take_ofW HT_.out HW_.out (by kernel_rfl)) (fun _ _ _ h => h) (Or.inl ⟨by rfl, ?_⟩) hHeld ?_ ?_
            rotate_left
            ·rintro w' ⟨s0, s1, s2, s3, s4, s5, s6, s7, s8, s9, sC⟩
             go_simp
             with_reducible rfl
            rotate_left
            ·simp only [Act.put, List.setIfInBounds_toArray, List.set_cons_zero, List.set_cons_succ, i64_w, i32_w]
             rfl
            refine one_ (i := 8) (N := some 69) #[true, true, true, true, true, true, true, true, true, false, true, true, false, false] rfl rfl (one_of HT_.out (by kernel_rfl)) (by decide) (fun K hK => ?_)
            refine goes_ Try.func32 (by kernel_rfl) rfl #[.agg #[.int .i64 t263, .int .i64 t265, .int .i64 t269, .int .i64 t270, .float .f64 b271, .slice Ao36 t272.length co36, .int .i64 t278, .int .i64 t279, .float .f64 b280, .slice Ao44 t281.length co44]] (by rfl) rfl rfl (by (try simp only [List.map_toArray, List.map_cons, List.map_nil]); first | done | rfl) ?_
            with_reducible refine (spec_TupleBytes.calls kj1 t263 t265 t269 t270 b271 _ _ t272 t278 t279 b280 _ _ t281 t286 _ ?side1 ?side2 ?side3 ?side4 ((spec_TupleBytes.inv1 _ _ _ _ _ _ _ _ _ _ _).symm.trans ((spec_TupleBytes.inv0 _ _ _ _ _ _ _ _ _ _ _).symm.trans A26.out))).mono ?_
            (case side1 => repeat (first | exact (Kd.R_reads' HO274.out).2.2 | (with_reducible refine Kd.C_alloc ?_ _) | (with_reducible refine Kd.C_drewN ?_ _) | (with_reducible refine Kd.C_drew ?_)))
            (case side2 => exact (Kd.R_reads' HO274.out).2.1)
            (case side3 => repeat (first | exact (Kd.R_reads' HO283.out).2.2 | (with_reducible refine Kd.C_alloc ?_ _) | (with_reducible refine Kd.C_drewN ?_ _) | (with_reducible refine Kd.C_drew ?_)))
            (case side4 => exact (Kd.R_reads' HO283.out).2.1)
            rintro e w49 ⟨v287, rfl, ho0, hb⟩
            refine ⟨_, rfl, ?_⟩
            have n0_ := Aside0.mk (Kd.R_elder' (Kd.rup HO274.out) (Kd.R_base ho0) hb)
            have n1_ := Aside0.mk (Kd.R_elder' (Kd.rup HO283.out) (Kd.R_base ho0) hb)
            have n2_ := Aside0.mk (Kd.R_lower (Kd.R_new' (Kd.R_new' ho0 (Kd.R_lt (Kd.rup HO274.out))) (Kd.R_lt (Kd.rup HO283.out))) (below_size (hset HB.out)))
            have n3_ := Aside0.mk (blk_below (bup BK261.out) hb)
            have n4_ := Aside0.mk (blk_below (bup BK262.out) hb)
            have n5_ := Aside0.mk (blk_below (bup BK276.out) hb)
            have n6_ := Aside0.mk (blk_below (bup BK285.out) hb)
            have n7_ := Aside0.mk (below_step (hset HB.out) hb)
            clear HO274
            clear HO283
            clear BK261
            clear BK262
            clear BK276
            clear BK285
            clear HB
            have HO274 := n0_
            have HO283 := n1_
            have HO288 := n2_
            have BK261 := n3_
            have BK262 := n4_
            have BK276 := n5_
            have BK285 := n6_
            have HB := n7_
            clear n0_ n1_ n2_ n3_ n4_ n5_ n6_ n7_
            (try clear hb)
            (try clear hb2)
            (try clear hk)
            (try clear hi)
            (try clear ho0)
            have hcv51 := Kd.C_string (P := Try.prog) (A := (some ad267)) (c := c0) Try.underlying22 Try.underlying5 Try.underlying9 (Kd.C_below HR0.out HB.out)
            refine hK.out _ _ ⟨(blk_cell BK262.out 0).trans rfl, (blk_cell BK262.out 1).trans rfl, (blk_cell BK262.out 2).trans rfl, (blk_cell BK262.out 3).trans rfl, (blk_cell BK262.out 4).trans rfl, (blk_cell BK262.out 5).trans rfl, (blk_cell BK262.out 6).trans rfl, (blk_cell BK262.out 7).trans rfl, (blk_cell BK262.out 8).trans rfl, (blk_cell BK262.out 9).trans rfl, (Kd.C_below HR0.out HB.out)⟩ (fun hHeld => ?_)
            clear hK K
            refine norm_ (a' := ?_) ?_ ?_
            rotate_left
            ·show Act.put _ (some 69) _ = _
             simp only [Act.put, List.setIfInBounds_toArray, List.set_cons_zero, List.set_cons_succ, i64_w, i32_w]
             rfl
            refine one_ (i := 9) (N := some 70) #[true, true, true, true, true, true, true, true, true, true, true, true, false, false] rfl rfl (one_of HT_.out (by kernel_rfl)) (by decide) (fun K hK => ?_)
            have hcv50 := own_string (P := Try.prog) Try.underlying22 Try.underlying5 Try.underlying9 (Kd.own_of_R HO288.out)
            refine value_ (w1 := ?_) (v := ?_) (by rfl) rfl ?_ ?_
            rotate_left 2
            ·go_simp
             constructor
             ·rfl
             ·rfl
            clear hcv50
            refine hK.out _ _ ⟨(blk_cell BK262.out 0).trans rfl, (blk_cell BK262.out 1).trans rfl, (blk_cell BK262.out 2).trans rfl, (blk_cell BK262.out 3).trans rfl, (blk_cell BK262.out 4).trans rfl, (blk_cell BK262.out 5).trans rfl, (blk_cell BK262.out 6).trans rfl, (blk_cell BK262.out 7).trans rfl, (blk_cell BK262.out 8).trans rfl, (blk_cell BK262.out 9).trans rfl, (Kd.C_below HR0.out HB.out)⟩ (fun hHeld => ?_)
            clear hK K
            refine norm_ (a' := ?_) ?_ ?_
            rotate_left
            ·show Act.put _ (some 70) _ = _
             simp only [Act.put, List.setIfInBounds_toArray, List.set_cons_zero, List.set_cons_succ, i64_w, i32_w]
             rfl
            refine pure_ (i := 12) (N := some 73) (v := ?_) (a' := ?_) #[true, true, true, true, true, true, true, true, true, true, true, true, true, false] rfl rfl (any_of HT_.out (by kernel_rfl)) (fun _ _ _ h => h) (Or.inl ⟨by rfl, ?_⟩) ?_ ?_
            rotate_left
            ·intro w'
             go_simp
             with_reducible rfl
            rotate_left
            ·simp only [Act.put, List.setIfInBounds_toArray, List.set_cons_zero, List.set_cons_succ, i64_w, i32_w]
             rfl
            refine pure_ (i := 13) (N := some 74) (v := ?_) (a' := ?_) #[true, true, true, true, true, true, true, true, true, true, true, true, true, true] rfl rfl (any_of HT_.out (by kernel_rfl)) (fun _ _ _ h => h) (Or.inl ⟨by rfl, ?_⟩) ?_ ?_
            rotate_left
            ·intro w'
             go_simp
             with_reducible rfl
            rotate_left
            ·simp only [Act.put, List.setIfInBounds_toArray, List.set_cons_zero, List.set_cons_succ, i64_w, i32_w]
             rfl
            refine done_ (done_of HT_.out (by kernel_rfl)) ?_
            by_cases c27 : (strOfNums t286).toList = (strOfNums l0).toList
            ·rw [if_pos c27] at H
             have c27b0 : ((strOfNums t286).toList == (strOfNums l0).toList) = true := beq_iff_eq.mpr c27
             have c27b1 : ((strOfNums t286).toList != (strOfNums l0).toList) = false := bne_eq_false_iff_eq.mpr c27
             (try simp only [c27b0, c27b1, Bool.not_true, Bool.not_false])
             clear c27
             simp only [Option.some.injEq, Prod.mk.injEq] at H
             obtain ⟨rfl, rfl, rfl, rfl, rfl, rfl, rfl, rfl, rfl, rfl, rfl⟩ := H
             obtain ⟨hcz53_0, hcz53_1, hcz53_2, hcz53_3, hcz53_4, hcz53_5, hcz53_6, hcz53_7, hcz53_8, hcz53_9⟩ := blk_cells10 BK262.out
             obtain ⟨hfz53_0, hfz53_1, hfz53_2, hfz53_3, hfz53_4, hfz53_5, hfz53_6, hfz53_7, hfz53_8, hfz53_9⟩ := blk_frozens10 BK262.out
             obtain ⟨hcz54_0, hcz54_1, hcz54_2, hcz54_3, hcz54_4, hcz54_5, hcz54_6, hcz54_7, hcz54_8, hcz54_9⟩ := blk_cells10 BK261.out
             obtain ⟨hfz54_0, hfz54_1, hfz54_2, hfz54_3, hfz54_4, hfz54_5, hfz54_6, hfz54_7, hfz54_8, hfz54_9⟩ := blk_frozens10 BK261.out
             try go_wp2
             refine bodyPost_ret (results_ct rfl _ _ gb261 49 #[.int .i64 t263, .int .i64 t265, .int .i64 t269, .int .i64 t270, .float .f64 b271, .slice Ao36 t272.length co36, .int .i64 t278, .int .i64 t279, .float .f64 b280, .slice Ao44 t281.length co44] (0, 0) _ rfl (bput BK261.out) Try.underlying49 rfl (by kernel_rfl)) rfl ?_
             exact ⟨_, _, _, _, by first | rfl | (simp [errW_none, errW_some] <;> rfl) | (simp only [← hji20]; first | rfl | (simp [errW_none, errW_some] <;> rfl)) | (simp [*, errW_none, errW_some] <;> rfl), (Kd.R_mono (Kd.roff1 HO274.out BK261.out (by decide)) (fun _ hk => hk.1)), (Kd.R_mono (Kd.roff1 HO283.out BK261.out (by decide)) (fun _ hk => hk.1)), hset HB.out, (by first | exact ⟨⟨rfl, LTb271.out⟩⟩ | exact ⟨⟨rfl, LTb280.out⟩⟩ | exact ⟨⟨by first | rfl | decide, by decide⟩⟩), (by first | exact ⟨⟨rfl, LTb271.out⟩⟩ | exact ⟨⟨rfl, LTb280.out⟩⟩ | exact ⟨⟨by first | rfl | decide, by decide⟩⟩)⟩
            ·rw [if_neg c27] at H
             have c27b0 : ((strOfNums t286).toList == (strOfNums l0).toList) = false := beq_eq_false_iff_ne.mpr c27
             have c27b1 : ((strOfNums t286).toList != (strOfNums l0).toList) = true := bne_iff_ne.mpr c27
             (try simp only [c27b0, c27b1, Bool.not_true, Bool.not_false])
             simp only [Option.some.injEq, Prod.mk.injEq] at H
             obtain ⟨rfl, rfl, rfl, rfl, rfl, rfl, rfl, rfl, rfl, rfl, rfl⟩ := H
             obtain ⟨hcz80_0, hcz80_1, hcz80_2, hcz80_3, hcz80_4, hcz80_5, hcz80_6, hcz80_7, hcz80_8, hcz80_9⟩ := blk_cells10 BK261.out
             obtain ⟨hfz80_0, hfz80_1, hfz80_2, hfz80_3, hfz80_4, hfz80_5, hfz80_6, hfz80_7, hfz80_8, hfz80_9⟩ := blk_frozens10 BK261.out
             try go_wp2
             refine bodyPost_ret (results_ct rfl _ _ gb261 49 #[.int .i64 0, .int .i64 0, .int .i64 0, .int .i64 0, .float .f64 0, .slice none 0 0, .int .i64 0, .int .i64 0, .float .f64 0, .slice none 0 0] (0, 0) _ rfl (bput BK261.out) Try.underlying49 rfl (by kernel_rfl)) rfl ?_
             exact ⟨_, _, _, _, by first | rfl | (simp [errW_none, errW_some] <;> rfl) | (simp only [← hji20]; first | rfl | (simp [errW_none, errW_some] <;> rfl)) | (simp [*, errW_none, errW_some] <;> rfl), by first | exact Kd.R_nil _ _ _ _ _ | exact Kd.N_nil _ _ _ _ _ | exact Kd.V_nil _ _ _ _ _ | exact Kd.Q_nil _ _ _ _ _ | exact Kd.S_nil _ _ _ _ _, by first | exact Kd.R_nil _ _ _ _ _ | exact Kd.N_nil _ _ _ _ _ | exact Kd.V_nil _ _ _ _ _ | exact Kd.Q_nil _ _ _ _ _ | exact Kd.S_nil _ _ _ _ _, hset HB.out, (by first | exact ⟨⟨rfl, LTb271.out⟩⟩ | exact ⟨⟨rfl, LTb280.out⟩⟩ | exact ⟨⟨by first | rfl | decide, by decide⟩⟩), (by first | exact ⟨⟨rfl, LTb271.out⟩⟩ | exact ⟨⟨rfl, LTb280.out⟩⟩ | exact ⟨⟨by first | rfl | decide, by decide⟩⟩)⟩
           ·replace c25 := Bool.eq_false_iff.mpr c25
            subst c25
            rw [if_neg (show ¬ (false = true) by decide)] at H
            (try dsimp only at H)
            simp only [Option.some.injEq, Prod.mk.injEq] at H
            obtain ⟨rfl, rfl, rfl, rfl, rfl, rfl, rfl, rfl, rfl, rfl, rfl⟩ := H
            refine start_ (n := 14) (S := fun w' => True) (ds := []) #[false, false, false, false, false, false, false, false, false, false, false, false, false, false] (by kernel_rfl) rfl rfl trivial (fun hHeld => ?_); refine with_tabW spec_TupleRead.tab13 spec_TupleRead.bits13 (fun HT_ HW_ => ?_)
            generalize w47.drew = w101 at HO274 HO283 BK261 BK262 BK276 BK285 HB hHeld ⊢
            refine pure_ (i := 0) (N := some 61) (v := ?_) (a' := ?_) #[true, false, false, false, false, false, false, false, false, false, false, false, false, false] rfl rfl (any_of HT_.out (by kernel_rfl)) (fun _ _ _ h => h) (Or.inl ⟨by rfl, ?_⟩) ?_ ?_
            rotate_left
            ·intro w'
             go_simp
             with_reducible rfl
            rotate_left
            ·simp only [Act.put, List.setIfInBounds_toArray, List.set_cons_zero, List.set_cons_succ, i64_w, i32_w]
             rfl
            refine pure_ (i := 1) (N := some 62) (v := ?_) (a' := ?_) #[true, true, false, false, false, false, false, false, false, false, false, false, false, false] rfl rfl (any_of HT_.out (by kernel_rfl)) (fun _ _ _ h => h) (Or.inl ⟨by rfl, ?_⟩) ?_ ?_
            rotate_left
            ·intro w'
             go_simp
             with_reducible rfl
            rotate_left
            ·simp only [Act.put, List.setIfInBounds_toArray, List.set_cons_zero, List.set_cons_succ, i64_w, i32_w]
             rfl
            refine pure_ (i := 2) (N := some 63) (v := ?_) (a' := ?_) #[true, true, true, false, false, false, false, false, false, false, false, false, false, false] rfl rfl (any_of HT_.out (by kernel_rfl)) (fun _ _ _ h => h) (Or.inl ⟨by rfl, ?_⟩) ?_ ?_
            rotate_left
            ·intro w'
             go_simp
             with_reducible rfl
            rotate_left
            ·simp only [Act.put, List.setIfInBounds_toArray, List.set_cons_zero, List.set_cons_succ, i64_w, i32_w]
             rfl
            refine pure_ (i := 3) (N := some 64) (v := ?_) (a' := ?_) #[true, true, true, true, false, false, false, false, false, false, false, false, false, false] rfl rfl (any_of HT_.out (by kernel_rfl)) (fun _ _ _ h => h) (Or.inl ⟨by rfl, ?_⟩) ?_ ?_
            rotate_left
            ·intro w'
             go_simp
             with_reducible rfl
            rotate_left
            ·simp only [Act.put, List.setIfInBounds_toArray, List.set_cons_zero, List.set_cons_succ, i64_w, i32_w]
             rfl
            refine pure_ (i := 4) (N := some 65) (v := ?_) (a' := ?_) #[true, true, true, true, true, false, false, false, false, false, false, false, false, false] rfl rfl (any_of HT_.out (by kernel_rfl)) (fun _ _ _ h => h) (Or.inl ⟨by rfl, ?_⟩) ?_ ?_
            rotate_left
            ·intro w'
             go_simp
             with_reducible rfl
            rotate_left
            ·simp only [Act.put, List.setIfInBounds_toArray, List.set_cons_zero, List.set_cons_succ, i64_w, i32_w]
             rfl
            refine pure_ (i := 5) (N := some 66) (v := ?_) (a' := ?_) #[true, true, true, true, true, true, false, false, false, false, false, false, false, false] rfl rfl (any_of HT_.out (by kernel_rfl)) (fun _ _ _ h => h) (Or.inl ⟨by rfl, ?_⟩) ?_ ?_
            rotate_left
            ·intro w'
             go_simp
             with_reducible rfl
            rotate_left
            ·simp only [Act.put, List.setIfInBounds_toArray, List.set_cons_zero, List.set_cons_succ, i64_w, i32_w]
             rfl
            refine pure_ (i := 6) (N := some 67) (v := ?_) (a' := ?_) #[true, true, true, true, true, true, true, false, false, false, false, false, false, false] rfl rfl (any_of HT_.out (by kernel_rfl)) (fun _ _ _ h => h) (Or.inl ⟨by rfl, ?_⟩) ?_ ?_
            rotate_left
            ·intro w'
             go_simp
             with_reducible rfl
            rotate_left
            ·simp only [Act.put, List.setIfInBounds_toArray, List.set_cons_zero, List.set_cons_succ, i64_w, i32_w]
             rfl
            refine pure_ (i := 7) (N := some 68) (v := undef) (a' := ?_) #[true, true, true, true, true, true, true, true, false, false, false, false, false, false] rfl rfl (any_of HT_.out (by kernel_rfl)) (fun _ _ _ h => h) (Or.inr ⟨by rfl, rfl⟩) ?_ ?_
            rotate_left
            ·simp only [Act.put, List.setIfInBounds_toArray, List.set_cons_zero, List.set_cons_succ, i64_w, i32_w]
             rfl
            refine pure_ (i := 8) (N := some 69) (v := undef) (a' := ?_) #[true, true, true, true, true, true, true, true, true, false, false, false, false, false] rfl rfl (any_of HT_.out (by kernel_rfl)) (fun _ _ _ h => h) (Or.inr ⟨by rfl, rfl⟩) ?_ ?_
            rotate_left
            ·simp only [Act.put, List.setIfInBounds_toArray, List.set_cons_zero, List.set_cons_succ, i64_w, i32_w]
             rfl
            refine pure_ (i := 9) (N := some 70) (v := undef) (a' := ?_) #[true, true, true, true, true, true, true, true, true, true, false, false, false, false] rfl rfl (any_of HT_.out (by kernel_rfl)) (fun _ _ _ h => h) (Or.inr ⟨by rfl, rfl⟩) ?_ ?_
            rotate_left
            ·simp only [Act.put, List.setIfInBounds_toArray, List.set_cons_zero, List.set_cons_succ, i64_w, i32_w]
             rfl
            refine pure_ (i := 10) (N := some 71) (v := undef) (a' := ?_) #[true, true, true, true, true, true, true, true, true, true, true, false, false, false] rfl rfl (any_of HT_.out (by kernel_rfl)) (fun _ _ _ h => h) (Or.inr ⟨by rfl, rfl⟩) ?_ ?_
            rotate_left
            ·simp only [Act.put, List.setIfInBounds_toArray, List.set_cons_zero, List.set_cons_succ, i64_w, i32_w]
             rfl
            refine pure_ (i := 11) (N := some 72) (v := undef) (a' := ?_) #[true, true, true, true, true, true, true, true, true, true, true, true, false, false] rfl rfl (any_of HT_.out (by kernel_rfl)) (fun _ _ _ h => h) (Or.inr ⟨by rfl, rfl⟩) ?_ ?_
            rotate_left
            ·simp only [Act.put, List.setIfInBounds_toArray, List.set_cons_zero, List.set_cons_succ, i64_w, i32_w]
             rfl
            refine pure_ (i := 12) (N := some 73) (v := undef) (a' := ?_) #[true, true, true, true, true, true, true, true, true, true, true, true, true, false] rfl rfl (any_of HT_.out (by kernel_rfl)) (fun _ _ _ h => h) (Or.inr ⟨by rfl, rfl⟩) ?_ ?_
            rotate_left
            ·simp only [Act.put, List.setIfInBounds_toArray, List.set_cons_zero, List.set_cons_succ, i64_w, i32_w]
             rfl
            refine pure_ (i := 13) (N := some 74) (v := ?_) (a' := ?_) #[true, true, true, true, true, true, true, true, true, true, true, true, true, true] rfl rfl (any_of HT_.out (by kernel_rfl)) (fun _ _ _ h => h) (Or.inl ⟨by rfl, ?_⟩) ?_ ?_
            rotate_left
            ·intro w'
             go_simp
             with_reducible rfl
            rotate_left
            ·simp only [Act.put, List.setIfInBounds_toArray, List.set_cons_zero, List.set_cons_succ, i64_w, i32_w]
             rfl
            refine done_ (done_of HT_.out (by kernel_rfl)) ?_
            obtain ⟨hcz102_0, hcz102_1, hcz102_2, hcz102_3, hcz102_4, hcz102_5, hcz102_6, hcz102_7, hcz102_8, hcz102_9⟩ := blk_cells10 BK261.out
            obtain ⟨hfz102_0, hfz102_1, hfz102_2, hfz102_3, hfz102_4, hfz102_5, hfz102_6, hfz102_7, hfz102_8, hfz102_9⟩ := blk_frozens10 BK261.out
            try go_wp2
            refine bodyPost_ret (results_ct rfl _ _ gb261 49 #[.int .i64 0, .int .i64 0, .int .i64 0, .int .i64 0, .float .f64 0, .slice none 0 0, .int .i64 0, .int .i64 0, .float .f64 0, .slice none 0 0] (0, 0) _ rfl (bput BK261.out) Try.underlying49 rfl (by kernel_rfl)) rfl ?_
            exact ⟨_, _, _, _, by first | rfl | (simp [errW_none, errW_some] <;> rfl) | (simp only [← hji20]; first | rfl | (simp [errW_none, errW_some] <;> rfl)) | (simp [*, errW_none, errW_some] <;> rfl), by first | exact Kd.R_nil _ _ _ _ _ | exact Kd.N_nil _ _ _ _ _ | exact Kd.V_nil _ _ _ _ _ | exact Kd.Q_nil _ _ _ _ _ | exact Kd.S_nil _ _ _ _ _, by first | exact Kd.R_nil _ _ _ _ _ | exact Kd.N_nil _ _ _ _ _ | exact Kd.V_nil _ _ _ _ _ | exact Kd.Q_nil _ _ _ _ _ | exact Kd.S_nil _ _ _ _ _, hset HB.out, (by first | exact ⟨⟨rfl, LTb271.out⟩⟩ | exact ⟨⟨rfl, LTb280.out⟩⟩ | exact ⟨⟨by first | rfl | decide, by decide⟩⟩), (by first | exact ⟨⟨rfl, LTb271.out⟩⟩ | exact ⟨⟨rfl, LTb280.out⟩⟩ | exact ⟨⟨by first | rfl | decide, by decide⟩⟩)⟩
          ·replace c24 := Bool.eq_false_iff.mpr c24
           subst c24
           rw [if_neg (show ¬ (false = true) by decide)] at H
           (try dsimp only at H)
           simp only [Option.some.injEq, Prod.mk.injEq] at H
           obtain ⟨rfl, rfl, rfl, rfl, rfl, rfl, rfl, rfl, rfl, rfl, rfl⟩ := H
           try go_wp2_with (first | ((with_reducible refine gate_dst (N := 6) rfl ?_); (try (refine gate_guard (by rfl) ?_; dsimp only)); refine box_event ?hg (N := 6) ?hd (cs := #[.int .i64 0, .int .i64 0, .float .f64 0, .slice none 0 0]) (t := 25) ?hr ?_; (case hd => rfl); (case hg => rfl); (case hr => first | (go_simp; done) | (go_simp; rfl)); intro gb276 hg w32 hbox hb; have n0_ := Aside0.mk (Kd.R_below (Kd.rup HO274.out) hb); have n1_ := Aside0.mk (blk_below (bup BK261.out) hb); have n2_ := Aside0.mk (blk_below (bup BK262.out) hb); have n3_ := Aside0.mk (below_step (hset HB.out) hb); have n4_ := Aside0.mk (hbox); have n5_ := Geq.mk ((by rw [hg]; exact (below_size (hset HB.out)) : w.heap.size ≤ gb276)); have n6_ := Geq.mk ((by rw [hg]; exact (below_size (hset HB.out)) : w.heap.size ≤ gb276)); have n7_ := Neq.mk ((by rw [hg]; exact Nat.ne_of_lt (blk_lt (g := gb261) (o := .cells #[.int .i64 0, .int .i64 0, .int .i64 0, .int .i64 0, .float .f64 0, .slice none 0 0, .int .i64 0, .int .i64 0, .float .f64 0, .slice none 0 0] 49 (0, 0)) (bup BK261.out)) : gb261 ≠ gb276)); have n8_ := Neq.mk ((by rw [hg]; exact Nat.ne_of_gt (blk_lt (g := gb261) (o := .cells #[.int .i64 0, .int .i64 0, .int .i64 0, .int .i64 0, .float .f64 0, .slice none 0 0, .int .i64 0, .int .i64 0, .float .f64 0, .slice none 0 0] 49 (0, 0)) (bup BK261.out)) : gb276 ≠ gb261)); have n9_ := Neq.mk ((by rw [hg]; exact Nat.ne_of_lt (blk_lt (g := gb262) (o := .cells #[.int .i64 t263, .int .i64 t265, .int .i64 0, .int .i64 0, .float .f64 0, .slice none 0 0, .int .i64 0, .int .i64 0, .float .f64 0, .slice none 0 0] 49 (0, 0)) (bup BK262.out)) : gb262 ≠ gb276)); have n10_ := Neq.mk ((by rw [hg]; exact Nat.ne_of_gt (blk_lt (g := gb262) (o := .cells #[.int .i64 t263, .int .i64 t265, .int .i64 0, .int .i64 0, .float .f64 0, .slice none 0 0, .int .i64 0, .int .i64 0, .float .f64 0, .slice none 0 0] 49 (0, 0)) (bup BK262.out)) : gb276 ≠ gb262)); clear HO274; clear BK261; clear BK262; clear HB; have HO274 := n0_; have BK261 := n1_; have BK262 := n2_; have HB := n3_; have BK276 := n4_; have GW276 := n5_; have GE276 := n6_; have NB261_276 := n7_; have NB276_261 := n8_; have NB262_276 := n9_; have NB276_262 := n10_; clear n0_ n1_ n2_ n3_ n4_ n5_ n6_ n7_ n8_ n9_ n10_; clear hb hbox hg; have hnb33 := NB276_261.out; have hnc33 := NB261_276.out; have hnb34 := NB276_262.out; have hnc34 := NB262_276.out; obtain ⟨hcz35_0, hcz35_1, hcz35_2, hcz35_3⟩ := blk_cells4 BK276.out; obtain ⟨hfz35_0, hfz35_1, hfz35_2, hfz35_3⟩ := blk_frozens4 BK276.out; obtain ⟨Ao36, co36, eo36⟩ := Kd.R_slice HO274.out; subst eo36; obtain ⟨i037, hi037, _, hsz37, _⟩ := info_parts info5; obtain ⟨A37, hcut37, hA37, hC37⟩ := print_drop_of (P := Try.prog) (Value.int .u8) 0 22 5 .i64 Try.underlying22 hi037 hsz37 (some ad267) c0 l0 (ji20) (of_decide_eq_true (by first | (with_reducible assumption) | assumption)) (of_decide_eq_true (by first | (with_reducible assumption) | assumption)) HC0.out; have HR277 := Aside0.mk (Kd.C_of_reads (h1 := fun _ => rfl) (hA37 _ (Kd.reads_of_C HR0.out))); have HC277 := Aside0.mk hC37; clear hA37 hC37 hi037 hsz37) | ((with_reducible refine gate_callee (f := 9) rfl ?_); refine goesL_ (some 54) rfl rfl Try.func9 (by kernel_rfl) rfl #[.slice A37 (l0.drop ((ji20) : Int).toNat).length (c0 - (ji20).toNat)] rfl (by (try simp only [List.map_toArray, List.map_cons, List.map_nil]); first | done | (rw [show (l0.drop ((ji20) : Int).toNat).length = (l0.length - (ji20).toNat) from List.length_drop] <;> rfl) | (simp only [hji20]; rfl) | rfl | (simp only [List.length_drop, List.length_take]; rfl)) ?_; (with_reducible refine (spec_ValueRead.callsC kj1 _ _ (l0.drop ((ji20) : Int).toNat) t278 t279 t280 t281 t284 _ ?side1 ?side2 A23.out).mono ?_); (case side1 => exact Kd.C_below HR277.out (hset HB.out)); (case side2 => exact HC277.out); rintro e w113 ⟨b280, v282, rfl, ho0, hb, ⟨⟨hcnb280, hltb280⟩⟩⟩; refine ⟨_, rfl, ?_⟩; have LTb280 := Aside0.mk hltb280; clear hltb280; subst hcnb280; have n0_ := Aside0.mk (Kd.R_elder' ((Kd.roff1 HO274.out BK276.out (by decide))) (Kd.R_base ho0) hb); have n1_ := Aside0.mk (Kd.R_lower (Kd.R_new' ho0 (Kd.R_lt ((Kd.roff1 HO274.out BK276.out (by decide))))) (below_size (hset HB.out))); have n2_ := Aside0.mk (blk_below (g := gb261) (o := .cells #[.int .i64 0, .int .i64 0, .int .i64 0, .int .i64 0, .float .f64 0, .slice none 0 0, .int .i64 0, .int .i64 0, .float .f64 0, .slice none 0 0] 49 (0, 0)) (bput BK261.out) hb); have n3_ := Aside0.mk (blk_below (g := gb262) (o := .cells #[.int .i64 t263, .int .i64 t265, .int .i64 0, .int .i64 0, .float .f64 0, .slice none 0 0, .int .i64 0, .int .i64 0, .float .f64 0, .slice none 0 0] 49 (0, 0)) (bput BK262.out) hb); have n4_ := Aside0.mk (blk_below (g := gb276) (o := .cells #[.int .i64 t269, .int .i64 t270, .float .f64 b271, .slice Ao36 t272.length co36] 25 (0, 0)) (bput BK276.out) hb); have n5_ := Aside0.mk (below_step (hset HB.out) hb); clear HO274; clear BK261; clear BK262; clear BK276; clear HB; have HO274 := n0_; have HO283 := n1_; have BK261 := n2_; have BK262 := n3_; have BK276 := n4_; have HB := n5_; clear n0_ n1_ n2_ n3_ n4_ n5_; (try clear hb); (try clear hb2); (try clear hk); (try clear hi); (try clear ho0)) | ((with_reducible refine gate_dst (N := 8) rfl ?_); (try (refine gate_guard (by rfl) ?_; dsimp only)); refine box_event ?hg (N := 8) ?hd (cs := #[.int .i64 0, .int .i64 0, .float .f64 0, .slice none 0 0]) (t := 25) ?hr ?_; (case hd => rfl); (case hg => rfl); (case hr => first | (go_simp; done) | (go_simp; rfl)); intro gb285 hg w114 hbox hb; have n0_ := Aside0.mk (Kd.R_below (Kd.rup HO274.out) hb); have n1_ := Aside0.mk (Kd.R_below (Kd.rup HO283.out) hb); have n2_ := Aside0.mk (blk_below (bup BK261.out) hb); have n3_ := Aside0.mk (blk_below (bup BK262.out) hb); have n4_ := Aside0.mk (blk_below (bup BK276.out) hb); have n5_ := Aside0.mk (below_step (hset HB.out) hb); have n6_ := Aside0.mk (hbox); have n7_ := Geq.mk ((by rw [hg]; exact (below_size (hset HB.out)) : w.heap.size ≤ gb285)); have n8_ := Geq.mk ((by rw [hg]; exact (below_size (hset HB.out)) : w.heap.size ≤ gb285)); have n9_ := Neq.mk ((by rw [hg]; exact Nat.ne_of_lt (blk_lt (g := gb261) (o := .cells #[.int .i64 0, .int .i64 0, .int .i64 0, .int .i64 0, .float .f64 0, .slice none 0 0, .int .i64 0, .int .i64 0, .float .f64 0, .slice none 0 0] 49 (0, 0)) (bup BK261.out)) : gb261 ≠ gb285)); have n10_ := Neq.mk ((by rw [hg]; exact Nat.ne_of_gt (blk_lt (g := gb261) (o := .cells #[.int .i64 0, .int .i64 0, .int .i64 0, .int .i64 0, .float .f64 0, .slice none 0 0, .int .i64 0, .int .i64 0, .float .f64 0, .slice none 0 0] 49 (0, 0)) (bup BK261.out)) : gb285 ≠ gb261)); have n11_ := Neq.mk ((by rw [hg]; exact Nat.ne_of_lt (blk_lt (g := gb262) (o := .cells #[.int .i64 t263, .int .i64 t265, .int .i64 0, .int .i64 0, .float .f64 0, .slice none 0 0, .int .i64 0, .int .i64 0, .float .f64 0, .slice none 0 0] 49 (0, 0)) (bup BK262.out)) : gb262 ≠ gb285)); have n12_ := Neq.mk ((by rw [hg]; exact Nat.ne_of_gt (blk_lt (g := gb262) (o := .cells #[.int .i64 t263, .int .i64 t265, .int .i64 0, .int .i64 0, .float .f64 0, .slice none 0 0, .int .i64 0, .int .i64 0, .float .f64 0, .slice none 0 0] 49 (0, 0)) (bup BK262.out)) : gb285 ≠ gb262)); have n13_ := Neq.mk ((by rw [hg]; exact Nat.ne_of_lt (blk_lt (g := gb276) (o := .cells #[.int .i64 t269, .int .i64 t270, .float .f64 b271, .slice Ao36 t272.length co36] 25 (0, 0)) (bup BK276.out)) : gb276 ≠ gb285)); have n14_ := Neq.mk ((by rw [hg]; exact Nat.ne_of_gt (blk_lt (g := gb276) (o := .cells #[.int .i64 t269, .int .i64 t270, .float .f64 b271, .slice Ao36 t272.length co36] 25 (0, 0)) (bup BK276.out)) : gb285 ≠ gb276)); clear HO274; clear HO283; clear BK261; clear BK262; clear BK276; clear HB; have HO274 := n0_; have HO283 := n1_; have BK261 := n2_; have BK262 := n3_; have BK276 := n4_; have HB := n5_; have BK285 := n6_; have GW285 := n7_; have GE285 := n8_; have NB261_285 := n9_; have NB285_261 := n10_; have NB262_285 := n11_; have NB285_262 := n12_; have NB276_285 := n13_; have NB285_276 := n14_; clear n0_ n1_ n2_ n3_ n4_ n5_ n6_ n7_ n8_ n9_ n10_ n11_ n12_ n13_ n14_; clear hb hbox hg; have hnb115 := NB285_261.out; have hnc115 := NB261_285.out; have hnb116 := NB285_262.out; have hnc116 := NB262_285.out; have hnb117 := NB285_276.out; have hnc117 := NB276_285.out; obtain ⟨hcz118_0, hcz118_1, hcz118_2, hcz118_3⟩ := blk_cells4 BK285.out; obtain ⟨hfz118_0, hfz118_1, hfz118_2, hfz118_3⟩ := blk_frozens4 BK285.out; obtain ⟨Ao119, co119, eo119⟩ := Kd.R_slice HO283.out; subst eo119; obtain ⟨hcz120_0, hcz120_1, hcz120_2, hcz120_3⟩ := blk_cells4 BK276.out; obtain ⟨hfz120_0, hfz120_1, hfz120_2, hfz120_3⟩ := blk_frozens4 BK276.out; obtain ⟨hcz121_0, hcz121_1, hcz121_2, hcz121_3, hcz121_4, hcz121_5, hcz121_6, hcz121_7, hcz121_8, hcz121_9⟩ := blk_cells10 BK262.out; obtain ⟨hfz121_0, hfz121_1, hfz121_2, hfz121_3, hfz121_4, hfz121_5, hfz121_6, hfz121_7, hfz121_8, hfz121_9⟩ := blk_frozens10 BK262.out))
           have n0_ : Aside0 (Kd.R (Kd.int .u8) 5 ((((((((((((w114.setCell ⟨gb285, 0, none⟩ (.int .i64 t278)).setCell ⟨gb285, 1, none⟩ (.int .i64 t279)).setCell ⟨gb285, 2, none⟩ (.float .f64 b280)).setCell ⟨gb285, 3, none⟩ (.slice Ao119 t281.length co119)).setCell ⟨gb262, 2, none⟩ (.int .i64 t269)).setCell ⟨gb262, 3, none⟩ (.int .i64 t270)).setCell ⟨gb262, 4, none⟩ (.float .f64 b271)).setCell ⟨gb262, 5, none⟩ (.slice Ao36 t272.length co36)).setCell ⟨gb262, 6, none⟩ (.int .i64 t278)).setCell ⟨gb262, 7, none⟩ (.int .i64 t279)).setCell ⟨gb262, 8, none⟩ (.float .f64 b280)).setCell ⟨gb262, 9, none⟩ (.slice Ao119 t281.length co119)) w.heap.size (fun k_ => some k_ ≠ (.slice Ao119 t281.length co119 : Value).ownBlock) (.slice Ao36 t272.length co36) t272) := ⟨(Kd.R_mono (Kd.roff2 HO274.out BK285.out (by decide) BK262.out (by decide)) (fun _ hk => hk.2))⟩
           have n1_ : Aside0 (Kd.R (Kd.int .u8) 5 ((((((((((((w114.setCell ⟨gb285, 0, none⟩ (.int .i64 t278)).setCell ⟨gb285, 1, none⟩ (.int .i64 t279)).setCell ⟨gb285, 2, none⟩ (.float .f64 b280)).setCell ⟨gb285, 3, none⟩ (.slice Ao119 t281.length co119)).setCell ⟨gb262, 2, none⟩ (.int .i64 t269)).setCell ⟨gb262, 3, none⟩ (.int .i64 t270)).setCell ⟨gb262, 4, none⟩ (.float .f64 b271)).setCell ⟨gb262, 5, none⟩ (.slice Ao36 t272.length co36)).setCell ⟨gb262, 6, none⟩ (.int .i64 t278)).setCell ⟨gb262, 7, none⟩ (.int .i64 t279)).setCell ⟨gb262, 8, none⟩ (.float .f64 b280)).setCell ⟨gb262, 9, none⟩ (.slice Ao119 t281.length co119)) w.heap.size (fun k_ => some k_ ≠ (.slice Ao36 t272.length co36 : Value).ownBlock) (.slice Ao119 t281.length co119) t281) := ⟨(Kd.R_mono (Kd.roff2 HO283.out BK285.out (by decide) BK262.out (by decide)) (fun _ hk => hk.2))⟩
           have n2_ : Aside0 (((((((((((((w114.setCell ⟨gb285, 0, none⟩ (.int .i64 t278)).setCell ⟨gb285, 1, none⟩ (.int .i64 t279)).setCell ⟨gb285, 2, none⟩ (.float .f64 b280)).setCell ⟨gb285, 3, none⟩ (.slice Ao119 t281.length co119)).setCell ⟨gb262, 2, none⟩ (.int .i64 t269)).setCell ⟨gb262, 3, none⟩ (.int .i64 t270)).setCell ⟨gb262, 4, none⟩ (.float .f64 b271)).setCell ⟨gb262, 5, none⟩ (.slice Ao36 t272.length co36)).setCell ⟨gb262, 6, none⟩ (.int .i64 t278)).setCell ⟨gb262, 7, none⟩ (.int .i64 t279)).setCell ⟨gb262, 8, none⟩ (.float .f64 b280)).setCell ⟨gb262, 9, none⟩ (.slice Ao119 t281.length co119)).heap[gb261]? = some (.cells #[.int .i64 0, .int .i64 0, .int .i64 0, .int .i64 0, .float .f64 0, .slice none 0 0, .int .i64 0, .int .i64 0, .float .f64 0, .slice none 0 0] 49 (0, 0))) := ⟨bput BK261.out⟩
           have n3_ : Aside0 (((((((((((((w114.setCell ⟨gb285, 0, none⟩ (.int .i64 t278)).setCell ⟨gb285, 1, none⟩ (.int .i64 t279)).setCell ⟨gb285, 2, none⟩ (.float .f64 b280)).setCell ⟨gb285, 3, none⟩ (.slice Ao119 t281.length co119)).setCell ⟨gb262, 2, none⟩ (.int .i64 t269)).setCell ⟨gb262, 3, none⟩ (.int .i64 t270)).setCell ⟨gb262, 4, none⟩ (.float .f64 b271)).setCell ⟨gb262, 5, none⟩ (.slice Ao36 t272.length co36)).setCell ⟨gb262, 6, none⟩ (.int .i64 t278)).setCell ⟨gb262, 7, none⟩ (.int .i64 t279)).setCell ⟨gb262, 8, none⟩ (.float .f64 b280)).setCell ⟨gb262, 9, none⟩ (.slice Ao119 t281.length co119)).heap[gb262]? = some (.cells #[.int .i64 t263, .int .i64 t265, .int .i64 t269, .int .i64 t270, .float .f64 b271, .slice Ao36 t272.length co36, .int .i64 t278, .int .i64 t279, .float .f64 b280, .slice Ao119 t281.length co119] 49 (0, 0))) := ⟨bput BK262.out⟩
           have n4_ : Aside0 (((((((((((((w114.setCell ⟨gb285, 0, none⟩ (.int .i64 t278)).setCell ⟨gb285, 1, none⟩ (.int .i64 t279)).setCell ⟨gb285, 2, none⟩ (.float .f64 b280)).setCell ⟨gb285, 3, none⟩ (.slice Ao119 t281.length co119)).setCell ⟨gb262, 2, none⟩ (.int .i64 t269)).setCell ⟨gb262, 3, none⟩ (.int .i64 t270)).setCell ⟨gb262, 4, none⟩ (.float .f64 b271)).setCell ⟨gb262, 5, none⟩ (.slice Ao36 t272.length co36)).setCell ⟨gb262, 6, none⟩ (.int .i64 t278)).setCell ⟨gb262, 7, none⟩ (.int .i64 t279)).setCell ⟨gb262, 8, none⟩ (.float .f64 b280)).setCell ⟨gb262, 9, none⟩ (.slice Ao119 t281.length co119)).heap[gb276]? = some (.cells #[.int .i64 t269, .int .i64 t270, .float .f64 b271, .slice Ao36 t272.length co36] 25 (0, 0))) := ⟨bput BK276.out⟩
           have n5_ : Aside0 (((((((((((((w114.setCell ⟨gb285, 0, none⟩ (.int .i64 t278)).setCell ⟨gb285, 1, none⟩ (.int .i64 t279)).setCell ⟨gb285, 2, none⟩ (.float .f64 b280)).setCell ⟨gb285, 3, none⟩ (.slice Ao119 t281.length co119)).setCell ⟨gb262, 2, none⟩ (.int .i64 t269)).setCell ⟨gb262, 3, none⟩ (.int .i64 t270)).setCell ⟨gb262, 4, none⟩ (.float .f64 b271)).setCell ⟨gb262, 5, none⟩ (.slice Ao36 t272.length co36)).setCell ⟨gb262, 6, none⟩ (.int .i64 t278)).setCell ⟨gb262, 7, none⟩ (.int .i64 t279)).setCell ⟨gb262, 8, none⟩ (.float .f64 b280)).setCell ⟨gb262, 9, none⟩ (.slice Ao119 t281.length co119)).heap[gb285]? = some (.cells #[.int .i64 t278, .int .i64 t279, .float .f64 b280, .slice Ao119 t281.length co119] 25 (0, 0))) := ⟨bput BK285.out⟩
           have n6_ : Aside0 (Below w.heap.size w ((((((((((((w114.setCell ⟨gb285, 0, none⟩ (.int .i64 t278)).setCell ⟨gb285, 1, none⟩ (.int .i64 t279)).setCell ⟨gb285, 2, none⟩ (.float .f64 b280)).setCell ⟨gb285, 3, none⟩ (.slice Ao119 t281.length co119)).setCell ⟨gb262, 2, none⟩ (.int .i64 t269)).setCell ⟨gb262, 3, none⟩ (.int .i64 t270)).setCell ⟨gb262, 4, none⟩ (.float .f64 b271)).setCell ⟨gb262, 5, none⟩ (.slice Ao36 t272.length co36)).setCell ⟨gb262, 6, none⟩ (.int .i64 t278)).setCell ⟨gb262, 7, none⟩ (.int .i64 t279)).setCell ⟨gb262, 8, none⟩ (.float .f64 b280)).setCell ⟨gb262, 9, none⟩ (.slice Ao119 t281.length co119))) := ⟨hset HB.out⟩
           (try clear HO274)
           (try clear HO283)
           (try clear BK261)
           (try clear BK262)
           (try clear BK276)
           (try clear BK285)
           (try clear HB)
           generalize ((((((((((((w114.setCell ⟨gb285, 0, none⟩ (.int .i64 t278)).setCell ⟨gb285, 1, none⟩ (.int .i64 t279)).setCell ⟨gb285, 2, none⟩ (.float .f64 b280)).setCell ⟨gb285, 3, none⟩ (.slice Ao119 t281.length co119)).setCell ⟨gb262, 2, none⟩ (.int .i64 t269)).setCell ⟨gb262, 3, none⟩ (.int .i64 t270)).setCell ⟨gb262, 4, none⟩ (.float .f64 b271)).setCell ⟨gb262, 5, none⟩ (.slice Ao36 t272.length co36)).setCell ⟨gb262, 6, none⟩ (.int .i64 t278)).setCell ⟨gb262, 7, none⟩ (.int .i64 t279)).setCell ⟨gb262, 8, none⟩ (.float .f64 b280)).setCell ⟨gb262, 9, none⟩ (.slice Ao119 t281.length co119)) = w122 at n0_ n1_ n2_ n3_ n4_ n5_ n6_ ⊢
           have HO274 := n0_
           have HO283 := n1_
           have BK261 := n2_
           have BK262 := n3_
           have BK276 := n4_
           have BK285 := n5_
           have HB := n6_
           clear n0_ n1_ n2_ n3_ n4_ n5_ n6_
           have n0_ := Aside0.mk (Kd.R_drew HO274.out)
           have n1_ := Aside0.mk (Kd.R_drew HO283.out)
           have n2_ := Aside0.mk (blk_drew BK261.out)
           have n3_ := Aside0.mk (blk_drew BK262.out)
           have n4_ := Aside0.mk (blk_drew BK276.out)
           have n5_ := Aside0.mk (blk_drew BK285.out)
           have n6_ := Aside0.mk (below_drew1 HB.out)
           clear HO274
           clear HO283
           clear BK261
           clear BK262
           clear BK276
           clear BK285
           clear HB
           have HO274 := n0_
           have HO283 := n1_
           have BK261 := n2_
           have BK262 := n3_
           have BK276 := n4_
           have BK285 := n5_
           have HB := n6_
           clear n0_ n1_ n2_ n3_ n4_ n5_ n6_
           refine start_ (n := 14) (S := fun w' => True) (ds := []) #[false, false, false, false, false, false, false, false, false, false, false, false, false, false] (by kernel_rfl) rfl rfl trivial (fun hHeld => ?_); refine with_tabW spec_TupleRead.tab13 spec_TupleRead.bits13 (fun HT_ HW_ => ?_)
           generalize w122.drew = w123 at HO274 HO283 BK261 BK262 BK276 BK285 HB hHeld ⊢
           refine pure_ (i := 0) (N := some 61) (v := ?_) (a' := ?_) #[true, false, false, false, false, false, false, false, false, false, false, false, false, false] rfl rfl (any_of HT_.out (by kernel_rfl)) (fun _ _ _ h => h) (Or.inl ⟨by rfl, ?_⟩) ?_ ?_
           rotate_left
           ·intro w'
            go_simp
            with_reducible rfl
           rotate_left
           ·simp only [Act.put, List.setIfInBounds_toArray, List.set_cons_zero, List.set_cons_succ, i64_w, i32_w]
            rfl
           refine pure_ (i := 1) (N := some 62) (v := ?_) (a' := ?_) #[true, true, false, false, false, false, false, false, false, false, false, false, false, false] rfl rfl (any_of HT_.out (by kernel_rfl)) (fun _ _ _ h => h) (Or.inl ⟨by rfl, ?_⟩) ?_ ?_
           rotate_left
           ·intro w'
            go_simp
            with_reducible rfl
           rotate_left
           ·simp only [Act.put, List.setIfInBounds_toArray, List.set_cons_zero, List.set_cons_succ, i64_w, i32_w]
            rfl
           refine pure_ (i := 2) (N := some 63) (v := ?_) (a' := ?_) #[true, true, true, false, false, false, false, false, false, false, false, false, false, false] rfl rfl (any_of HT_.out (by kernel_rfl)) (fun _ _ _ h => h) (Or.inl ⟨by rfl, ?_⟩) ?_ ?_
           rotate_left
           ·intro w'
            go_simp
            with_reducible rfl
           rotate_left
           ·simp only [Act.put, List.setIfInBounds_toArray, List.set_cons_zero, List.set_cons_succ, i64_w, i32_w]
            rfl
           refine pure_ (i := 3) (N := some 64) (v := undef) (a' := ?_) #[true, true, true, true, false, false, false, false, false, false, false, false, false, false] rfl rfl (any_of HT_.out (by kernel_rfl)) (fun _ _ _ h => h) (Or.inr ⟨by rfl, rfl⟩) ?_ ?_
           rotate_left
           ·simp only [Act.put, List.setIfInBounds_toArray, List.set_cons_zero, List.set_cons_succ, i64_w, i32_w]
            rfl
           refine pure_ (i := 4) (N := some 65) (v := undef) (a' := ?_) #[true, true, true, true, true, false, false, false, false, false, false, false, false, false] rfl rfl (any_of HT_.out (by kernel_rfl)) (fun _ _ _ h => h) (Or.inr ⟨by rfl, rfl⟩) ?_ ?_
           rotate_left
           ·simp only [Act.put, List.setIfInBounds_toArray, List.set_cons_zero, List.set_cons_succ, i64_w, i32_w]
            rfl
           refine pure_ (i := 5) (N := some 66) (v := ?_) (a' := ?_) #[true, true, true, true, true, true, false, false, false, false, false, false, false, false] rfl rfl (any_of HT_.out (by kernel_rfl)) (fun _ _ _ h => h) (Or.inl ⟨by rfl, ?_⟩) ?_ ?_
           rotate_left
           ·intro w'
            go_simp
            with_reducible rfl
           rotate_left
           ·simp only [Act.put, List.setIfInBounds_toArray, List.set_cons_zero, List.set_cons_succ, i64_w, i32_w]
            rfl
           refine pure_ (i := 6) (N := some 67) (v := ?_) (a' := ?_) #[true, true, true, true, true, true, true, false, false, false, false, false, false, false] rfl rfl (any_of HT_.out (by kernel_rfl)) (fun _ _ _ h => h) (Or.inl ⟨by rfl, ?_⟩) ?_ ?_
           rotate_left
           ·intro w'
            go_simp
            with_reducible rfl
           rotate_left
           ·simp only [Act.put, List.setIfInBounds_toArray, List.set_cons_zero, List.set_cons_succ, i64_w, i32_w]
            rfl
           refine pure_ (i := 7) (N := some 68) (v := undef) (a' := ?_) #[true, true, true, true, true, true, true, true, false, false, false, false, false, false] rfl rfl (any_of HT_.out (by kernel_rfl)) (fun _ _ _ h => h) (Or.inr ⟨by rfl, rfl⟩) ?_ ?_
           rotate_left
           ·simp only [Act.put, List.setIfInBounds_toArray, List.set_cons_zero, List.set_cons_succ, i64_w, i32_w]
            rfl
           refine pure_ (i := 8) (N := some 69) (v := undef) (a' := ?_) #[true, true, true, true, true, true, true, true, true, false, false, false, false, false] rfl rfl (any_of HT_.out (by kernel_rfl)) (fun _ _ _ h => h) (Or.inr ⟨by rfl, rfl⟩) ?_ ?_
           rotate_left
           ·simp only [Act.put, List.setIfInBounds_toArray, List.set_cons_zero, List.set_cons_succ, i64_w, i32_w]
            rfl
           refine pure_ (i := 9) (N := some 70) (v := undef) (a' := ?_) #[true, true, true, true, true, true, true, true, true, true, false, false, false, false] rfl rfl (any_of HT_.out (by kernel_rfl)) (fun _ _ _ h => h) (Or.inr ⟨by rfl, rfl⟩) ?_ ?_
           rotate_left
           ·simp only [Act.put, List.setIfInBounds_toArray, List.set_cons_zero, List.set_cons_succ, i64_w, i32_w]
            rfl
           refine pure_ (i := 10) (N := some 71) (v := undef) (a' := ?_) #[true, true, true, true, true, true, true, true, true, true, true, false, false, false] rfl rfl (any_of HT_.out (by kernel_rfl)) (fun _ _ _ h => h) (Or.inr ⟨by rfl, rfl⟩) ?_ ?_
           rotate_left
           ·simp only [Act.put, List.setIfInBounds_toArray, List.set_cons_zero, List.set_cons_succ, i64_w, i32_w]
            rfl
           refine pure_ (i := 11) (N := some 72) (v := undef) (a' := ?_) #[true, true, true, true, true, true, true, true, true, true, true, true, false, false] rfl rfl (any_of HT_.out (by kernel_rfl)) (fun _ _ _ h => h) (Or.inr ⟨by rfl, rfl⟩) ?_ ?_
           rotate_left
           ·simp only [Act.put, List.setIfInBounds_toArray, List.set_cons_zero, List.set_cons_succ, i64_w, i32_w]
            rfl
           refine pure_ (i := 12) (N := some 73) (v := undef) (a' := ?_) #[true, true, true, true, true, true, true, true, true, true, true, true, true, false] rfl rfl (any_of HT_.out (by kernel_rfl)) (fun _ _ _ h => h) (Or.inr ⟨by rfl, rfl⟩) ?_ ?_
           rotate_left
           ·simp only [Act.put, List.setIfInBounds_toArray, List.set_cons_zero, List.set_cons_succ, i64_w, i32_w]
            rfl
           refine pure_ (i := 13) (N := some 74) (v := ?_) (a' := ?_) #[true, true, true, true, true, true, true, true, true, true, true, true, true, true] rfl rfl (any_of HT_.out (by kernel_rfl)) (fun _ _ _ h => h) (Or.inl ⟨by rfl, ?_⟩) ?_ ?_
           rotate_left
           ·intro w'
            go_simp
            with_reducible rfl
           rotate_left
           ·simp only [Act.put, List.setIfInBounds_toArray, List.set_cons_zero, List.set_cons_succ, i64_w, i32_w]
            rfl
           refine done_ (done_of HT_.out (by kernel_rfl)) ?_
           obtain ⟨hcz124_0, hcz124_1, hcz124_2, hcz124_3, hcz124_4, hcz124_5, hcz124_6, hcz124_7, hcz124_8, hcz124_9⟩ := blk_cells10 BK261.out
           obtain ⟨hfz124_0, hfz124_1, hfz124_2, hfz124_3, hfz124_4, hfz124_5, hfz124_6, hfz124_7, hfz124_8, hfz124_9⟩ := blk_frozens10 BK261.out
           try go_wp2
           refine bodyPost_ret (results_ct rfl _ _ gb261 49 #[.int .i64 0, .int .i64 0, .int .i64 0, .int .i64 0, .float .f64 0, .slice none 0 0, .int .i64 0, .int .i64 0, .float .f64 0, .slice none 0 0] (0, 0) _ rfl (bput BK261.out) Try.underlying49 rfl (by kernel_rfl)) rfl ?_
           exact ⟨_, _, _, _, by first | rfl | (simp [errW_none, errW_some] <;> rfl) | (simp only [← hji20]; first | rfl | (simp [errW_none, errW_some] <;> rfl)) | (simp [*, errW_none, errW_some] <;> rfl), by first | exact Kd.R_nil _ _ _ _ _ | exact Kd.N_nil _ _ _ _ _ | exact Kd.V_nil _ _ _ _ _ | exact Kd.Q_nil _ _ _ _ _ | exact Kd.S_nil _ _ _ _ _, by first | exact Kd.R_nil _ _ _ _ _ | exact Kd.N_nil _ _ _ _ _ | exact Kd.V_nil _ _ _ _ _ | exact Kd.Q_nil _ _ _ _ _ | exact Kd.S_nil _ _ _ _ _, hset HB.out, (by first | exact ⟨⟨rfl, LTb271.out⟩⟩ | exact ⟨⟨rfl, LTb280.out⟩⟩ | exact ⟨⟨by first | rfl | decide, by decide⟩⟩), (by first | exact ⟨⟨rfl, LTb271.out⟩⟩ | exact ⟨⟨rfl, LTb280.out⟩⟩ | exact ⟨⟨by first | rfl | decide, by decide⟩⟩)⟩
         ·rw [if_neg c22] at H
          exact absurd H (by simp)
        ·rw [if_neg c21] at H
         exact absurd H (by simp)
       ·rw [if_neg c18] at H
        exact absurd H (by simp)
      ·rw [if_neg c17] at H
       exact absurd H (by simp)
    ·rw [if_neg c12] at H
     exact absurd H (by simp)
def impl_within.f (a0 : Int) (a1 : Int) (a2 : Int) : Option (Bool) := if a1 ≤ a0 then (some (decide (a0 ≤ a2))) else (some false)
set_option maxHeartbeats 8000000 in
set_option maxRecDepth 100000 in
theorem impl_within.calls (a0 : Int) (a1 : Int) (a2 : Int) (r : Bool) (w : World) (h : impl_within.f a0 a1 a2 = some r) :
    Calls Try.prog 80 #[.int .i64 a0, .int .i64 a1, .int .i64 a2] w fun e w' => e = .returned (.bool r) ∧ Drawn0 w w' := by
  have H := h
  clear h
  unfold impl_within.f at H
  by_cases c4 : a1 ≤ a0
  · rw [if_pos c4] at H
    have c4b0 : decide (a1 ≤ a0) = true := decide_eq_true c4
    clear c4
    obtain rfl := Option.some.inj H
    go_enter Try.func80, Try.ntmps80
    go_wp2
    go_ret
    exact ⟨by first | rfl | (simp; done) | (simp [*]; done), by repeat (first | exact Drawn0.refl _ | apply Drawn0.step)⟩
  · rw [if_neg c4] at H
    have c4b0 : decide (a1 ≤ a0) = false := decide_eq_false c4
    clear c4
    obtain rfl := Option.some.inj H
    go_enter Try.func80, Try.ntmps80
    go_wp2
    go_ret
    exact ⟨by first | rfl | (simp; done) | (simp [*]; done), by repeat (first | exact Drawn0.refl _ | apply Drawn0.step)⟩
end Go.Proofs.Ytjjkhlphdbmdfaa.PFnExactTupleRead
