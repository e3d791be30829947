import Derived.Test.YtokpniagnbaflaaZFnPlaces29
import Derived.Test.YtokpniagnbaflaaZFnPlacesA
import Derived.Test.YtokpniagnbaflaaZFnPlaces30
import Derived.Test.YtokpniagnbaflaaZFnPlaces33
namespace Go.Proofs.Ytokpniagnbaflaa.PFnPlaces
open Go.RowKit Go.Proofs.YtokpniagnbaflaaW.PrintWords Go.Proofs.YtokpniagnbaflaaW.PrintLast Go.Proofs.YtokpniagnbaflaaW.PrintMore
attribute [local go_sem] max2_int min2_int max_two min_two max_three min_three max_four min_four   -- for this text's walks alone
attribute [local go_sem high] fl_eql fl_neq fl_lss fl_leq fl_gtr fl_geq fl_add fl_sub fl_mul fl_quo fl_neg fl_ofInt fl_toInt fl_store sub_sign fl_nan_quo fl_nan_add fl_nan_mul fl_nan_sub
open Go.Proofs.YtokpniagnbaflaaW.PrintWords renaming below_alloc → h1, pw_below_drewN → h2, below_drew1 → h3, below_set → h4, blk_drewN → b1, blk_drew → b2, blk_alloc → b3
set_option linter.unusedVariables false
set_option linter.unusedSimpArgs false
mutual
def spec_PageClear.j0 : Nat → Int → Int → Bool → Int → List (List Int) → Option (Int × (List (List Int)) × Bool)
 | 0, _, _, _, _, _ => none
 | k + 1, x1, x2, x25, x170000, x170001 => if x25 = true then (some (0, ([] : List (List Int)), false)) else ((spec_l7copy.f k x170000 x170001).bind fun bt174 => (if 0 ≤ x1 then (if x1 < (bt174.2.length : Int) then (spec_PageClear.l0 k x2 (bt174.2.set (x1 : Int).toNat ([] : List Int))) else (none)) else (none)))
def spec_PageClear.l0 : Nat → Int → List (List Int) → Option (Int × (List (List Int)) × Bool)
 | 0, _, _ => none
 | k + 1, x179000, x179001 => if (x179001.length : Int) > 0 then (if 0 ≤ (wrap64 ((x179001.length : Int) - 1)) then (if (wrap64 ((x179001.length : Int) - 1)) < (x179001.length : Int) then (if ((rd_L1 x179001 (wrap64 ((x179001.length : Int) - 1))).length : Int) = 0 then (if (wrap64 ((x179001.length : Int) - 1)) ≤ (x179001.length : Int) then (spec_PageClear.l0 k x179000 (x179001.take ((wrap64 ((x179001.length : Int) - 1)) : Int).toNat)) else (none)) else (some (x179000, x179001, true))) else (none)) else (none)) else (some (x179000, x179001, true))
end
def spec_PageClear.f (k : Nat) (a0_0 : Int) (l0_1 : List (List Int)) (a1 : Int) (a2 : Int) : Option (Int × (List (List Int)) × Bool) := (spec_PageUsed.f k a0_0 l0_1).bind fun t171 => (if t171 < 0 then (spec_PageClear.j0 k a1 a2 true a0_0 l0_1) else ((spec_l5in.f a1 0 (wrap64 ((l0_1.length : Int) - 1))).bind fun t172 => (if t172 = true then ((spec_l5in.f a2 1 1000000).bind fun t173 => (spec_PageClear.j0 k a1 a2 (!t173) a0_0 l0_1)) else (spec_PageClear.j0 k a1 a2 true a0_0 l0_1))))
theorem spec_PageClear.mono_l : ∀ k, (∀ y0 y1 y2 y3 y4, LeO (spec_PageClear.j0 k y0 y1 y2 y3 y4) (spec_PageClear.j0 (k + 1) y0 y1 y2 y3 y4)) ∧ (∀ y0 y1, LeO (spec_PageClear.l0 k y0 y1) (spec_PageClear.l0 (k + 1) y0 y1))
 | 0 => ⟨fun _ _ _ _ _ r h => by simp [spec_PageClear.j0] at h, fun _ _ r h => by simp [spec_PageClear.l0] at h⟩
 | k + 1 => by
  obtain ⟨ih0, ih1⟩ := spec_PageClear.mono_l k
  refine ⟨?_, ?_⟩
  ·intro y0 y1 y2 y3 y4
   unfold spec_PageClear.j0
   repeat' with_reducible first | exact ih0 _ _ _ _ _ | exact ih1 _ _ | exact spec_PageUsed.mono _ _ _ | exact spec_l7copy.mono _ _ _ | exact LeO.refl _ | exact LeO.none _ | refine LeO.ite ?_ ?_ | refine LeO.bind ?_ (fun _ => ?_)
  ·intro y0 y1
   unfold spec_PageClear.l0
   repeat' with_reducible first | exact ih0 _ _ _ _ _ | exact ih1 _ _ | exact spec_PageUsed.mono _ _ _ | exact spec_l7copy.mono _ _ _ | exact LeO.refl _ | exact LeO.none _ | refine LeO.ite ?_ ?_ | refine LeO.bind ?_ (fun _ => ?_)
theorem spec_PageClear.mono : ∀ a0 a1 a2 a3 k, LeO (spec_PageClear.f k a0 a1 a2 a3) (spec_PageClear.f (k + 1) a0 a1 a2 a3) := by
 intro a0 a1 a2 a3 k
 obtain ⟨ih0, ih1⟩ := spec_PageClear.mono_l k
 unfold spec_PageClear.f
 repeat' with_reducible first | exact ih0 _ _ _ _ _ | exact ih1 _ _ | exact spec_PageUsed.mono _ _ _ | exact spec_l7copy.mono _ _ _ | exact LeO.refl _ | exact LeO.none _ | refine LeO.ite ?_ ?_ | refine LeO.bind ?_ (fun _ => ?_)
set_option maxHeartbeats 8000000 in
set_option maxRecDepth 100000 in
theorem spec_PageClear.calls (k : Nat) (a0_0 : Int) (A0_1 : Option Addr) (c0_1 : Nat) (l0_1 : List (List Int)) (a1 : Int) (a2 : Int) (r1 : Int) (r2 : List (List Int)) (r3 : Bool) (w : World) (hr0_1 : Kd.C (Kd.slice 5 (Kd.int .u8)) w A0_1 l0_1.length l0_1) (hc0_1 : l0_1.length ≤ c0_1) (h : spec_PageClear.f k a0_0 l0_1 a1 a2 = some (r1, r2, r3)) :
  Calls Try.prog 18 #[.agg #[.int .i64 a0_0, .slice A0_1 l0_1.length c0_1], .int .i64 a1, .int .i64 a2] w fun e w' => ∃ v1_ : Value, e = .returned (.tuple #[.agg #[.int .i64 r1, v1_], .bool r3]) ∧ Kd.S (Kd.slice 5 (Kd.int .u8)) 36 w' w.heap.size (fun _ => True) v1_ r2 ∧ Below w.heap.size w w' := by
 have hu27 := Try.underlying27
 have HR0_1 := ZA hr0_1
 have HC0_1 := ZA hc0_1
 clear hr0_1 hc0_1
 have HB := ZA (Below.refl w.heap.size w)
 have H := h
 clear h
 unfold spec_PageClear.f at H
 have HC4 := ZA H
 clear H
 go_enter Try.func18, Try.ntmps18
 go_upto_region 1 with (first | ((with_reducible refine gate_dst (N := 3) rfl ?_); (try (refine gate_guard Z94 ?_; dsimp only)); refine box_event ?hg (N := 3) ?hd (cs := #[.int .i64 a0_0, .slice A0_1 l0_1.length c0_1]) (t := 27) ?hr ?_; (case hd => rfl); (case hg => rfl); (case hr => first | (go_simp; done) | (go_simp; rfl)); intro gb169 hg w5 hbox hb; have n0_ := ZA (below_step (hup HB.out) hb); have n1_ := ZA (hbox); have n2_ := Geq.mk ((Z28 : w.heap.size ≤ gb169)); have n3_ := Geq.mk ((Z28 : w.heap.size ≤ gb169)); clear HB; have HB := n0_; have BK169 := n1_; have GW169 := n2_; have GE169 := n3_; clear n0_ n1_ n2_ n3_ hb hbox hg) | ((with_reducible refine gate_dst (N := 6) rfl ?_); (try (refine gate_guard Z94 ?_; dsimp only)); refine box_event ?hg (N := 6) ?hd (cs := #[.int .i64 0, .slice none 0 0]) (t := 27) ?hr ?_; (case hd => rfl); (case hg => rfl); (case hr => first | (go_simp; done) | (go_simp; rfl)); intro gb170 hg w6 hbox hb; have n0_ := ZA (blk_below (bup BK169.out) hb); have n1_ := ZA (below_step (hset HB.out) hb); have n2_ := ZA (hbox); have n3_ := Geq.mk ((Z34 : w.heap.size ≤ gb170)); have n4_ := Geq.mk ((Z34 : w.heap.size ≤ gb170)); have n5_ := Neq.mk ((by rw [hg]; exact Nat.ne_of_lt (blk_lt (g := gb169) (o := .cells #[.int .i64 a0_0, .slice A0_1 l0_1.length c0_1] 27 (0, 0)) (bup BK169.out)) : gb169 ≠ gb170)); have n6_ := Neq.mk ((by rw [hg]; exact Nat.ne_of_gt (blk_lt (g := gb169) (o := .cells #[.int .i64 a0_0, .slice A0_1 l0_1.length c0_1] 27 (0, 0)) (bup BK169.out)) : gb170 ≠ gb169)); clear BK169 HB; have BK169 := n0_; have HB := n1_; have BK170 := n2_; have GW170 := n3_; have GE170 := n4_; have NB169_170 := n5_; have NB170_169 := n6_; clear n0_ n1_ n2_ n3_ n4_ n5_ n6_ hb hbox hg))
 (try simp only [Act.put, List.setIfInBounds_toArray, List.set_cons_zero, List.set_cons_succ])
 go_cut [25] (fun v25 wc => ∃ (kq : Nat) (x25_3 : Bool), v25 = .bool x25_3 ∧ Aside0 (spec_PageClear.j0 kq a1 a2 x25_3 a0_0 l0_1 = some (r1, r2, r3)) ∧ Aside0 (kq ≤ k) ∧ Aside0 (wc.heap[gb169]? = some (.cells #[.int .i64 a0_0, (.slice A0_1 l0_1.length c0_1)] 27 (0, 0))) ∧ Aside0 (wc.heap[gb170]? = some (.cells #[.int .i64 0, (.slice none 0 0)] 27 (0, 0))) ∧ Aside0 (Below w.heap.size w wc))
 case first =>
  have H := HC4.out
  clear HC4
  replace H := Option.bind_eq_some_iff.mp H
  obtain ⟨t171, A70, H⟩ := H
  (try dsimp only at H)
  have A7 := ZA A70
  clear A70
  have hnb9 := NB169_170.out
  have hnc9 := NB170_169.out
  obtain ⟨hcz10_0, hcz10_1⟩ := blk_cells2 BK169.out
  obtain ⟨hfz10_0, hfz10_1⟩ := blk_frozens2 BK169.out
  repeat (first | ((fail_if_success (with_reducible refine gate_callee (f := 12) rfl ?_)); first | go_values | go_skip | go_guarded | go_step | go_upon | go_back | (simp only [Int.not_lt, Int.not_le] at *; go_simp)))
  (with_reducible refine gate_callee (f := 12) rfl ?_); refine goesL_ (some 10) rfl rfl Try.func12 Z12 rfl #[.agg #[.int .i64 a0_0, .slice A0_1 l0_1.length c0_1]] rfl Z1 ?_; (with_reducible refine (spec_PageUsed.calls k a0_0 _ _ l0_1 t171 _ ?side1 ?side2 A7.out).mono ?_); (case side1 => repeat (first | exact (Kd.C_below HR0_1.out HB.out) | (with_reducible refine Kd.C_alloc ?_ _) | (with_reducible refine Kd.C_drewN ?_ _) | (with_reducible refine Kd.C_drew ?_))); (case side2 => exact HC0_1.out); rintro e w11 ⟨rfl, hb⟩; refine ⟨_, rfl, ?_⟩; have n0_ := ZA (blk_below (bup BK169.out) hb); have n1_ := ZA (blk_below (bup BK170.out) hb); have n2_ := ZA (below_step (hset HB.out) hb); clear BK169 BK170 HB; have BK169 := n0_; have BK170 := n1_; have HB := n2_; clear n0_ n1_ n2_; (try clear hb); (try clear hb2); (try clear hk)
  by_cases c8 : t171 < 0
  ·rw [if_pos c8] at H
   have c8b0 : decide (t171 < 0) = true := decide_eq_true c8
   (try simp only [c8b0, Bool.not_true, Bool.not_false])
   clear c8
   (first | rw [c8b0] | (simp only [i64_w, i32_w]; rw [c8b0]) | skip)
   have H' := ZA H
   clear H
   (try clear hi)
   try go_wp2
   go_meet
   case rel => exact ⟨_, (true), Z7, H', ⟨by first | omega | exact Nat.le_refl _⟩, ⟨by exact bup BK169.out⟩, ⟨by exact bup BK170.out⟩, ⟨hset HB.out⟩⟩
  ·rw [if_neg c8] at H
   have c8b0 : decide (t171 < 0) = false := decide_eq_false c8
   (try simp only [c8b0, Bool.not_true, Bool.not_false])
   clear c8
   (first | rw [c8b0] | (simp only [i64_w, i32_w]; rw [c8b0]) | skip)
   replace H := Option.bind_eq_some_iff.mp H
   obtain ⟨t172, A120, H⟩ := H
   (try dsimp only at H)
   have A12 := ZA A120
   clear A120
   (try clear hi); obtain ⟨hcz18_0, hcz18_1⟩ := blk_cells2 BK169.out; obtain ⟨hfz18_0, hfz18_1⟩ := blk_frozens2 BK169.out
   try go_wp2_with (fail)
   go_at_call 37; (with_reducible refine (spec_l5in.calls a1 0 (wrap64 ((l0_1.length : Int) - 1)) t172 _ A12.out).mono ?_); rintro e w' ⟨rfl, ⟨nd, rfl⟩⟩
   by_cases c13 : t172 = true
   ·subst c13
    rw [if_pos rfl] at H
    (try dsimp only at H)
    replace H := Option.bind_eq_some_iff.mp H
    obtain ⟨t173, A140, H⟩ := H
    (try dsimp only at H)
    have A14 := ZA A140
    clear A140
    have H' := ZA H
    clear H
    try go_wp2_with (first | (go_at_call 37; (with_reducible refine (spec_l5in.calls a2 1 1000000 t173 _ A14.out).mono ?_); rintro e w' ⟨rfl, ⟨nd, rfl⟩⟩))
    go_meet
    case rel => exact ⟨_, (!t173), Z7, H', ⟨by first | omega | exact Nat.le_refl _⟩, ⟨by exact bup BK169.out⟩, ⟨by exact bup BK170.out⟩, ⟨hset HB.out⟩⟩
   ·replace c13 := Bool.eq_false_iff.mpr c13
    subst c13
    rw [if_neg (show ¬ (false = true) by decide)] at H
    (try dsimp only at H)
    have H' := ZA H
    clear H
    try go_wp2
    go_meet
    case rel => exact ⟨_, (true), Z7, H', ⟨by first | omega | exact Nat.le_refl _⟩, ⟨by exact bup BK169.out⟩, ⟨by exact bup BK170.out⟩, ⟨hset HB.out⟩⟩
 case rest =>
  clear HC4
  try clear c1
  try clear p2
  try clear p6
  try clear c8
  try clear c8b0
  try clear c9
  try clear c12
  try clear c13
  try clear c15
  try clear c18
  try clear c19
  try clear hcz10_0
  try clear hcz10_1
  try clear hcz16_0
  try clear hcz16_1
  try clear hcz18_0
  try clear hcz18_1
  try clear hcz20_0
  try clear hcz20_1
  try clear hcz22_0
  try clear hcz22_1
  try clear hfz10_0
  try clear hfz10_1
  try clear hfz16_0
  try clear hfz16_1
  try clear hfz18_0
  try clear hfz18_1
  try clear hfz20_0
  try clear hfz20_1
  try clear hfz22_0
  try clear hfz22_1
  obtain ⟨kq, x25_3, rfl, HA, HJ3, BK169, BK170, HB⟩ := hcut
  cases kq with
  | zero => exact absurd HA.out (by simp [spec_PageClear.j0])
  | succ kj3 =>
   have H := HA.out
   clear HA
   simp only [spec_PageClear.j0] at H
   by_cases c23 : x25_3 = true
   ·subst c23
    rw [if_pos rfl] at H
    (try dsimp only at H)
    simp only [Option.some.injEq, Prod.mk.injEq] at H
    obtain ⟨rfl, rfl, rfl⟩ := H
    have hnb24 := NB170_169.out
    have hnc24 := NB169_170.out
    obtain ⟨hcz25_0, hcz25_1⟩ := blk_cells2 BK170.out
    obtain ⟨hfz25_0, hfz25_1⟩ := blk_frozens2 BK170.out
    go_wp2
    refine bodyPost_ret (results_ct rfl _ _ gb170 27 #[.int .i64 0, .slice none 0 0] (0, 0) _ rfl (bput BK170.out) Try.underlying27 rfl Z12) rfl ?_
    exact ⟨_, by first | rfl | (simp [errW_none, errW_some] <;> rfl) | (simp [*, errW_none, errW_some] <;> rfl), by first | exact Kd.S_nil _ _ _ _ _ | exact Kd.N_nil _ _ _ _ _ | exact Kd.V_nil _ _ _ _ _ | exact Kd.Q_nil _ _ _ _ _ | exact Kd.R_nil _ _ _ _ _, hset HB.out⟩
   ·replace c23 := Bool.eq_false_iff.mpr c23
    subst c23
    rw [if_neg (show ¬ (false = true) by decide)] at H
    (try dsimp only at H)
    replace H := Option.bind_eq_some_iff.mp H
    obtain ⟨⟨t174, t175⟩, A260, H⟩ := H
    (try dsimp only at H)
    have A26 := ZA A260
    clear A260
    by_cases c27 : 0 ≤ a1
    ·rw [if_pos c27] at H
     have c27b0 : decide (0 ≤ a1) = true := decide_eq_true c27
     clear c27
     by_cases c28 : a1 < (t175.length : Int)
     ·rw [if_pos c28] at H
      have c28b0 : decide (a1 < (t175.length : Int)) = true := decide_eq_true c28
      clear c28
      obtain ⟨y179, hy179⟩ : ∃ y_ : List (List Int), y_ = (t175.set (a1 : Int).toNat ([] : List Int)) := ⟨_, rfl⟩
      replace H : (spec_PageClear.l0 kj3 a2 y179) = some (r1, r2, r3) := by first | (rw [hy179]; with_reducible exact H) | (have H2_ := (Option.bind_some _ _).symm.trans H; rw [hy179]; with_reducible exact H2_) | (have H2_ := (Option.bind_some _ _).symm.trans H; with_reducible exact H2_) | with_reducible exact H | (rw [hy179]; exact H) | exact H
      have Ny179 := ZA hy179
      clear hy179
      have H' := ZA H
      clear H
      have hnb30 := NB169_170.out
      have hnc30 := NB170_169.out
      obtain ⟨hcz31_0, hcz31_1⟩ := blk_cells2 BK169.out
      obtain ⟨hfz31_0, hfz31_1⟩ := blk_frozens2 BK169.out
      go_wp2_with (first | ((with_reducible refine gate_callee (f := 43) rfl ?_); refine goesL_ (some 28) rfl rfl Try.func43 Z12 rfl #[.agg #[.int .i64 a0_0, .slice A0_1 l0_1.length c0_1]] rfl Z1 ?_; (with_reducible refine (spec_l7copy.calls kj3 a0_0 _ _ l0_1 t174 t175 _ ?side1 ?side2 A26.out).mono ?_); (case side1 => repeat (first | exact (Kd.C_below HR0_1.out HB.out) | (with_reducible refine Kd.C_alloc ?_ _) | (with_reducible refine Kd.C_drewN ?_ _) | (with_reducible refine Kd.C_drew ?_))); (case side2 => exact HC0_1.out); rintro e w32 ⟨v176, rfl, ho0, hb⟩; refine ⟨_, rfl, ?_⟩; have n0_ := ZA (Kd.S_lower ho0 (below_size (hset HB.out))); have n1_ := ZA (blk_below (bup BK169.out) hb); have n2_ := ZA (blk_below (bup BK170.out) hb); have n3_ := ZA (below_step (hset HB.out) hb); clear BK169 BK170 HB; have HO177 := n0_; have BK169 := n1_; have BK170 := n2_; have HB := n3_; clear n0_ n1_ n2_ n3_; (try clear hb); (try clear hb2); (try clear hk); (try clear hi); (try clear ho0)) | ((with_reducible refine gate_dst (N := 8) rfl ?_); (try (refine gate_guard Z94 ?_; dsimp only)); refine box_event ?hg (N := 8) ?hd (cs := #[.int .i64 0, .slice none 0 0]) (t := 27) ?hr ?_; (case hd => rfl); (case hg => rfl); (case hr => first | (go_simp; done) | (go_simp; rfl)); intro gb178 hg w33 hbox hb; have n0_ := ZA (Kd.S_below (by (with_reducible repeat (first | apply Kd.S_alloc | apply Kd.S_drewN | apply Kd.S_drew)); exact HO177.out) hb); have n1_ := ZA (blk_below (bup BK169.out) hb); have n2_ := ZA (blk_below (bup BK170.out) hb); have n3_ := ZA (below_step (hset HB.out) hb); have n4_ := ZA (hbox); have n5_ := Geq.mk ((Z34 : w.heap.size ≤ gb178)); have n6_ := Geq.mk ((Z34 : w.heap.size ≤ gb178)); have n7_ := Neq.mk ((by rw [hg]; exact Nat.ne_of_lt (blk_lt (g := gb169) (o := .cells #[.int .i64 a0_0, .slice A0_1 l0_1.length c0_1] 27 (0, 0)) (bup BK169.out)) : gb169 ≠ gb178)); have n8_ := Neq.mk ((by rw [hg]; exact Nat.ne_of_gt (blk_lt (g := gb169) (o := .cells #[.int .i64 a0_0, .slice A0_1 l0_1.length c0_1] 27 (0, 0)) (bup BK169.out)) : gb178 ≠ gb169)); have n9_ := Neq.mk ((by rw [hg]; exact Nat.ne_of_lt (blk_lt (g := gb170) (o := .cells #[.int .i64 0, .slice none 0 0] 27 (0, 0)) (bup BK170.out)) : gb170 ≠ gb178)); have n10_ := Neq.mk ((by rw [hg]; exact Nat.ne_of_gt (blk_lt (g := gb170) (o := .cells #[.int .i64 0, .slice none 0 0] 27 (0, 0)) (bup BK170.out)) : gb178 ≠ gb170)); clear HO177 BK169 BK170 HB; have HO177 := n0_; have BK169 := n1_; have BK170 := n2_; have HB := n3_; have BK178 := n4_; have GW178 := n5_; have GE178 := n6_; have NB169_178 := n7_; have NB178_169 := n8_; have NB170_178 := n9_; have NB178_170 := n10_; clear n0_ n1_ n2_ n3_ n4_ n5_ n6_ n7_ n8_ n9_ n10_ hb hbox hg; have hnb34 := NB178_169.out; have hnc34 := NB169_178.out; have hnb35 := NB178_170.out; have hnc35 := NB170_178.out; obtain ⟨hcz36_0, hcz36_1⟩ := blk_cells2 BK178.out; obtain ⟨hfz36_0, hfz36_1⟩ := blk_frozens2 BK178.out; obtain ⟨Ao37, co37, eo37⟩ := Kd.S_slice HO177.out; subst eo37) | ((with_reducible refine gate_store (t := 27) (p := 8) rfl ?_); refine store_event (t := 27) (p := 8) (v := ?vo_w38) (w1 := ((w33.setCell ⟨gb178, 0, none⟩ (.int .i64 t174)).setCell ⟨gb178, 1, none⟩ (.slice Ao37 t175.length co37))) ?hg ?ho ?hn ?hr ?_; (case ho => rfl); (case hg => rfl); (case hn => rfl); (case hr => first | (go_simp; done) | (go_simp; rfl)); intro w38 hw; have n0_ : Aside0 (Kd.S (Kd.slice 5 (Kd.int .u8)) 36 w38 w.heap.size (fun _ => True) (.slice Ao37 t175.length co37) t175) := ⟨(by rw [hw]; exact (by (with_reducible repeat (first | apply Kd.S_alloc | apply Kd.S_drewN | apply Kd.S_drew)); exact Kd.S_mono (Kd.S_far (p := ⟨gb178, 1, none⟩) (Kd.S_far (p := ⟨gb178, 0, none⟩) (Kd.S_types HO177.out BK178.out Z25) (fun _ hk => hk.2) (.int .i64 t174)) (fun _ hk => hk.2) (.slice Ao37 t175.length co37)) (fun _ hk => trivial)))⟩; have n1_ : Aside0 (w38.heap[gb169]? = some (.cells #[.int .i64 a0_0, .slice A0_1 l0_1.length c0_1] 27 (0, 0))) := ⟨(by rw [hw]; exact (bput BK169.out))⟩; have n2_ : Aside0 (w38.heap[gb170]? = some (.cells #[.int .i64 0, .slice none 0 0] 27 (0, 0))) := ⟨(by rw [hw]; exact (bput BK170.out))⟩; have n3_ : Aside0 (w38.heap[gb178]? = some (.cells #[.int .i64 t174, .slice Ao37 t175.length co37] 27 (0, 0))) := ⟨(by rw [hw]; exact (bput BK178.out))⟩; have n4_ : Aside0 (Below w.heap.size w w38) := ⟨(by rw [hw]; exact (hset HB.out))⟩; clear hw HO177 BK169 BK170 BK178 HB; have HO177 := n0_; have BK169 := n1_; have BK170 := n2_; have BK178 := n3_; have HB := n4_; clear n0_ n1_ n2_ n3_ n4_; obtain ⟨hcz39_0, hcz39_1⟩ := blk_cells2 BK178.out; obtain ⟨hfz39_0, hfz39_1⟩ := blk_frozens2 BK178.out; have p29 : 0 ≤ (a1 : Int) := of_decide_eq_true Z10; have q29 : (a1 : Int) < ((t175.length : Int) : Int) := of_decide_eq_true Z10; obtain ⟨go29, co29, eo29, gb29, gl29, cl29, HG29⟩ := Kd.S_form HO177.out Z8; (first | cases eo29 | (injection eo29 with ea_ en_ ec_; (first | subst ea_ | (injection ea_ with ea_; subst ea_)); subst ec_; clear en_)); have GB29 := ZA gb29; have GG29 := ZA HG29; clear gb29 gl29 HG29; obtain ⟨_, ce29, hcl29, hM29, hcc29, hfr29, _, _⟩ := Kd.S_elem HO177.out [] (a1 : Int) p29 q29; obtain ⟨ve29_0, rfl, ge29_0⟩ := hM29; have hx29_0 := hcc29 0 _ rfl; have hf29_0 := hfr29 0; (try simp only [show ((Kd.slice 5 (Kd.int .u8))).sz = 1 from rfl, Nat.mul_one, Nat.add_zero] at hx29_0); (try simp only [show ((Kd.slice 5 (Kd.int .u8))).sz = 1 from rfl, Nat.mul_one, Nat.add_zero] at hf29_0); (try clear hM29); clear hcl29 hcc29 hfr29; replace p29 := eq_true p29; replace q29 := eq_true q29; have HX40 := ZA (show Kd.S (Kd.slice 5 (Kd.int .u8)) 36 w38 w.heap.size (fun k_ => ((fun _ => True)) k_ ∧ ¬ ((fun _ => False)) k_) (.slice (some ⟨go29, 0, none⟩) t175.length co37) t175 from (by (with_reducible repeat (first | apply Kd.S_alloc | apply Kd.S_drewN | apply Kd.S_drew)); exact Kd.S_mono HO177.out (fun k_ hk => ⟨trivial, fun e_ => e_⟩))); obtain ⟨oki40, ce40, hcl40, hM40, hcc40, hfr40, hoki40, hH40⟩ := Kd.S_elem HX40.out [] (a1 : Int) (of_decide_eq_true Z10) (by have h_ : (a1 : Int) < ((t175.length : Int) : Int) := of_decide_eq_true Z10; first | exact h_ | (have e_ := (Kd.S_reads' HO177.out).1; omega) | simpa using h_); obtain ⟨ve40_0, rfl, ge40_0⟩ := hM40; have HP40 := Kd.S_seg hH40 (of_decide_eq_true Z10) (by have h_ : (a1 : Int) < ((t175.length : Int) : Int) := of_decide_eq_true Z10; first | exact h_ | (have e_ := (Kd.S_reads' HO177.out).1; omega) | simpa using h_) (seg := [.slice none 0 0]) (j := 0) (show 1 ≤ 1 from by decide) (x' := ([] : List Int)) (Kd.M_row (Kd.R_nil _ _ _ _ _)) (fun _ hk => hk) (fun k_ hk_ => hk_.elim); have hx40_0 := hcc40 0 _ rfl; (try simp only [show ((Kd.slice 5 (Kd.int .u8))).sz = 1 from rfl, Nat.mul_one, Nat.add_zero] at hx40_0); have hf40_0 := hfr40 0; (try simp only [show ((Kd.slice 5 (Kd.int .u8))).sz = 1 from rfl, Nat.mul_one, Nat.add_zero] at hf40_0); (try clear hM40); clear hcl40 hcc40 hfr40 hoki40 hH40; (try simp only [show ((Kd.slice 5 (Kd.int .u8))).sz = 1 from rfl, Nat.mul_one, Nat.add_zero] at HP40)) | ((with_reducible refine gate_store (t := 36) (p := 32) rfl ?_); refine store_event (t := 36) (p := 32) (v := ?vo_w41) (w1 := (w38.setCell ⟨go29, (a1 : Int).toNat, none⟩ (.slice none 0 0))) ?hg ?ho ?hn ?hr ?_; (case ho => rfl); (case hg => rfl); (case hn => rfl); (case hr => first | (go_simp; done) | (go_simp; rfl)); intro w41 hw; have hg : w38.grownBy w41 (some go29) := (by rw [hw]; exact HP40.2); have hp_ : Kd.S (Kd.slice 5 (Kd.int .u8)) 36 w41 w.heap.size (fun _ => True) (.slice (some ⟨go29, 0, none⟩) t175.length co37) y179 := (by rw [hw, Ny179.out]; exact HP40.1); clear HP40; have n0_ := ZA (blk_grown (g := gb169) (o := .cells #[.int .i64 a0_0, .slice A0_1 l0_1.length c0_1] 27 (0, 0)) (bup BK169.out) hg (Kd.S_ne HO177.out BK169.out Z25)); have n1_ := ZA (blk_grown (g := gb170) (o := .cells #[.int .i64 0, .slice none 0 0] 27 (0, 0)) (bup BK170.out) hg (Kd.S_ne HO177.out BK170.out Z25)); have n2_ := ZA (hp_); have n3_ := ZA (blk_grown (g := gb178) (o := .cells #[.int .i64 t174, .slice (some ⟨go29, 0, none⟩) t175.length co37] 27 (0, 0)) (bup BK178.out) hg (Kd.S_ne HO177.out BK178.out Z25)); have n4_ := ZA ((by rw [hw]; exact below_set (HB.out) GB29.out : Below w.heap.size w w41)); clear BK169 BK170 HO177 BK178 HB; have BK169 := n0_; have BK170 := n1_; have HO177 := n2_; have BK178 := n3_; have HB := n4_; clear n0_ n1_ n2_ n3_ n4_ hg hw hp_; obtain ⟨hcz42_0, hcz42_1⟩ := blk_cells2 BK178.out; obtain ⟨hfz42_0, hfz42_1⟩ := blk_frozens2 BK178.out))
      go_loopg [] kj3 (fun kq w' => ∃ (x179001_2 : List (List Int)) (u179001 : Value), Aside0 (spec_PageClear.l0 kq a2 x179001_2 = some (r1, r2, r3)) ∧ Aside0 (kq ≤ kj3) ∧ Aside0 (Kd.S (Kd.slice 5 (Kd.int .u8)) 36 w' w.heap.size (fun _ => True) u179001 x179001_2) ∧ Aside0 (w'.heap[gb169]? = some (.cells #[.int .i64 a0_0, (.slice A0_1 l0_1.length c0_1)] 27 (0, 0))) ∧ Aside0 (w'.heap[gb170]? = some (.cells #[.int .i64 0, (.slice none 0 0)] 27 (0, 0))) ∧ Aside0 (w'.heap[gb178]? = some (.cells #[.int .i64 a2, u179001] 27 (0, 0))) ∧ Aside0 (Below w.heap.size w w'))
      case atStart => exact ⟨(y179), (.slice (some ⟨go29, 0, none⟩) t175.length co37), H', ⟨Nat.le_refl _⟩, ⟨by (with_reducible repeat (first | apply Kd.S_alloc | apply Kd.S_drewN | apply Kd.S_drew)); exact Kd.S_mono (Kd.S_far (p := ⟨gb178, 0, none⟩) (Kd.S_types HO177.out BK178.out Z25) (fun _ hk => hk.2) (.int .i64 a2)) (fun _ hk => trivial)⟩, ⟨bput BK169.out⟩, ⟨bput BK170.out⟩, ⟨bput BK178.out⟩, ⟨hset HB.out⟩⟩
      case round =>
       clear H'
       try clear c1
       try clear c2
       try clear p2
       try clear q2
       try clear hx2
       try clear c3
       try clear c4
       try clear hx4
       try clear hf4
       try clear p6
       try clear c8
       try clear c8b0
       try clear c9
       try clear c12
       try clear c13
       try clear c15
       try clear c18
       try clear c19
       try clear c23
       try clear c24
       try clear c27
       try clear c27b0
       try clear c28
       try clear c28b0
       try clear c29
       try clear p29
       try clear q29
       try clear hx29
       try clear hf29
       try clear c30
       try clear c34
       try clear c35
       try clear c40
       try clear hx40
       try clear hf40
       try clear hcz10_0
       try clear hcz10_1
       try clear hcz16_0
       try clear hcz16_1
       try clear hcz18_0
       try clear hcz18_1
       try clear hcz20_0
       try clear hcz20_1
       try clear hcz22_0
       try clear hcz22_1
       try clear hcz25_0
       try clear hcz25_1
       try clear hcz31_0
       try clear hcz31_1
       try clear hcz36_0
       try clear hcz36_1
       try clear hcz39_0
       try clear hcz39_1
       try clear hcz42_0
       try clear hcz42_1
       try clear hfz10_0
       try clear hfz10_1
       try clear hfz16_0
       try clear hfz16_1
       try clear hfz18_0
       try clear hfz18_1
       try clear hfz20_0
       try clear hfz20_1
       try clear hfz22_0
       try clear hfz22_1
       try clear hfz25_0
       try clear hfz25_1
       try clear hfz31_0
       try clear hfz31_1
       try clear hfz36_0
       try clear hfz36_1
       try clear hfz39_0
       try clear hfz39_1
       try clear hfz42_0
       try clear hfz42_1
       try clear hx29_0
       try clear hx40_0
       try clear p2
       try clear p29
       try clear p6
       try clear q29
       obtain ⟨x179001_2, u179001, HA, HK2, HO_179001, BK169, BK170, BK178, HB⟩ := hrel
       cases gk with
       | zero => exact absurd HA.out (by simp [spec_PageClear.l0])
       | succ k2 =>
        have H := HA.out
        clear HA
        simp only [spec_PageClear.l0] at H
        by_cases c43 : (x179001_2.length : Int) > 0
        ·rw [if_pos c43] at H
         have c43b0 : decide (0 < (x179001_2.length : Int)) = true := decide_eq_true c43
         have c43b1 : decide (0 < x179001_2.length) = true := decide_eq_true Z8
         clear c43
         obtain ⟨ji44, hji44⟩ : ∃ j_ : Int, (wrap64 ((x179001_2.length : Int) - 1)) = j_ := ⟨_, rfl⟩
         replace H : (if 0 ≤ (ji44) then (if (ji44) < (x179001_2.length : Int) then (if ((rd_L1 x179001_2 (ji44)).length : Int) = 0 then (if (ji44) ≤ (x179001_2.length : Int) then (spec_PageClear.l0 k2 a2 (x179001_2.take ((ji44) : Int).toNat)) else (none)) else (some (a2, x179001_2, true))) else (none)) else (none)) = some (r1, r2, r3) := by first | (rw [hji44] at H; exact H) | (simp only [hji44] at H ⊢; exact H)
         have hji44w : (IntKind.i64.wrap ((x179001_2.length : Int) - 1)) = ji44 := (i64_w _).trans hji44
         by_cases c45 : 0 ≤ (ji44)
         ·rw [if_pos c45] at H
          have c45b0 : decide (0 ≤ (ji44)) = true := decide_eq_true c45
          clear c45
          by_cases c46 : (ji44) < (x179001_2.length : Int)
          ·rw [if_pos c46] at H
           have c46b0 : decide ((ji44) < (x179001_2.length : Int)) = true := decide_eq_true c46
           clear c46
           by_cases c47 : ((rd_L1 x179001_2 (ji44)).length : Int) = 0
           ·rw [if_pos c47] at H
            have c47b0 : (((rd_L1 x179001_2 (ji44)).length : Int) == 0) = true := beq_iff_eq.mpr c47
            have c47b1 : (((rd_L1 x179001_2 (ji44)).length : Int) != 0) = false := bne_eq_false_iff_eq.mpr c47
            clear c47
            by_cases c48 : (ji44) ≤ (x179001_2.length : Int)
            ·rw [if_pos c48] at H
             have c48b0 := eq_true c48
             have c48b1 : decide ((ji44) ≤ (x179001_2.length : Int)) = true := decide_eq_true c48
             clear c48
             obtain ⟨y181, hy181⟩ : ∃ y_ : List (List Int), y_ = (x179001_2.take ((ji44) : Int).toNat) := ⟨_, rfl⟩
             replace H : (spec_PageClear.l0 k2 a2 y181) = some (r1, r2, r3) := by first | (rw [hy181]; with_reducible exact H) | (have H2_ := (Option.bind_some _ _).symm.trans H; rw [hy181]; with_reducible exact H2_) | (have H2_ := (Option.bind_some _ _).symm.trans H; with_reducible exact H2_) | with_reducible exact H | (rw [hy181]; exact H) | exact H
             have Ny181 := ZA hy181
             clear hy181
             have H' := ZA H
             clear H
             have hnb49 := NB178_169.out
             have hnc49 := NB169_178.out
             have hnb50 := NB178_170.out
             have hnc50 := NB170_178.out
             obtain ⟨hcz51_0, hcz51_1⟩ := blk_cells2 BK178.out
             obtain ⟨hfz51_0, hfz51_1⟩ := blk_frozens2 BK178.out
             obtain ⟨Ao52, co52, eo52⟩ := Kd.S_slice HO_179001.out
             subst eo52
             have p180 : 0 ≤ ((ji44) : Int) := of_decide_eq_true Z10
             have q180 : (ji44) < (x179001_2.length : Int) := of_decide_eq_true Z10
             obtain ⟨ad180, A180_0, c180_0, e180, hx180_0, hl180_0, hi180_0⟩ := at_L1 (Kd.S_reads' HO_179001.out).2.2 (ji44) p180 q180
             cases e180
             obtain ⟨ce180, hce180, hMe180, hcc180⟩ := Kd.S_get HO_179001.out [] (ji44) p180 (by first | exact q180 | exact of_decide_eq_true Z10 | (have e_ := (Kd.S_reads' HO_179001.out).1; omega))
             obtain ⟨ve180_0, rfl, ge180_0⟩ := hMe180
             have hv180_0 := hcc180 0 _ rfl
             rw [Nat.add_zero, show ((Kd.slice 5 (Kd.int .u8))).sz = 1 from rfl, Nat.mul_one] at hv180_0
             replace hv180_0 := Option.some.inj (hv180_0.symm.trans hx180_0)
             rw [hv180_0] at ge180_0
             have HL180_0 := ZA (show Kd.R (Kd.int .u8) 5 _ _ _ _ (rd_L1 x179001_2 (ji44)) from ge180_0)
             clear hv180_0 ge180_0
             clear hcc180 hce180
             have HR180_0 := ZA hi180_0
             have HC180_0 := ZA hl180_0
             clear hi180_0 hl180_0
             replace p180 := eq_true p180
             replace q180 := eq_true q180
             have q53 : ((ji44) : Int) ≤ ((x179001_2.length : Int) : Int) := of_decide_eq_true Z10
             obtain ⟨i053, hi053, _, hsz53, _⟩ := info_parts info36
             have hcut53 := cut_to (P := Try.prog) 22 36 .i64 Try.underlying22 hi053 (some ad180) x179001_2.length co52 (ji44) (of_decide_eq_true Z10) q53 (Kd.S_reads' HO_179001.out).2.1
             have hr53 := Kd.S_take (m := ((ji44) : Int).toNat) HO_179001.out Z8
             have hy53 : y181.length = ((ji44) : Int).toNat := (by rw [Ny181.out, List.length_take]; omega)
             rw [← Ny181.out] at hr53
             rw [← hy53] at hr53 hcut53
             clear hy53 hi053 hsz53 HO_179001
             have HO183 := ZA hr53
             clear hr53
             replace q53 := eq_true q53
             go_wp2
             go_roundg k2
             case measure => have := HJ3.out; have := HK2.out; omega
             case rel => exact ⟨(y181), (.slice (some ad180) y181.length co52), H', ⟨by have := HJ3.out; have := HK2.out; omega⟩, ⟨by (with_reducible repeat (first | apply Kd.S_alloc | apply Kd.S_drewN | apply Kd.S_drew)); exact Kd.S_mono (Kd.S_far (p := ⟨gb178, 1, none⟩) (Kd.S_types HO183.out BK178.out Z25) (fun _ hk => hk.2) (.slice (some ad180) y181.length co52)) (fun _ hk => trivial)⟩, ⟨bput BK169.out⟩, ⟨bput BK170.out⟩, ⟨bput BK178.out⟩, ⟨hset HB.out⟩⟩
            ·rw [if_neg c48] at H
             exact absurd H Z44
           ·rw [if_neg c47] at H
            have c47b0 : (((rd_L1 x179001_2 (ji44)).length : Int) == 0) = false := beq_eq_false_iff_ne.mpr c47
            have c47b1 : (((rd_L1 x179001_2 (ji44)).length : Int) != 0) = true := bne_iff_ne.mpr c47
            have c47b2 : ¬ ((rd_L1 x179001_2 (ji44)) = []) := fun h_ => c47 (by rw [h_]; rfl)
            simp only [Option.some.injEq, Prod.mk.injEq] at H
            obtain ⟨rfl, rfl, rfl⟩ := H
            have hnb54 := NB178_169.out
            have hnc54 := NB169_178.out
            have hnb55 := NB178_170.out
            have hnc55 := NB170_178.out
            obtain ⟨hcz56_0, hcz56_1⟩ := blk_cells2 BK178.out
            obtain ⟨hfz56_0, hfz56_1⟩ := blk_frozens2 BK178.out
            obtain ⟨Ao57, co57, eo57⟩ := Kd.S_slice HO_179001.out
            subst eo57
            have p180 : 0 ≤ ((ji44) : Int) := of_decide_eq_true Z10
            have q180 : (ji44) < (x179001_2.length : Int) := of_decide_eq_true Z10
            obtain ⟨ad180, A180_0, c180_0, e180, hx180_0, hl180_0, hi180_0⟩ := at_L1 (Kd.S_reads' HO_179001.out).2.2 (ji44) p180 q180
            cases e180
            obtain ⟨ce180, hce180, hMe180, hcc180⟩ := Kd.S_get HO_179001.out [] (ji44) p180 (by first | exact q180 | exact of_decide_eq_true Z10 | (have e_ := (Kd.S_reads' HO_179001.out).1; omega))
            obtain ⟨ve180_0, rfl, ge180_0⟩ := hMe180
            have hv180_0 := hcc180 0 _ rfl
            rw [Nat.add_zero, show ((Kd.slice 5 (Kd.int .u8))).sz = 1 from rfl, Nat.mul_one] at hv180_0
            replace hv180_0 := Option.some.inj (hv180_0.symm.trans hx180_0)
            rw [hv180_0] at ge180_0
            have HL180_0 := ZA (show Kd.R (Kd.int .u8) 5 _ _ _ _ (rd_L1 x179001_2 (ji44)) from ge180_0)
            clear hv180_0 ge180_0
            clear hcc180 hce180
            have HR180_0 := ZA hi180_0
            have HC180_0 := ZA hl180_0
            clear hi180_0 hl180_0
            replace p180 := eq_true p180
            replace q180 := eq_true q180
            have hnb58 := NB170_169.out
            have hnc58 := NB169_170.out
            obtain ⟨hcz59_0, hcz59_1⟩ := blk_cells2 BK170.out
            obtain ⟨hfz59_0, hfz59_1⟩ := blk_frozens2 BK170.out
            go_wp2
            refine bodyPost_ret (results_ct rfl _ _ gb170 27 #[.int .i64 a2, .slice (some ad180) x179001_2.length co57] (0, 0) _ rfl (bput BK170.out) Try.underlying27 rfl Z12) rfl ?_
            exact ⟨_, by first | rfl | (simp [errW_none, errW_some] <;> rfl) | (simp only [← hji44]; first | rfl | (simp [errW_none, errW_some] <;> rfl)) | (simp [*, errW_none, errW_some] <;> rfl), by (with_reducible repeat (first | apply Kd.S_alloc | apply Kd.S_drewN | apply Kd.S_drew)); exact Kd.S_mono (Kd.S_far (p := ⟨gb170, 1, none⟩) (Kd.S_far (p := ⟨gb170, 0, none⟩) (Kd.S_types HO_179001.out BK170.out Z25) (fun _ hk => hk.2) (.int .i64 a2)) (fun _ hk => hk.2) (.slice (some ad180) x179001_2.length co57)) (fun _ hk => trivial), hset HB.out⟩
          ·rw [if_neg c46] at H
           exact absurd H Z44
         ·rw [if_neg c45] at H
          exact absurd H Z44
        ·rw [if_neg c43] at H
         have c43b0 : decide (0 < (x179001_2.length : Int)) = false := decide_eq_false c43
         have c43b1 : decide (0 < x179001_2.length) = false := decide_eq_false Z8
         clear c43
         simp only [Option.some.injEq, Prod.mk.injEq] at H
         obtain ⟨rfl, rfl, rfl⟩ := H
         have hnb60 := NB178_169.out
         have hnc60 := NB169_178.out
         have hnb61 := NB178_170.out
         have hnc61 := NB170_178.out
         obtain ⟨hcz62_0, hcz62_1⟩ := blk_cells2 BK178.out
         obtain ⟨hfz62_0, hfz62_1⟩ := blk_frozens2 BK178.out
         obtain ⟨Ao63, co63, eo63⟩ := Kd.S_slice HO_179001.out
         subst eo63
         have hnb64 := NB170_169.out
         have hnc64 := NB169_170.out
         obtain ⟨hcz65_0, hcz65_1⟩ := blk_cells2 BK170.out
         obtain ⟨hfz65_0, hfz65_1⟩ := blk_frozens2 BK170.out
         go_wp2
         refine bodyPost_ret (results_ct rfl _ _ gb170 27 #[.int .i64 a2, .slice Ao63 x179001_2.length co63] (0, 0) _ rfl (bput BK170.out) Try.underlying27 rfl Z12) rfl ?_
         exact ⟨_, by first | rfl | (simp [errW_none, errW_some] <;> rfl) | (simp [*, errW_none, errW_some] <;> rfl), by (with_reducible repeat (first | apply Kd.S_alloc | apply Kd.S_drewN | apply Kd.S_drew)); exact Kd.S_mono (Kd.S_far (p := ⟨gb170, 1, none⟩) (Kd.S_far (p := ⟨gb170, 0, none⟩) (Kd.S_types HO_179001.out BK170.out Z25) (fun _ hk => hk.2) (.int .i64 a2)) (fun _ hk => hk.2) (.slice Ao63 x179001_2.length co63)) (fun _ hk => trivial), hset HB.out⟩
     ·rw [if_neg c28] at H
      exact absurd H Z44
    ·rw [if_neg c27] at H
     exact absurd H Z44
end Go.Proofs.Ytokpniagnbaflaa.PFnPlaces
