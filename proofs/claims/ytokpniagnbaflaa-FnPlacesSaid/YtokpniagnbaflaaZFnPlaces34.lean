import Derived.Test.YtokpniagnbaflaaZFnPlaces29
import Derived.Test.YtokpniagnbaflaaZFnPlacesA
import Derived.Test.YtokpniagnbaflaaZFnPlaces30
import Derived.Test.YtokpniagnbaflaaZFnPlaces32
import Derived.Test.YtokpniagnbaflaaZFnPlaces33
namespace Go.Proofs.Ytokpniagnbaflaa.PFnPlaces
open Go.RowKit Go.Proofs.YtokpniagnbaflaaW.PrintWords Go.Proofs.YtokpniagnbaflaaW.PrintLast Go.Proofs.YtokpniagnbaflaaW.PrintMore
attribute [local go_sem] max2_int min2_int max_two min_two max_three min_three max_four min_four   -- for this text's walks alone
attribute [local go_sem high] fl_eql fl_neq fl_lss fl_leq fl_gtr fl_geq fl_add fl_sub fl_mul fl_quo fl_neg fl_ofInt fl_toInt fl_store sub_sign fl_nan_quo fl_nan_add fl_nan_mul fl_nan_sub
open Go.Proofs.YtokpniagnbaflaaW.PrintWords renaming below_alloc → h1, pw_below_drewN → h2, below_drew1 → h3, below_set → h4, blk_drewN → b1, blk_drew → b2, blk_alloc → b3
set_option linter.unusedVariables false
set_option linter.unusedSimpArgs false
mutual
def spec_PagePut.j0 : Nat → Int → List Int → Int → Bool → Int → List (List Int) → Option (Int × (List (List Int)) × Bool)
 | 0, _, _, _, _, _, _ => none
 | k + 1, x1, x2, x3, x33, x185000, x185001 => if x33 = true then (some (0, ([] : List (List Int)), false)) else ((spec_l7copy.f k x185000 x185001).bind fun bt189 => (spec_PagePut.l0 k x1 x2 x3 bt189.1 bt189.2))
def spec_PagePut.l0 : Nat → Int → List Int → Int → Int → List (List Int) → Option (Int × (List (List Int)) × Bool)
 | 0, _, _, _, _, _ => none
 | k + 1, x1, x2, x3, x194000, x194001 => if (x194001.length : Int) ≤ x1 then (if x194001.length < 5864062014805 then (spec_PagePut.l0 k x1 x2 x3 x194000 (x194001 ++ [[]])) else (none)) else ((some (([] : List Int) : List Int)).bind fun y197 => (if y197.length + x2.length < 140737488355328 then (if 0 ≤ x1 then (if x1 < (x194001.length : Int) then ((some (x194001.set (x1 : Int).toNat (y197 ++ x2) : List (List Int))).bind fun y203 => ((spec_PageUsed.f k x3 y203).bind fun t204 => (if t204 < 0 then (some (0, ([] : List (List Int)), false)) else (some (x3, y203, true))))) else (none)) else (none)) else (none)))
end
def spec_PagePut.f (k : Nat) (a0_0 : Int) (l0_1 : List (List Int)) (a1 : Int) (l2 : List Int) (a3 : Int) : Option (Int × (List (List Int)) × Bool) := (spec_PageUsed.f k a0_0 l0_1).bind fun t186 => (if t186 < 0 then (spec_PagePut.j0 k a1 l2 a3 true a0_0 l0_1) else ((spec_l5in.f a1 0 15).bind fun t187 => (if t187 = true then (if (l2.length : Int) = 0 then (spec_PagePut.j0 k a1 l2 a3 true a0_0 l0_1) else (if (l2.length : Int) > 92 then (spec_PagePut.j0 k a1 l2 a3 true a0_0 l0_1) else ((spec_l5in.f a3 1 1000000).bind fun t188 => (spec_PagePut.j0 k a1 l2 a3 (!t188) a0_0 l0_1)))) else (spec_PagePut.j0 k a1 l2 a3 true a0_0 l0_1))))
theorem spec_PagePut.mono_l : ∀ k, (∀ y0 y1 y2 y3 y4 y5, LeO (spec_PagePut.j0 k y0 y1 y2 y3 y4 y5) (spec_PagePut.j0 (k + 1) y0 y1 y2 y3 y4 y5)) ∧ (∀ y0 y1 y2 y3 y4, LeO (spec_PagePut.l0 k y0 y1 y2 y3 y4) (spec_PagePut.l0 (k + 1) y0 y1 y2 y3 y4))
 | 0 => ⟨fun _ _ _ _ _ _ r h => by simp [spec_PagePut.j0] at h, fun _ _ _ _ _ r h => by simp [spec_PagePut.l0] at h⟩
 | k + 1 => by
  obtain ⟨ih0, ih1⟩ := spec_PagePut.mono_l k
  refine ⟨?_, ?_⟩
  ·intro y0 y1 y2 y3 y4 y5
   unfold spec_PagePut.j0
   repeat' with_reducible first | exact ih0 _ _ _ _ _ _ | exact ih1 _ _ _ _ _ | exact spec_PageUsed.mono _ _ _ | exact spec_l7copy.mono _ _ _ | exact LeO.refl _ | exact LeO.none _ | refine LeO.ite ?_ ?_ | refine LeO.bind ?_ (fun _ => ?_)
  ·intro y0 y1 y2 y3 y4
   unfold spec_PagePut.l0
   repeat' with_reducible first | exact ih0 _ _ _ _ _ _ | exact ih1 _ _ _ _ _ | exact spec_PageUsed.mono _ _ _ | exact spec_l7copy.mono _ _ _ | exact LeO.refl _ | exact LeO.none _ | refine LeO.ite ?_ ?_ | refine LeO.bind ?_ (fun _ => ?_)
theorem spec_PagePut.mono : ∀ a0 a1 a2 a3 a4 k, LeO (spec_PagePut.f k a0 a1 a2 a3 a4) (spec_PagePut.f (k + 1) a0 a1 a2 a3 a4) := by
 intro a0 a1 a2 a3 a4 k
 obtain ⟨ih0, ih1⟩ := spec_PagePut.mono_l k
 unfold spec_PagePut.f
 repeat' with_reducible first | exact ih0 _ _ _ _ _ _ | exact ih1 _ _ _ _ _ | exact spec_PageUsed.mono _ _ _ | exact spec_l7copy.mono _ _ _ | exact LeO.refl _ | exact LeO.none _ | refine LeO.ite ?_ ?_ | refine LeO.bind ?_ (fun _ => ?_)
def spec_PagePut.T6 : Bool × List (List Nat × List Nat) := (true, [([], []), ([0], [0]), ([], []), ([], []), ([], []), ([3, 4], [3, 4]), ([1, 2, 0, 1, 2, 3, 4, 5], [1, 2]), ([6, 5, 5, 0, 1, 2, 3, 4, 5], [5, 6])])
def spec_PagePut.B6 : List Nat := [0, 1, 0, 0, 0, 24, 63, 127]
theorem spec_PagePut.tab6 : rtab .any (opsOf Try.f22 6) = spec_PagePut.T6 := by kernel_rfl
theorem spec_PagePut.bits6 : waitsOk spec_PagePut.T6.2 spec_PagePut.B6 = true := by kernel_rfl
set_option maxHeartbeats 8000000 in
set_option maxRecDepth 100000 in
theorem spec_PagePut.calls (k : Nat) (a0_0 : Int) (A0_1 : Option Addr) (c0_1 : Nat) (l0_1 : List (List Int)) (a1 : Int) (A2 : Option Addr) (c2 : Nat) (l2 : List Int) (a3 : Int) (r1 : Int) (r2 : List (List Int)) (r3 : Bool) (w : World) (hr0_1 : Kd.C (Kd.slice 5 (Kd.int .u8)) w A0_1 l0_1.length l0_1) (hc0_1 : l0_1.length ≤ c0_1) (hr2 : Kd.C (Kd.int .u8) w A2 l2.length l2) (hc2 : l2.length ≤ c2) (h : spec_PagePut.f k a0_0 l0_1 a1 l2 a3 = some (r1, r2, r3)) :
  Calls Try.prog 22 #[.agg #[.int .i64 a0_0, .slice A0_1 l0_1.length c0_1], .int .i64 a1, .slice A2 l2.length c2, .int .i64 a3] w fun e w' => ∃ v1_ : Value, e = .returned (.tuple #[.agg #[.int .i64 r1, v1_], .bool r3]) ∧ Kd.N (Kd.slice 5 (Kd.int .u8)) 36 w' w.heap.size (fun k_ => (w.heap.size ≤ k_)) v1_ r2 ∧ Below w.heap.size w w' := by
 have hu27 := Try.underlying27
 have HR0_1 := ZA hr0_1
 have HC0_1 := ZA hc0_1
 clear hr0_1 hc0_1
 have HR2 := ZA hr2
 have HC2 := ZA hc2
 clear hr2 hc2
 have HB := ZA (Below.refl w.heap.size w)
 have H := h
 clear h
 unfold spec_PagePut.f at H
 have HC5 := ZA H
 clear H
 go_enter Try.func22, Try.ntmps22
 go_upto_region 1 with (first | ((with_reducible refine gate_dst (N := 4) rfl ?_); (try (refine gate_guard Z94 ?_; dsimp only)); refine box_event ?hg (N := 4) ?hd (cs := #[.int .i64 a0_0, .slice A0_1 l0_1.length c0_1]) (t := 27) ?hr ?_; (case hd => rfl); (case hg => rfl); (case hr => first | (go_simp; done) | (go_simp; rfl)); intro gb184 hg w6 hbox hb; have n0_ := ZA (below_step (hup HB.out) hb); have n1_ := ZA (hbox); have n2_ := Geq.mk ((Z28 : w.heap.size ≤ gb184)); have n3_ := Geq.mk ((Z28 : w.heap.size ≤ gb184)); clear HB; have HB := n0_; have BK184 := n1_; have GW184 := n2_; have GE184 := n3_; clear n0_ n1_ n2_ n3_ hb hbox hg) | ((with_reducible refine gate_dst (N := 8) rfl ?_); (try (refine gate_guard Z94 ?_; dsimp only)); refine box_event ?hg (N := 8) ?hd (cs := #[.int .i64 0, .slice none 0 0]) (t := 27) ?hr ?_; (case hd => rfl); (case hg => rfl); (case hr => first | (go_simp; done) | (go_simp; rfl)); intro gb185 hg w7 hbox hb; have n0_ := ZA (blk_below (bup BK184.out) hb); have n1_ := ZA (below_step (hset HB.out) hb); have n2_ := ZA (hbox); have n3_ := Geq.mk ((Z34 : w.heap.size ≤ gb185)); have n4_ := Geq.mk ((Z34 : w.heap.size ≤ gb185)); have n5_ := Neq.mk ((by rw [hg]; exact Nat.ne_of_lt (blk_lt (g := gb184) (o := .cells #[.int .i64 a0_0, .slice A0_1 l0_1.length c0_1] 27 (0, 0)) (bup BK184.out)) : gb184 ≠ gb185)); have n6_ := Neq.mk ((by rw [hg]; exact Nat.ne_of_gt (blk_lt (g := gb184) (o := .cells #[.int .i64 a0_0, .slice A0_1 l0_1.length c0_1] 27 (0, 0)) (bup BK184.out)) : gb185 ≠ gb184)); clear BK184 HB; have BK184 := n0_; have HB := n1_; have BK185 := n2_; have GW185 := n3_; have GE185 := n4_; have NB184_185 := n5_; have NB185_184 := n6_; clear n0_ n1_ n2_ n3_ n4_ n5_ n6_ hb hbox hg))
 (try simp only [Act.put, List.setIfInBounds_toArray, List.set_cons_zero, List.set_cons_succ])
 go_cut [33] (fun v33 wc => ∃ (kq : Nat) (x33_4 : Bool), v33 = .bool x33_4 ∧ Aside0 (spec_PagePut.j0 kq a1 l2 a3 x33_4 a0_0 l0_1 = some (r1, r2, r3)) ∧ Aside0 (kq ≤ k) ∧ Aside0 (wc.heap[gb184]? = some (.cells #[.int .i64 a0_0, (.slice A0_1 l0_1.length c0_1)] 27 (0, 0))) ∧ Aside0 (wc.heap[gb185]? = some (.cells #[.int .i64 0, (.slice none 0 0)] 27 (0, 0))) ∧ Aside0 (Below w.heap.size w wc))
 case first =>
  have H := HC5.out
  clear HC5
  replace H := Option.bind_eq_some_iff.mp H
  obtain ⟨t186, A80, H⟩ := H
  (try dsimp only at H)
  have A8 := ZA A80
  clear A80
  by_cases c9 : t186 < 0
  ·rw [if_pos c9] at H
   have c9b0 : decide (t186 < 0) = true := decide_eq_true c9
   clear c9
   (first | rw [c9b0] | (simp only [i64_w, i32_w]; rw [c9b0]) | skip)
   have H' := ZA H
   clear H
   have hnb10 := NB184_185.out
   have hnc10 := NB185_184.out
   obtain ⟨hcz11_0, hcz11_1⟩ := blk_cells2 BK184.out
   obtain ⟨hfz11_0, hfz11_1⟩ := blk_frozens2 BK184.out
   go_wp2_with (first | ((with_reducible refine gate_callee (f := 12) rfl ?_); refine goesL_ (some 12) rfl rfl Try.func12 Z12 rfl #[.agg #[.int .i64 a0_0, .slice A0_1 l0_1.length c0_1]] rfl Z1 ?_; (with_reducible refine (spec_PageUsed.calls k a0_0 _ _ l0_1 t186 _ ?side1 ?side2 A8.out).mono ?_); (case side1 => repeat (first | exact (Kd.C_below HR0_1.out HB.out) | (with_reducible refine Kd.C_alloc ?_ _) | (with_reducible refine Kd.C_drewN ?_ _) | (with_reducible refine Kd.C_drew ?_))); (case side2 => exact HC0_1.out); rintro e w12 ⟨rfl, hb⟩; refine ⟨_, rfl, ?_⟩; have n0_ := ZA (blk_below (bup BK184.out) hb); have n1_ := ZA (blk_below (bup BK185.out) hb); have n2_ := ZA (below_step (hset HB.out) hb); clear BK184 BK185 HB; have BK184 := n0_; have BK185 := n1_; have HB := n2_; clear n0_ n1_ n2_; (try clear hb); (try clear hb2); (try clear hk); (try clear hi)))
   go_meet
   case rel => exact ⟨_, (true), Z7, H', ⟨by first | omega | exact Nat.le_refl _⟩, ⟨by exact bup BK184.out⟩, ⟨by exact bup BK185.out⟩, ⟨hset HB.out⟩⟩
  ·rw [if_neg c9] at H
   have c9b0 : decide (t186 < 0) = false := decide_eq_false c9
   clear c9
   (first | rw [c9b0] | (simp only [i64_w, i32_w]; rw [c9b0]) | skip)
   replace H := Option.bind_eq_some_iff.mp H
   obtain ⟨t187, A130, H⟩ := H
   (try dsimp only at H)
   have A13 := ZA A130
   clear A130
   by_cases c14 : t187 = true
   ·subst c14
    rw [if_pos rfl] at H
    (try dsimp only at H)
    by_cases c15 : (l2.length : Int) = 0
    ·rw [if_pos c15] at H
     have c15b0 : ((l2.length : Int) == 0) = true := beq_iff_eq.mpr c15
     have c15b1 : ((l2.length : Int) != 0) = false := bne_eq_false_iff_eq.mpr c15
     clear c15
     have H' := ZA H
     clear H
     have hnb16 := NB184_185.out
     have hnc16 := NB185_184.out
     obtain ⟨hcz17_0, hcz17_1⟩ := blk_cells2 BK184.out
     obtain ⟨hfz17_0, hfz17_1⟩ := blk_frozens2 BK184.out
     go_wp2_with (first | ((with_reducible refine gate_callee (f := 12) rfl ?_); refine goesL_ (some 12) rfl rfl Try.func12 Z12 rfl #[.agg #[.int .i64 a0_0, .slice A0_1 l0_1.length c0_1]] rfl Z1 ?_; (with_reducible refine (spec_PageUsed.calls k a0_0 _ _ l0_1 t186 _ ?side1 ?side2 A8.out).mono ?_); (case side1 => repeat (first | exact (Kd.C_below HR0_1.out HB.out) | (with_reducible refine Kd.C_alloc ?_ _) | (with_reducible refine Kd.C_drewN ?_ _) | (with_reducible refine Kd.C_drew ?_))); (case side2 => exact HC0_1.out); rintro e w18 ⟨rfl, hb⟩; refine ⟨_, rfl, ?_⟩; have n0_ := ZA (blk_below (bup BK184.out) hb); have n1_ := ZA (blk_below (bup BK185.out) hb); have n2_ := ZA (below_step (hset HB.out) hb); clear BK184 BK185 HB; have BK184 := n0_; have BK185 := n1_; have HB := n2_; clear n0_ n1_ n2_; (try clear hb); (try clear hb2); (try clear hk); (try clear hi)) | (go_at_call 37; (with_reducible refine (spec_l5in.calls a1 0 15 true _ A13.out).mono ?_); rintro e w' ⟨rfl, ⟨nd, rfl⟩⟩))
     go_meet
     case rel => exact ⟨_, (true), Z7, H', ⟨by first | omega | exact Nat.le_refl _⟩, ⟨by exact bup BK184.out⟩, ⟨by exact bup BK185.out⟩, ⟨hset HB.out⟩⟩
    ·rw [if_neg c15] at H
     have c15b0 : ((l2.length : Int) == 0) = false := beq_eq_false_iff_ne.mpr c15
     have c15b1 : ((l2.length : Int) != 0) = true := bne_iff_ne.mpr c15
     have c15b2 : ¬ (l2 = []) := fun h_ => c15 (by rw [h_]; rfl)
     by_cases c19 : (l2.length : Int) > 92
     ·rw [if_pos c19] at H
      have c19b0 : decide (92 < (l2.length : Int)) = true := decide_eq_true c19
      have c19b1 : decide (92 < l2.length) = true := decide_eq_true Z8
      clear c19
      have H' := ZA H
      clear H
      have hnb20 := NB184_185.out
      have hnc20 := NB185_184.out
      obtain ⟨hcz21_0, hcz21_1⟩ := blk_cells2 BK184.out
      obtain ⟨hfz21_0, hfz21_1⟩ := blk_frozens2 BK184.out
      go_wp2_with (first | ((with_reducible refine gate_callee (f := 12) rfl ?_); refine goesL_ (some 12) rfl rfl Try.func12 Z12 rfl #[.agg #[.int .i64 a0_0, .slice A0_1 l0_1.length c0_1]] rfl Z1 ?_; (with_reducible refine (spec_PageUsed.calls k a0_0 _ _ l0_1 t186 _ ?side1 ?side2 A8.out).mono ?_); (case side1 => repeat (first | exact (Kd.C_below HR0_1.out HB.out) | (with_reducible refine Kd.C_alloc ?_ _) | (with_reducible refine Kd.C_drewN ?_ _) | (with_reducible refine Kd.C_drew ?_))); (case side2 => exact HC0_1.out); rintro e w22 ⟨rfl, hb⟩; refine ⟨_, rfl, ?_⟩; have n0_ := ZA (blk_below (bup BK184.out) hb); have n1_ := ZA (blk_below (bup BK185.out) hb); have n2_ := ZA (below_step (hset HB.out) hb); clear BK184 BK185 HB; have BK184 := n0_; have BK185 := n1_; have HB := n2_; clear n0_ n1_ n2_; (try clear hb); (try clear hb2); (try clear hk); (try clear hi)) | (go_at_call 37; (with_reducible refine (spec_l5in.calls a1 0 15 true _ A13.out).mono ?_); rintro e w' ⟨rfl, ⟨nd, rfl⟩⟩))
      go_meet
      case rel => exact ⟨_, (true), Z7, H', ⟨by first | omega | exact Nat.le_refl _⟩, ⟨by exact bup BK184.out⟩, ⟨by exact bup BK185.out⟩, ⟨hset HB.out⟩⟩
     ·rw [if_neg c19] at H
      have c19b0 : decide (92 < (l2.length : Int)) = false := decide_eq_false c19
      have c19b1 : decide (92 < l2.length) = false := decide_eq_false Z8
      clear c19
      replace H := Option.bind_eq_some_iff.mp H
      obtain ⟨t188, A230, H⟩ := H
      (try dsimp only at H)
      have A23 := ZA A230
      clear A230
      have H' := ZA H
      clear H
      have hnb24 := NB184_185.out
      have hnc24 := NB185_184.out
      obtain ⟨hcz25_0, hcz25_1⟩ := blk_cells2 BK184.out
      obtain ⟨hfz25_0, hfz25_1⟩ := blk_frozens2 BK184.out
      go_wp2_with (first | ((with_reducible refine gate_callee (f := 12) rfl ?_); refine goesL_ (some 12) rfl rfl Try.func12 Z12 rfl #[.agg #[.int .i64 a0_0, .slice A0_1 l0_1.length c0_1]] rfl Z1 ?_; (with_reducible refine (spec_PageUsed.calls k a0_0 _ _ l0_1 t186 _ ?side1 ?side2 A8.out).mono ?_); (case side1 => repeat (first | exact (Kd.C_below HR0_1.out HB.out) | (with_reducible refine Kd.C_alloc ?_ _) | (with_reducible refine Kd.C_drewN ?_ _) | (with_reducible refine Kd.C_drew ?_))); (case side2 => exact HC0_1.out); rintro e w26 ⟨rfl, hb⟩; refine ⟨_, rfl, ?_⟩; have n0_ := ZA (blk_below (bup BK184.out) hb); have n1_ := ZA (blk_below (bup BK185.out) hb); have n2_ := ZA (below_step (hset HB.out) hb); clear BK184 BK185 HB; have BK184 := n0_; have BK185 := n1_; have HB := n2_; clear n0_ n1_ n2_; (try clear hb); (try clear hb2); (try clear hk); (try clear hi)) | (go_at_call 37; (with_reducible refine (spec_l5in.calls a1 0 15 true _ A13.out).mono ?_); rintro e w' ⟨rfl, ⟨nd, rfl⟩⟩) | (go_at_call 37; (with_reducible refine (spec_l5in.calls a3 1 1000000 t188 _ A23.out).mono ?_); rintro e w' ⟨rfl, ⟨nd, rfl⟩⟩))
      go_meet
      case rel => exact ⟨_, (!t188), Z7, H', ⟨by first | omega | exact Nat.le_refl _⟩, ⟨by exact bup BK184.out⟩, ⟨by exact bup BK185.out⟩, ⟨hset HB.out⟩⟩
   ·replace c14 := Bool.eq_false_iff.mpr c14
    subst c14
    rw [if_neg (show ¬ (false = true) by decide)] at H
    (try dsimp only at H)
    have H' := ZA H
    clear H
    have hnb27 := NB184_185.out
    have hnc27 := NB185_184.out
    obtain ⟨hcz28_0, hcz28_1⟩ := blk_cells2 BK184.out
    obtain ⟨hfz28_0, hfz28_1⟩ := blk_frozens2 BK184.out
    go_wp2_with (first | ((with_reducible refine gate_callee (f := 12) rfl ?_); refine goesL_ (some 12) rfl rfl Try.func12 Z12 rfl #[.agg #[.int .i64 a0_0, .slice A0_1 l0_1.length c0_1]] rfl Z1 ?_; (with_reducible refine (spec_PageUsed.calls k a0_0 _ _ l0_1 t186 _ ?side1 ?side2 A8.out).mono ?_); (case side1 => repeat (first | exact (Kd.C_below HR0_1.out HB.out) | (with_reducible refine Kd.C_alloc ?_ _) | (with_reducible refine Kd.C_drewN ?_ _) | (with_reducible refine Kd.C_drew ?_))); (case side2 => exact HC0_1.out); rintro e w29 ⟨rfl, hb⟩; refine ⟨_, rfl, ?_⟩; have n0_ := ZA (blk_below (bup BK184.out) hb); have n1_ := ZA (blk_below (bup BK185.out) hb); have n2_ := ZA (below_step (hset HB.out) hb); clear BK184 BK185 HB; have BK184 := n0_; have BK185 := n1_; have HB := n2_; clear n0_ n1_ n2_; (try clear hb); (try clear hb2); (try clear hk); (try clear hi)) | (go_at_call 37; (with_reducible refine (spec_l5in.calls a1 0 15 false _ A13.out).mono ?_); rintro e w' ⟨rfl, ⟨nd, rfl⟩⟩))
    go_meet
    case rel => exact ⟨_, (true), Z7, H', ⟨by first | omega | exact Nat.le_refl _⟩, ⟨by exact bup BK184.out⟩, ⟨by exact bup BK185.out⟩, ⟨hset HB.out⟩⟩
 case rest =>
  clear HC5
  try clear c1
  try clear c2
  try clear p2
  try clear c9
  try clear c9b0
  try clear c10
  try clear c12
  try clear c14
  try clear c15
  try clear c15b0
  try clear c15b1
  try clear c15b2
  try clear c16
  try clear c19
  try clear c19b0
  try clear c19b1
  try clear c20
  try clear c22
  try clear c24
  try clear c27
  try clear hcz11_0
  try clear hcz11_1
  try clear hcz17_0
  try clear hcz17_1
  try clear hcz21_0
  try clear hcz21_1
  try clear hcz25_0
  try clear hcz25_1
  try clear hcz28_0
  try clear hcz28_1
  try clear hfz11_0
  try clear hfz11_1
  try clear hfz17_0
  try clear hfz17_1
  try clear hfz21_0
  try clear hfz21_1
  try clear hfz25_0
  try clear hfz25_1
  try clear hfz28_0
  try clear hfz28_1
  obtain ⟨kq, x33_4, rfl, HA, HJ4, BK184, BK185, HB⟩ := hcut
  cases kq with
  | zero => exact absurd HA.out (by simp [spec_PagePut.j0])
  | succ kj4 =>
   have H := HA.out
   clear HA
   simp only [spec_PagePut.j0] at H
   by_cases c30 : x33_4 = true
   ·subst c30
    rw [if_pos rfl] at H
    (try dsimp only at H)
    simp only [Option.some.injEq, Prod.mk.injEq] at H
    obtain ⟨rfl, rfl, rfl⟩ := H
    have hnb31 := NB185_184.out
    have hnc31 := NB184_185.out
    obtain ⟨hcz32_0, hcz32_1⟩ := blk_cells2 BK185.out
    obtain ⟨hfz32_0, hfz32_1⟩ := blk_frozens2 BK185.out
    go_wp2
    refine bodyPost_ret (results_ct rfl _ _ gb185 27 #[.int .i64 0, .slice none 0 0] (0, 0) _ rfl (bput BK185.out) Try.underlying27 rfl Z12) rfl ?_
    exact ⟨_, by first | rfl | (simp [errW_none, errW_some] <;> rfl) | (simp [*, errW_none, errW_some] <;> rfl), by first | exact Kd.S_nil _ _ _ _ _ | exact Kd.N_nil _ _ _ _ _ | exact Kd.V_nil _ _ _ _ _ | exact Kd.Q_nil _ _ _ _ _ | exact Kd.R_nil _ _ _ _ _, hset HB.out⟩
   ·replace c30 := Bool.eq_false_iff.mpr c30
    subst c30
    rw [if_neg (show ¬ (false = true) by decide)] at H
    (try dsimp only at H)
    replace H := Option.bind_eq_some_iff.mp H
    obtain ⟨⟨t189, t190⟩, A330, H⟩ := H
    (try dsimp only at H)
    have A33 := ZA A330
    clear A330
    have H' := ZA H
    clear H
    have hnb34 := NB184_185.out
    have hnc34 := NB185_184.out
    obtain ⟨hcz35_0, hcz35_1⟩ := blk_cells2 BK184.out
    obtain ⟨hfz35_0, hfz35_1⟩ := blk_frozens2 BK184.out
    go_wp2_with (first | ((with_reducible refine gate_callee (f := 43) rfl ?_); refine goesL_ (some 36) rfl rfl Try.func43 Z12 rfl #[.agg #[.int .i64 a0_0, .slice A0_1 l0_1.length c0_1]] rfl Z1 ?_; (with_reducible refine (spec_l7copy.calls kj4 a0_0 _ _ l0_1 t189 t190 _ ?side1 ?side2 A33.out).mono ?_); (case side1 => repeat (first | exact (Kd.C_below HR0_1.out HB.out) | (with_reducible refine Kd.C_alloc ?_ _) | (with_reducible refine Kd.C_drewN ?_ _) | (with_reducible refine Kd.C_drew ?_))); (case side2 => exact HC0_1.out); rintro e w36 ⟨v191, rfl, ho0, hb⟩; refine ⟨_, rfl, ?_⟩; have n0_ := ZA (Kd.N_lower (Kd.N_mono (ok' := fun k_ => (w.heap.size ≤ k_) ∧ k_ ≠ gb184 ∧ k_ ≠ gb185) (Kd.S_N (Kd.S_bound ho0)) (fun k_ hk_ => ⟨(Nat.le_trans (below_size (hset HB.out)) hk_.2.1), (Kd.freshB (g := gb184) (o := .cells #[.int .i64 a0_0, .slice A0_1 l0_1.length c0_1] 27 (0, 0)) (bup BK184.out) k_ hk_.2.1), (Kd.freshB (g := gb185) (o := .cells #[.int .i64 0, .slice none 0 0] 27 (0, 0)) (bup BK185.out) k_ hk_.2.1)⟩)) (below_size (hset HB.out))); have n1_ := ZA (blk_below (bup BK184.out) hb); have n2_ := ZA (blk_below (bup BK185.out) hb); have n3_ := ZA (below_step (hset HB.out) hb); clear BK184 BK185 HB; have HO192 := n0_; have BK184 := n1_; have BK185 := n2_; have HB := n3_; clear n0_ n1_ n2_ n3_; (try clear hb); (try clear hb2); (try clear hk); (try clear hi); (try clear ho0)) | ((with_reducible refine gate_dst (N := 10) rfl ?_); (try (refine gate_guard Z94 ?_; dsimp only)); refine box_event ?hg (N := 10) ?hd (cs := #[.int .i64 0, .slice none 0 0]) (t := 27) ?hr ?_; (case hd => rfl); (case hg => rfl); (case hr => first | (go_simp; done) | (go_simp; rfl)); intro gb193 hg w37 hbox hb; have n0_ := ZA (Kd.N_below (Kd.N_elderB (by (with_reducible repeat (first | apply Kd.N_alloc | apply Kd.N_drewN | apply Kd.N_drew)); exact HO192.out) gb193 (Nat.le_of_eq hg.symm)) hb); have n1_ := ZA (blk_below (bup BK184.out) hb); have n2_ := ZA (blk_below (bup BK185.out) hb); have n3_ := ZA (below_step (hset HB.out) hb); have n4_ := ZA (hbox); have n5_ := Geq.mk ((Z34 : w.heap.size ≤ gb193)); have n6_ := Geq.mk ((Z34 : w.heap.size ≤ gb193)); have n7_ := Neq.mk ((by rw [hg]; exact Nat.ne_of_lt (blk_lt (g := gb184) (o := .cells #[.int .i64 a0_0, .slice A0_1 l0_1.length c0_1] 27 (0, 0)) (bup BK184.out)) : gb184 ≠ gb193)); have n8_ := Neq.mk ((by rw [hg]; exact Nat.ne_of_gt (blk_lt (g := gb184) (o := .cells #[.int .i64 a0_0, .slice A0_1 l0_1.length c0_1] 27 (0, 0)) (bup BK184.out)) : gb193 ≠ gb184)); have n9_ := Neq.mk ((by rw [hg]; exact Nat.ne_of_lt (blk_lt (g := gb185) (o := .cells #[.int .i64 0, .slice none 0 0] 27 (0, 0)) (bup BK185.out)) : gb185 ≠ gb193)); have n10_ := Neq.mk ((by rw [hg]; exact Nat.ne_of_gt (blk_lt (g := gb185) (o := .cells #[.int .i64 0, .slice none 0 0] 27 (0, 0)) (bup BK185.out)) : gb193 ≠ gb185)); clear HO192 BK184 BK185 HB; have HO192 := n0_; have BK184 := n1_; have BK185 := n2_; have HB := n3_; have BK193 := n4_; have GW193 := n5_; have GE193 := n6_; have NB184_193 := n7_; have NB193_184 := n8_; have NB185_193 := n9_; have NB193_185 := n10_; clear n0_ n1_ n2_ n3_ n4_ n5_ n6_ n7_ n8_ n9_ n10_ hb hbox hg; have hnb38 := NB193_184.out; have hnc38 := NB184_193.out; have hnb39 := NB193_185.out; have hnc39 := NB185_193.out; obtain ⟨hcz40_0, hcz40_1⟩ := blk_cells2 BK193.out; obtain ⟨hfz40_0, hfz40_1⟩ := blk_frozens2 BK193.out; obtain ⟨Ao41, co41, eo41⟩ := Kd.N_slice HO192.out; subst eo41))
    go_loopg [] kj4 (fun kq w' => ∃ (x194001_2 : List (List Int)) (u194001 : Value), Aside0 (spec_PagePut.l0 kq a1 l2 a3 t189 x194001_2 = some (r1, r2, r3)) ∧ Aside0 (kq ≤ kj4) ∧ Aside0 (Kd.N (Kd.slice 5 (Kd.int .u8)) 36 w' w.heap.size (fun k_ => (w.heap.size ≤ k_) ∧ k_ ≠ gb184 ∧ k_ ≠ gb185 ∧ k_ ≠ gb193) u194001 x194001_2) ∧ Aside0 (w'.heap[gb184]? = some (.cells #[.int .i64 a0_0, (.slice A0_1 l0_1.length c0_1)] 27 (0, 0))) ∧ Aside0 (w'.heap[gb185]? = some (.cells #[.int .i64 0, (.slice none 0 0)] 27 (0, 0))) ∧ Aside0 (w'.heap[gb193]? = some (.cells #[.int .i64 t189, u194001] 27 (0, 0))) ∧ Aside0 (Below w.heap.size w w'))
    case atStart => exact ⟨(t190), (.slice Ao41 t190.length co41), H', ⟨Nat.le_refl _⟩, ⟨by (with_reducible repeat (first | apply Kd.N_alloc | apply Kd.N_drewN | apply Kd.N_drew)); exact Kd.N_mono (Kd.N_far (p := ⟨gb193, 1, none⟩) (Kd.N_far (p := ⟨gb193, 0, none⟩) (Kd.N_mono HO192.out (fun k_ hk => (⟨hk, hk.2⟩ : _ ∧ k_ ≠ gb193))) (fun _ hk => hk.2) (.int .i64 t189)) (fun _ hk => hk.2) (.slice Ao41 t190.length co41)) (fun _ hk => ⟨hk.1.1.1, ⟨hk.1.1.2.1, ⟨hk.1.1.2.2, hk.1.2⟩⟩⟩)⟩, ⟨bput BK184.out⟩, ⟨bput BK185.out⟩, ⟨bput BK193.out⟩, ⟨hset HB.out⟩⟩
    case round =>
     clear H'
     try clear c1
     try clear c2
     try clear p2
     try clear c3
     try clear c4
     try clear c9
     try clear c9b0
     try clear c10
     try clear c12
     try clear c14
     try clear c15
     try clear c15b0
     try clear c15b1
     try clear c15b2
     try clear c16
     try clear c19
     try clear c19b0
     try clear c19b1
     try clear c20
     try clear c22
     try clear c24
     try clear c27
     try clear c30
     try clear c31
     try clear c34
     try clear c38
     try clear c39
     try clear hcz11_0
     try clear hcz11_1
     try clear hcz17_0
     try clear hcz17_1
     try clear hcz21_0
     try clear hcz21_1
     try clear hcz25_0
     try clear hcz25_1
     try clear hcz28_0
     try clear hcz28_1
     try clear hcz32_0
     try clear hcz32_1
     try clear hcz35_0
     try clear hcz35_1
     try clear hcz40_0
     try clear hcz40_1
     try clear hfz11_0
     try clear hfz11_1
     try clear hfz17_0
     try clear hfz17_1
     try clear hfz21_0
     try clear hfz21_1
     try clear hfz25_0
     try clear hfz25_1
     try clear hfz28_0
     try clear hfz28_1
     try clear hfz32_0
     try clear hfz32_1
     try clear hfz35_0
     try clear hfz35_1
     try clear hfz40_0
     try clear hfz40_1
     try clear p2
     obtain ⟨x194001_2, u194001, HA, HK2, HO_194001, BK184, BK185, BK193, HB⟩ := hrel
     cases gk with
     | zero => exact absurd HA.out (by simp [spec_PagePut.l0])
     | succ k2 =>
      have H := HA.out
      clear HA
      simp only [spec_PagePut.l0] at H
      by_cases c42 : (x194001_2.length : Int) ≤ a1
      ·rw [if_pos c42] at H
       have c42b0 : decide ((x194001_2.length : Int) ≤ a1) = true := decide_eq_true c42
       clear c42
       by_cases c43 : x194001_2.length < 5864062014805
       ·rw [if_pos c43] at H
        have LMc43 := ZA c43
        clear c43
        obtain ⟨y194, hy194⟩ : ∃ y_ : List (List Int), y_ = (x194001_2 ++ [[]]) := ⟨_, rfl⟩
        replace H : (spec_PagePut.l0 k2 a1 l2 a3 t189 y194) = some (r1, r2, r3) := by first | (rw [hy194]; with_reducible exact H) | (have H2_ := (Option.bind_some _ _).symm.trans H; rw [hy194]; with_reducible exact H2_) | (have H2_ := (Option.bind_some _ _).symm.trans H; with_reducible exact H2_) | with_reducible exact H | (rw [hy194]; exact H) | exact H
        have Ny194 := ZA hy194
        clear hy194
        have H' := ZA H
        clear H
        have hnb44 := NB193_184.out
        have hnc44 := NB184_193.out
        have hnb45 := NB193_185.out
        have hnc45 := NB185_193.out
        obtain ⟨hcz46_0, hcz46_1⟩ := blk_cells2 BK193.out
        obtain ⟨hfz46_0, hfz46_1⟩ := blk_frozens2 BK193.out
        obtain ⟨Ao47, co47, eo47⟩ := Kd.N_slice HO_194001.out
        subst eo47
        go_wp2_with (first | ((with_reducible refine gate_builtin (b := .append) (xs := #[.tmp 43, .tmp 44]) rfl ?_); (try (refine gate_guard Z94 ?_; dsimp only)); at_builtin; refine Kd.N_append (Kd.slice 5 (Kd.int .u8)) (w0 := w) w.heap.size rfl (.tmp 43) (.tmp 44) 22 36 (.slice none 0 0) 24 rfl Try.underlying22 info36 rfl Z25 Z8 (.slice Ao47 x194001_2.length co47) x194001_2 ([] : List Int) [.slice none 0 0] (fun k_ => (w.heap.size ≤ k_) ∧ k_ ≠ gb184 ∧ k_ ≠ gb185 ∧ k_ ≠ gb193) (fun k_ => ((fun k_ => (w.heap.size ≤ k_) ∧ k_ ≠ gb184 ∧ k_ ≠ gb185 ∧ k_ ≠ gb193)) k_ ∧ some k_ ≠ (.slice Ao47 x194001_2.length co47 : Value).ownBlock) rfl rfl ?aP (fun _ hk => hk) ?aF ?aO ?aB ?aS ?aL ?_; (case aP => exact (Kd.FK_slice_mk (Nat.le_refl _) (Kd.F_nil _ _ _))); (case aB => exact (hset HB.out)); (case aF => exact (fun k_ hk => ⟨(Nat.le_trans (below_size (hset HB.out)) hk), Kd.freshB (g := gb184) (o := .cells #[.int .i64 a0_0, .slice A0_1 l0_1.length c0_1] 27 (0, 0)) (bup BK184.out) k_ hk, Kd.freshB (g := gb185) (o := .cells #[.int .i64 0, .slice none 0 0] 27 (0, 0)) (bup BK185.out) k_ hk, Kd.freshB (g := gb193) (o := .cells #[.int .i64 t189, .slice Ao47 x194001_2.length co47] 27 (0, 0)) (bup BK193.out) k_ hk⟩)); (case aO => exact Z76); (case aS => exact (below_size (hset HB.out))); (case aL => have := LMc43.out; omega); intro v195 w48 ho hb hg hat; rw [← Ny194.out] at ho; have n0_ := ZA (blk_grown (g := gb184) (o := .cells #[.int .i64 a0_0, .slice A0_1 l0_1.length c0_1] 27 (0, 0)) (bup BK184.out) hg (Kd.N_ne HO_194001.out BK184.out Z25)); have n1_ := ZA (blk_grown (g := gb185) (o := .cells #[.int .i64 0, .slice none 0 0] 27 (0, 0)) (bup BK185.out) hg (Kd.N_ne HO_194001.out BK185.out Z25)); have n2_ := ZA (blk_grown (g := gb193) (o := .cells #[.int .i64 t189, .slice Ao47 x194001_2.length co47] 27 (0, 0)) (bup BK193.out) hg (Kd.N_ne HO_194001.out BK193.out Z25)); have n3_ := ZA (hb); have n4_ := ZA (ho); clear BK184 BK185 BK193 HB HO_194001; have BK184 := n0_; have BK185 := n1_; have BK193 := n2_; have HB := n3_; have HO196 := n4_; clear n0_ n1_ n2_ n3_ n4_ ho hb hg hat; obtain ⟨Ao49, co49, eo49⟩ := Kd.N_slice HO196.out; subst eo49; obtain ⟨hcz50_0, hcz50_1⟩ := blk_cells2 BK193.out; obtain ⟨hfz50_0, hfz50_1⟩ := blk_frozens2 BK193.out))
        go_roundg k2
        case measure => have := HJ4.out; have := HK2.out; omega
        case rel => exact ⟨(y194), (.slice Ao49 y194.length co49), H', ⟨by have := HJ4.out; have := HK2.out; omega⟩, ⟨by (with_reducible repeat (first | apply Kd.N_alloc | apply Kd.N_drewN | apply Kd.N_drew)); exact Kd.N_mono (Kd.N_far (p := ⟨gb193, 1, none⟩) (Kd.N_mono HO196.out (fun k_ hk => (⟨hk, hk.2.2.2⟩ : _ ∧ k_ ≠ gb193))) (fun _ hk => hk.2) (.slice Ao49 y194.length co49)) (fun _ hk => ⟨hk.1.1, ⟨hk.1.2.1, ⟨hk.1.2.2.1, hk.1.2.2.2⟩⟩⟩)⟩, ⟨bput BK184.out⟩, ⟨bput BK185.out⟩, ⟨bput BK193.out⟩, ⟨hset HB.out⟩⟩
       ·rw [if_neg c43] at H
        exact absurd H Z44
      ·rw [if_neg c42] at H
       have c42b0 : decide ((x194001_2.length : Int) ≤ a1) = false := decide_eq_false c42
       clear c42
       obtain ⟨y197, hy197⟩ : ∃ y_ : List Int, y_ = (([] : List Int)) := ⟨_, rfl⟩
       replace H : (if y197.length + l2.length < 140737488355328 then (if 0 ≤ a1 then (if a1 < (x194001_2.length : Int) then ((some (x194001_2.set (a1 : Int).toNat (y197 ++ l2) : List (List Int))).bind fun y203 => ((spec_PageUsed.f k2 a3 y203).bind fun t204 => (if t204 < 0 then (some (0, ([] : List (List Int)), false)) else (some (a3, y203, true))))) else (none)) else (none)) else (none)) = some (r1, r2, r3) := by first | (rw [hy197]; with_reducible exact H) | (have H2_ := (Option.bind_some _ _).symm.trans H; rw [hy197]; with_reducible exact H2_) | (have H2_ := (Option.bind_some _ _).symm.trans H; with_reducible exact H2_) | with_reducible exact H | (rw [hy197]; exact H) | exact H
       have Ny197 := ZA hy197
       clear hy197
       by_cases c51 : y197.length + l2.length < 140737488355328
       ·rw [if_pos c51] at H
        have LMc51 := ZA c51
        clear c51
        obtain ⟨y200, hy200⟩ : ∃ y_ : List Int, y_ = (y197 ++ l2) := ⟨_, rfl⟩
        replace H : (if 0 ≤ a1 then (if a1 < (x194001_2.length : Int) then ((some (x194001_2.set (a1 : Int).toNat y200 : List (List Int))).bind fun y203 => ((spec_PageUsed.f k2 a3 y203).bind fun t204 => (if t204 < 0 then (some (0, ([] : List (List Int)), false)) else (some (a3, y203, true))))) else (none)) else (none)) = some (r1, r2, r3) := by first | (rw [hy200]; with_reducible exact H) | (have H2_ := (Option.bind_some _ _).symm.trans H; rw [hy200]; with_reducible exact H2_) | (have H2_ := (Option.bind_some _ _).symm.trans H; with_reducible exact H2_) | with_reducible exact H | (rw [hy200]; exact H) | exact H
        have Ny200 := ZA hy200
        clear hy200
        by_cases c52 : 0 ≤ a1
        ·rw [if_pos c52] at H
         have c52b0 : decide (0 ≤ a1) = true := decide_eq_true c52
         clear c52
         by_cases c53 : a1 < (x194001_2.length : Int)
         ·rw [if_pos c53] at H
          have c53b0 : decide (a1 < (x194001_2.length : Int)) = true := decide_eq_true c53
          clear c53
          obtain ⟨y203, hy203⟩ : ∃ y_ : List (List Int), y_ = (x194001_2.set (a1 : Int).toNat y200) := ⟨_, rfl⟩
          replace H : ((spec_PageUsed.f k2 a3 y203).bind fun t204 => (if t204 < 0 then (some (0, ([] : List (List Int)), false)) else (some (a3, y203, true)))) = some (r1, r2, r3) := by first | (rw [hy203]; with_reducible exact H) | (have H2_ := (Option.bind_some _ _).symm.trans H; rw [hy203]; with_reducible exact H2_) | (have H2_ := (Option.bind_some _ _).symm.trans H; with_reducible exact H2_) | with_reducible exact H | (rw [hy203]; exact H) | exact H
          have Ny203 := ZA hy203
          clear hy203
          replace H := Option.bind_eq_some_iff.mp H
          obtain ⟨t204, A550, H⟩ := H
          (try dsimp only at H)
          have A55 := ZA A550
          clear A550
          by_cases c56 : t204 < 0
          ·rw [if_pos c56] at H
           have c56b0 : decide (t204 < 0) = true := decide_eq_true c56
           clear c56
           simp only [Option.some.injEq, Prod.mk.injEq] at H
           obtain ⟨rfl, rfl, rfl⟩ := H
           have hnb57 := NB193_184.out
           have hnc57 := NB184_193.out
           have hnb58 := NB193_185.out
           have hnc58 := NB185_193.out
           obtain ⟨hcz59_0, hcz59_1⟩ := blk_cells2 BK193.out
           obtain ⟨hfz59_0, hfz59_1⟩ := blk_frozens2 BK193.out
           obtain ⟨Ao60, co60, eo60⟩ := Kd.N_slice HO_194001.out
           subst eo60
           try go_wp2
           have n0_ := ZA (Kd.N_drew HO_194001.out)
           have n1_ := ZA (blk_drew BK184.out)
           have n2_ := ZA (blk_drew BK185.out)
           have n3_ := ZA (blk_drew BK193.out)
           have n4_ := ZA (below_drew1 HB.out)
           clear HO_194001
           clear BK184
           clear BK185
           clear BK193
           clear HB
           have HO_194001 := n0_
           have BK184 := n1_
           have BK185 := n2_
           have BK193 := n3_
           have HB := n4_
           clear n0_ n1_ n2_ n3_ n4_
           refine start_ (n := 8) (S := fun w' => w'.cell? ⟨gb193, 0, none⟩ = some (.int .i64 t189) ∧ w'.cell? ⟨gb193, 1, none⟩ = some (.slice Ao60 x194001_2.length co60)) (ds := [7]) #[false, false, false, false, false, false, false, false] Z12 rfl rfl (blk_cells2 BK193.out) (fun hHeld => ?_); refine with_tabW spec_PagePut.tab6 spec_PagePut.bits6 (fun HT_ HW_ => ?_)
           generalize wr.drew = w61 at HO_194001 BK184 BK185 BK193 HB hHeld ⊢
           refine pure_ (i := 0) (N := some 47) (v := ?_) (a' := ?_) #[true, false, false, false, false, false, false, false] rfl rfl (any_of HT_.out Z12) (fun _ _ _ h => h) (Or.inl ⟨by rfl, ?_⟩) ?_ ?_
           rotate_left
           ·intro w'
            go_simp
            with_reducible rfl
           rotate_left
           ·simp only [Act.put, List.setIfInBounds_toArray, List.set_cons_zero, List.set_cons_succ, i64_w, i32_w]
            rfl
           refine pure_ (i := 2) (N := some 49) (v := ?_) (a' := ?_) #[true, false, true, false, false, false, false, false] rfl rfl (any_of HT_.out Z12) (fun _ _ _ h => h) (Or.inl ⟨by rfl, ?_⟩) ?_ ?_
           rotate_left
           ·intro w'
            go_simp
            with_reducible rfl
           rotate_left
           ·simp only [Act.put, List.setIfInBounds_toArray, List.set_cons_zero, List.set_cons_succ, i64_w, i32_w]
            rfl
           refine pure_ (i := 4) (N := some 51) (v := ?_) (a' := ?_) #[true, false, true, false, true, false, false, false] rfl rfl (any_of HT_.out Z12) (fun _ _ _ h => h) (Or.inl ⟨by rfl, ?_⟩) ?_ ?_
           rotate_left
           ·intro w'
            go_simp
            with_reducible rfl
           rotate_left
           ·simp only [Act.put, List.setIfInBounds_toArray, List.set_cons_zero, List.set_cons_succ, i64_w, i32_w]
            rfl
           refine take_ (i := 1) (N := some 48) (v := ?_) (a' := ?_) #[true, true, true, false, true, false, false, false] rfl rfl (take_ofW HT_.out HW_.out Z12) (fun _ _ _ h => h) (Or.inl ⟨by rfl, ?_⟩) hHeld ?_ ?_
           rotate_left
           ·rintro w' ⟨s0, s1⟩
            go_simp
            with_reducible rfl
           rotate_left
           ·simp only [Act.put, List.setIfInBounds_toArray, List.set_cons_zero, List.set_cons_succ, i64_w, i32_w]
            rfl
           refine one_ (i := 3) (N := some 50) #[true, true, true, true, true, false, false, false] rfl rfl (one_of HT_.out Z12) Z25 (fun K hK => ?_)
           refine Kd.R_lit_step (Kd.int .u8) _ 5 ?hg (N := 50) ?hd (xs := ([] : List Int)) (inner := []) (ok := fun _ => True) (okp := fun _ => True) ?hr ?hp (fun _ hk => hk) trivial (Below.refl _ _) (Nat.le_refl _) Z44 ?_; (case hd => rfl); (case hg => rfl); (case hr => first | (go_simp; done) | (go_simp; rfl)); (case hp => exact (Reps.none _ _))
           intro v198 w62 ho63 hb hg_ hnew_
           clear hg_ hnew_
           (first | rw [← Ny197.out] at ho63 | (simp only [Int.reduceToNat] at ho63; rw [← Ny197.out] at ho63))
           have n0_ := ZA (Kd.N_elder' Z76 (Kd.R_base ho63) hb)
           have n1_ := ZA (Kd.R_lower (Kd.R_newM (M := fun k_ => (w.heap.size ≤ k_)) ho63 (below_size (hset HB.out)) (fun k_ h_ => h_)) (below_size (hset HB.out)))
           have n2_ := ZA (blk_below (bup BK184.out) hb)
           have n3_ := ZA (blk_below (bup BK185.out) hb)
           have n4_ := ZA (blk_below (bup BK193.out) hb)
           have n5_ := ZA (below_step (hset HB.out) hb)
           clear HO_194001
           clear BK184
           clear BK185
           clear BK193
           clear HB
           have HO_194001 := n0_
           have HO199 := n1_
           have BK184 := n2_
           have BK185 := n3_
           have BK193 := n4_
           have HB := n5_
           clear n0_ n1_ n2_ n3_ n4_ n5_
           clear hb ho63
           refine hK.out _ _ (blk_cells2 BK193.out) (fun hHeld => ?_)
           clear hK K
           refine norm_ (a' := ?_) ?_ ?_
           rotate_left
           ·show Act.put _ (some 50) _ = _
            simp only [Act.put, List.setIfInBounds_toArray, List.set_cons_zero, List.set_cons_succ, i64_w, i32_w]
            rfl
           refine one_ (i := 5) (N := some 52) #[true, true, true, true, true, true, false, false] rfl rfl (one_of HT_.out Z12) Z25 (fun K hK => ?_)
           refine Kd.R_append_rows_step (Kd.int .u8) (w0 := w) w.heap.size Z94 (.tmp 50) (.tmp 51) 36 5 (.int .u8 0) 1 rfl Try.underlying36 info5 rfl Z25 Z8 v198 y197 l2 _ _ _ (fun k_ => (w.heap.size ≤ k_)) (fun _ => False) rfl rfl ?aO ?aR (fun _ _ h => h) (fun _ h => h.elim) ?aF ?aB ?aS ?aL ?_
           (case aR => repeat (first | exact (Kd.C_below HR2.out HB.out) | (with_reducible refine Kd.C_alloc ?_ _) | (with_reducible refine Kd.C_drewN ?_ _) | (with_reducible refine Kd.C_drew ?_)))
           (case aB => exact (hset HB.out))
           (case aF => exact (fun k_ hk => (Nat.le_trans (below_size (hset HB.out)) hk)))
           (case aO => exact (by exact Kd.rup (Kd.R_mono HO199.out (fun _ hk => hk.1))))
           (case aS => exact (below_size (hset HB.out)))
           (case aL => have := LMc51.out; omega)
           intro v201 w64 ho hb hg hat
           rw [← Ny200.out] at ho
           have n0_ := ZA (Kd.N_afterv (ok := (fun k_ => (w.heap.size ≤ k_) ∧ k_ ≠ gb184 ∧ k_ ≠ gb185 ∧ k_ ≠ gb193)) Z76 hg hat)
           have n1_ := ZA (blk_grown (g := gb184) (o := .cells #[.int .i64 a0_0, .slice A0_1 l0_1.length c0_1] 27 (0, 0)) (bup BK184.out) hg (Kd.R_ne HO199.out BK184.out Z25))
           have n2_ := ZA (blk_grown (g := gb185) (o := .cells #[.int .i64 0, .slice none 0 0] 27 (0, 0)) (bup BK185.out) hg (Kd.R_ne HO199.out BK185.out Z25))
           have n3_ := ZA (blk_grown (g := gb193) (o := .cells #[.int .i64 t189, .slice Ao60 x194001_2.length co60] 27 (0, 0)) (bup BK193.out) hg (Kd.R_ne HO199.out BK193.out Z25))
           have n4_ := ZA (hb)
           have n5_ := ZA (ho)
           clear HO_194001
           clear BK184
           clear BK185
           clear BK193
           clear HB
           clear HO199
           have HO_194001 := n0_
           have BK184 := n1_
           have BK185 := n2_
           have BK193 := n3_
           have HB := n4_
           have HO202 := n5_
           clear n0_ n1_ n2_ n3_ n4_ n5_
           clear ho hb hg hat
           have p54 : 0 ≤ (a1 : Int) := of_decide_eq_true Z10
           have q54 : (a1 : Int) < ((x194001_2.length : Int) : Int) := of_decide_eq_true Z10
           obtain ⟨go54, co54, eo54, gb54, gl54, cl54, HG54⟩ := Kd.N_form HO_194001.out Z8
           (first | cases eo54 | (injection eo54 with ea_ en_ ec_; (first | subst ea_ | (injection ea_ with ea_; subst ea_)); subst ec_; clear en_))
           have GB54 := ZA gb54
           have GG54 := ZA HG54
           clear gb54 gl54 HG54
           obtain ⟨ce54, hcl54, hM54, hcc54, hfr54⟩ := Kd.N_elem HO_194001.out [] (a1 : Int) p54 q54
           obtain ⟨ua54_0, uc54_0, rfl, ul54_0, ge54_0⟩ := Kd.FK_slice_open hM54
           have hx54_0 := hcc54 0 _ rfl
           have hf54_0 := hfr54 0
           (try simp only [show ((Kd.slice 5 (Kd.int .u8))).sz = 1 from rfl, Nat.mul_one, Nat.add_zero] at hx54_0)
           (try simp only [show ((Kd.slice 5 (Kd.int .u8))).sz = 1 from rfl, Nat.mul_one, Nat.add_zero] at hf54_0)
           (try clear hM54); clear hcl54 hcc54 hfr54
           replace p54 := eq_true p54
           replace q54 := eq_true q54
           have HX65 := ZA (show Kd.N (Kd.slice 5 (Kd.int .u8)) 36 _ w.heap.size (fun k_ => (w.heap.size ≤ k_) ∧ some k_ ≠ (v201 : Value).ownBlock ∧ k_ ≠ gb184 ∧ k_ ≠ gb185 ∧ k_ ≠ gb193) (.slice (some ⟨go54, 0, none⟩) x194001_2.length co60) x194001_2 from (Kd.N_mono (HO_194001.out) (fun k_ hk => ⟨hk.1.1, ⟨hk.2, ⟨hk.1.2.1, ⟨hk.1.2.2.1, hk.1.2.2.2⟩⟩⟩⟩)))
           replace HX65 := ZA (show Kd.N (Kd.slice 5 (Kd.int .u8)) 36 _ w.heap.size (fun k_ => (w.heap.size ≤ k_) ∧ k_ ≠ gb184 ∧ k_ ≠ gb185 ∧ k_ ≠ gb193) (.slice (some ⟨go54, 0, none⟩) x194001_2.length co60) x194001_2 from Kd.N_mono HX65.out (fun k_ hk => ⟨hk.1, ⟨hk.2.2.1, ⟨hk.2.2.2.1, hk.2.2.2.2⟩⟩⟩))
           obtain ⟨ce65, hcl65, hM65, hcc65, hfr65⟩ := Kd.N_elem HX65.out [] (a1 : Int) (of_decide_eq_true Z10) Z65
           obtain ⟨ua65_0, uc65_0, rfl, ul65_0, ge65_0⟩ := Kd.FK_slice_open hM65
           have hqm_ := (Kd.R_types (Kd.R_types (Kd.R_types (Kd.R_apart' (HO202.out) (Kd.N_typed HO_194001.out) Z25) BK184.out Z25) BK185.out Z25) BK193.out Z25)
           have hqn_ := Kd.R_mono (ok' := (fun k_ => ((fun k_ => (w.heap.size ≤ k_) ∧ k_ ≠ gb184 ∧ k_ ≠ gb185 ∧ k_ ≠ gb193)) k_ ∧ k_ ≠ go54)) hqm_ (fun k_ hk => ⟨⟨hk.1.1.1.1, ⟨hk.1.1.2, ⟨hk.1.2, hk.2⟩⟩⟩, fun e_ => (hk.1.1.1.2) (by rw [e_]; rfl)⟩)
           have HP65 := (Kd.N_seg HX65.out (a1 : Int) (of_decide_eq_true Z10) Z65 (seg := [v201]) (j := 0) hcl65 hcc65 (show 1 ≤ 1 from by decide) (x' := y200) (Kd.FK_own hqn_) (fun _ hk => hk)).1
           (try clear hqm_ hqn_)
           (try simp only [show ((Kd.slice 5 (Kd.int .u8))).sz = 1 from rfl, Nat.mul_one, Nat.add_zero] at HP65)
           rw [← Ny203.out] at HP65
           have HQ65 := ZA HP65
           (try clear hM65); clear hcl65 hcc65 hfr65 HP65
           refine hK.out _ _ (blk_cells2 BK193.out) (fun hHeld => ?_)
           clear hK K
           refine norm_ (a' := ?_) ?_ ?_
           rotate_left
           ·show Act.put _ (some 52) _ = _
            simp only [Act.put, List.setIfInBounds_toArray, List.set_cons_zero, List.set_cons_succ, i64_w, i32_w]
            rfl
           refine pure_ (i := 6) (N := some 53) (v := ?_) (a' := ?_) #[true, true, true, true, true, true, true, false] rfl rfl (any_of HT_.out Z12) (fun _ _ _ h => h) (Or.inl ⟨by rfl, ?_⟩) ?_ ?_
           rotate_left
           ·intro w'
            go_simp
            with_reducible rfl
           rotate_left
           ·simp only [Act.put, List.setIfInBounds_toArray, List.set_cons_zero, List.set_cons_succ, i64_w, i32_w]
            rfl
           refine last_ (i := 7) (N := none) #[true, true, true, true, true, true, true, true] rfl rfl (one_of HT_.out Z12) Z25 (fun K hK => ?_)
           refine skip_ (w1 := (w64.setCell ⟨go54, (a1 : Int).toNat, none⟩ (v201))) ?hw_ ?hN_ ?_ ?_
           case hN_ => rfl
           case hw_ => rfl
           try skip
           ·first | (go_simp; done) | (go_simp; rfl) | (obtain ⟨_, _, es_⟩ := (by first | exact Kd.R_slice (Aside0.out (by assumption : Aside0 (Kd.R _ _ _ _ _ v201 _))) | exact Kd.S_slice (Aside0.out (by assumption : Aside0 (Kd.S _ _ _ _ _ v201 _))) : ∃ A_ c_, v201 = .slice A_ _ c_); rw [es_]; clear es_; first | (go_simp; done) | (go_simp; rfl))
            done
           refine hK.out _ _ ?_
           clear hK K
           refine done_ (done_of HT_.out Z12) ?_
           have n0_ : Aside0 (Kd.N (Kd.slice 5 (Kd.int .u8)) 36 (w64.setCell ⟨go54, (a1 : Int).toNat, none⟩ (v201)) w.heap.size (fun k_ => (w.heap.size ≤ k_) ∧ k_ ≠ gb184 ∧ k_ ≠ gb185 ∧ k_ ≠ gb193) (.slice (some ⟨go54, 0, none⟩) x194001_2.length co60) y203) := ⟨by (with_reducible repeat (first | apply Kd.N_alloc | apply Kd.N_drewN | apply Kd.N_drew)); exact HQ65.out⟩
           have n1_ : Aside0 ((w64.setCell ⟨go54, (a1 : Int).toNat, none⟩ (v201)).heap[gb184]? = some (.cells #[.int .i64 a0_0, .slice A0_1 l0_1.length c0_1] 27 (0, 0))) := ⟨by (with_reducible repeat (first | refine b1 ?_ _ | refine b2 ?_ | refine b3 ?_ _)); refine blk_far ?_ (by have h_ := Kd.N_away HO_194001.out (fun _ hk => by first | exact hk.2.1 | exact hk.1.2.1 | exact hk.1.1.2.1 | exact hk.1.1.1.2.1); intro e_; exact h_ (by rw [e_]; rfl)) _; exact bup BK184.out⟩
           have n2_ : Aside0 ((w64.setCell ⟨go54, (a1 : Int).toNat, none⟩ (v201)).heap[gb185]? = some (.cells #[.int .i64 0, .slice none 0 0] 27 (0, 0))) := ⟨by (with_reducible repeat (first | refine b1 ?_ _ | refine b2 ?_ | refine b3 ?_ _)); refine blk_far ?_ (by have h_ := Kd.N_away HO_194001.out (fun _ hk => by first | exact hk.2.2.1 | exact hk.1.2.2.1 | exact hk.1.1.2.2.1 | exact hk.1.1.1.2.2.1); intro e_; exact h_ (by rw [e_]; rfl)) _; exact bup BK185.out⟩
           have n3_ : Aside0 ((w64.setCell ⟨go54, (a1 : Int).toNat, none⟩ (v201)).heap[gb193]? = some (.cells #[.int .i64 t189, .slice (some ⟨go54, 0, none⟩) x194001_2.length co60] 27 (0, 0))) := ⟨by (with_reducible repeat (first | refine b1 ?_ _ | refine b2 ?_ | refine b3 ?_ _)); refine blk_far ?_ (by have h_ := Kd.N_away HO_194001.out (fun _ hk => by first | exact hk.2.2.2 | exact hk.1.2.2.2 | exact hk.1.1.2.2.2 | exact hk.1.1.1.2.2.2); intro e_; exact h_ (by rw [e_]; rfl)) _; exact bup BK193.out⟩
           have n4_ : Aside0 (Below w.heap.size w (w64.setCell ⟨go54, (a1 : Int).toNat, none⟩ (v201))) := ⟨by with_reducible repeat (first | exact HB.out | refine h4 ?_ GB54.out | refine h4 ?_ GE184.out | refine h4 ?_ GE185.out | refine h4 ?_ GE193.out | apply h1 | apply h2 | apply h3)⟩
           (try clear HO_194001)
           (try clear BK184)
           (try clear BK185)
           (try clear BK193)
           (try clear HB)
           generalize (w64.setCell ⟨go54, (a1 : Int).toNat, none⟩ (v201)) = w66 at n0_ n1_ n2_ n3_ n4_ ⊢
           have HO_194001 := n0_
           have BK184 := n1_
           have BK185 := n2_
           have BK193 := n3_
           have HB := n4_
           clear n0_ n1_ n2_ n3_ n4_
           obtain ⟨hcz67_0, hcz67_1⟩ := blk_cells2 BK193.out
           obtain ⟨hfz67_0, hfz67_1⟩ := blk_frozens2 BK193.out
           try go_wp2_with (first | ((with_reducible refine gate_callee (f := 12) rfl ?_); refine goesL_ (some 57) rfl rfl Try.func12 Z12 rfl #[.agg #[.int .i64 a3, .slice (some ⟨go54, 0, none⟩) y203.length co60]] rfl (by (try simp only [List.map_toArray, List.map_cons, List.map_nil]); first | done | (rw [show y203.length = x194001_2.length from (Kd.N_reads' HO_194001.out).1.symm] <;> rfl) | rfl | (simp only [List.length_drop, List.length_take]; rfl)) ?_; (with_reducible refine (spec_PageUsed.calls k2 a3 _ _ y203 t204 _ ?side1 ?side2 A55.out).mono ?_); (case side1 => refine (Kd.N_reads' (e := 36) (base := w.heap.size) (ok := fun k_ => ((w.heap.size ≤ k_) ∧ (k_ ≠ gb184 ∧ (k_ ≠ gb185 ∧ k_ ≠ gb193)))) (n := x194001_2.length) (c := co60) ?_).2.2; exact Z53); (case side2 => rw [show y203.length = x194001_2.length from (Kd.N_reads' HO_194001.out).1.symm]; exact (Kd.N_reads' HO_194001.out).2.1); rintro e w68 ⟨rfl, hb⟩; refine ⟨_, rfl, ?_⟩; have n0_ := ZA (Kd.N_below Z53 hb); have n1_ := ZA (blk_below (g := gb184) (o := .cells #[.int .i64 a0_0, .slice A0_1 l0_1.length c0_1] 27 (0, 0)) (bput BK184.out) hb); have n2_ := ZA (blk_below (g := gb185) (o := .cells #[.int .i64 0, .slice none 0 0] 27 (0, 0)) (bput BK185.out) hb); have n3_ := ZA (blk_below (g := gb193) (o := .cells #[.int .i64 a3, .slice (some ⟨go54, 0, none⟩) x194001_2.length co60] 27 (0, 0)) (bput BK193.out) hb); have n4_ := ZA (below_step (hset HB.out) hb); clear HO_194001 BK184 BK185 BK193 HB; have HO_194001 := n0_; have BK184 := n1_; have BK185 := n2_; have BK193 := n3_; have HB := n4_; clear n0_ n1_ n2_ n3_ n4_; (try clear hb); (try clear hb2); (try clear hk); (try clear hi); have hnb69 := NB185_184.out; have hnc69 := NB184_185.out; obtain ⟨hcz70_0, hcz70_1⟩ := blk_cells2 BK185.out; obtain ⟨hfz70_0, hfz70_1⟩ := blk_frozens2 BK185.out))
           refine bodyPost_ret (results_ct rfl _ _ gb185 27 #[.int .i64 0, .slice none 0 0] (0, 0) _ rfl (bput BK185.out) Try.underlying27 rfl Z12) rfl ?_
           exact ⟨_, by first | rfl | (simp [errW_none, errW_some] <;> rfl) | (simp [*, errW_none, errW_some] <;> rfl), by first | exact Kd.S_nil _ _ _ _ _ | exact Kd.N_nil _ _ _ _ _ | exact Kd.V_nil _ _ _ _ _ | exact Kd.Q_nil _ _ _ _ _ | exact Kd.R_nil _ _ _ _ _, hset HB.out⟩
          ·rw [if_neg c56] at H
           have c56b0 : decide (t204 < 0) = false := decide_eq_false c56
           clear c56
           simp only [Option.some.injEq, Prod.mk.injEq] at H
           obtain ⟨rfl, rfl, rfl⟩ := H
           have hnb71 := NB193_184.out
           have hnc71 := NB184_193.out
           have hnb72 := NB193_185.out
           have hnc72 := NB185_193.out
           obtain ⟨hcz73_0, hcz73_1⟩ := blk_cells2 BK193.out
           obtain ⟨hfz73_0, hfz73_1⟩ := blk_frozens2 BK193.out
           obtain ⟨Ao74, co74, eo74⟩ := Kd.N_slice HO_194001.out
           subst eo74
           try go_wp2
           have n0_ := ZA (Kd.N_drew HO_194001.out)
           have n1_ := ZA (blk_drew BK184.out)
           have n2_ := ZA (blk_drew BK185.out)
           have n3_ := ZA (blk_drew BK193.out)
           have n4_ := ZA (below_drew1 HB.out)
           clear HO_194001
           clear BK184
           clear BK185
           clear BK193
           clear HB
           have HO_194001 := n0_
           have BK184 := n1_
           have BK185 := n2_
           have BK193 := n3_
           have HB := n4_
           clear n0_ n1_ n2_ n3_ n4_
           refine start_ (n := 8) (S := fun w' => w'.cell? ⟨gb193, 0, none⟩ = some (.int .i64 t189) ∧ w'.cell? ⟨gb193, 1, none⟩ = some (.slice Ao74 x194001_2.length co74)) (ds := [7]) #[false, false, false, false, false, false, false, false] Z12 rfl rfl (blk_cells2 BK193.out) (fun hHeld => ?_); refine with_tabW spec_PagePut.tab6 spec_PagePut.bits6 (fun HT_ HW_ => ?_)
           generalize wr.drew = w75 at HO_194001 BK184 BK185 BK193 HB hHeld ⊢
           refine pure_ (i := 0) (N := some 47) (v := ?_) (a' := ?_) #[true, false, false, false, false, false, false, false] rfl rfl (any_of HT_.out Z12) (fun _ _ _ h => h) (Or.inl ⟨by rfl, ?_⟩) ?_ ?_
           rotate_left
           ·intro w'
            go_simp
            with_reducible rfl
           rotate_left
           ·simp only [Act.put, List.setIfInBounds_toArray, List.set_cons_zero, List.set_cons_succ, i64_w, i32_w]
            rfl
           refine pure_ (i := 2) (N := some 49) (v := ?_) (a' := ?_) #[true, false, true, false, false, false, false, false] rfl rfl (any_of HT_.out Z12) (fun _ _ _ h => h) (Or.inl ⟨by rfl, ?_⟩) ?_ ?_
           rotate_left
           ·intro w'
            go_simp
            with_reducible rfl
           rotate_left
           ·simp only [Act.put, List.setIfInBounds_toArray, List.set_cons_zero, List.set_cons_succ, i64_w, i32_w]
            rfl
           refine pure_ (i := 4) (N := some 51) (v := ?_) (a' := ?_) #[true, false, true, false, true, false, false, false] rfl rfl (any_of HT_.out Z12) (fun _ _ _ h => h) (Or.inl ⟨by rfl, ?_⟩) ?_ ?_
           rotate_left
           ·intro w'
            go_simp
            with_reducible rfl
           rotate_left
           ·simp only [Act.put, List.setIfInBounds_toArray, List.set_cons_zero, List.set_cons_succ, i64_w, i32_w]
            rfl
           refine take_ (i := 1) (N := some 48) (v := ?_) (a' := ?_) #[true, true, true, false, true, false, false, false] rfl rfl (take_ofW HT_.out HW_.out Z12) (fun _ _ _ h => h) (Or.inl ⟨by rfl, ?_⟩) hHeld ?_ ?_
           rotate_left
           ·rintro w' ⟨s0, s1⟩
            go_simp
            with_reducible rfl
           rotate_left
           ·simp only [Act.put, List.setIfInBounds_toArray, List.set_cons_zero, List.set_cons_succ, i64_w, i32_w]
            rfl
           refine one_ (i := 3) (N := some 50) #[true, true, true, true, true, false, false, false] rfl rfl (one_of HT_.out Z12) Z25 (fun K hK => ?_)
           refine Kd.R_lit_step (Kd.int .u8) _ 5 ?hg (N := 50) ?hd (xs := ([] : List Int)) (inner := []) (ok := fun _ => True) (okp := fun _ => True) ?hr ?hp (fun _ hk => hk) trivial (Below.refl _ _) (Nat.le_refl _) Z44 ?_; (case hd => rfl); (case hg => rfl); (case hr => first | (go_simp; done) | (go_simp; rfl)); (case hp => exact (Reps.none _ _))
           intro v198 w76 ho77 hb hg_ hnew_
           clear hg_ hnew_
           (first | rw [← Ny197.out] at ho77 | (simp only [Int.reduceToNat] at ho77; rw [← Ny197.out] at ho77))
           have n0_ := ZA (Kd.N_elder' Z76 (Kd.R_base ho77) hb)
           have n1_ := ZA (Kd.R_lower (Kd.R_newM (M := fun k_ => (w.heap.size ≤ k_)) ho77 (below_size (hset HB.out)) (fun k_ h_ => h_)) (below_size (hset HB.out)))
           have n2_ := ZA (blk_below (bup BK184.out) hb)
           have n3_ := ZA (blk_below (bup BK185.out) hb)
           have n4_ := ZA (blk_below (bup BK193.out) hb)
           have n5_ := ZA (below_step (hset HB.out) hb)
           clear HO_194001
           clear BK184
           clear BK185
           clear BK193
           clear HB
           have HO_194001 := n0_
           have HO199 := n1_
           have BK184 := n2_
           have BK185 := n3_
           have BK193 := n4_
           have HB := n5_
           clear n0_ n1_ n2_ n3_ n4_ n5_
           clear hb ho77
           refine hK.out _ _ (blk_cells2 BK193.out) (fun hHeld => ?_)
           clear hK K
           refine norm_ (a' := ?_) ?_ ?_
           rotate_left
           ·show Act.put _ (some 50) _ = _
            simp only [Act.put, List.setIfInBounds_toArray, List.set_cons_zero, List.set_cons_succ, i64_w, i32_w]
            rfl
           refine one_ (i := 5) (N := some 52) #[true, true, true, true, true, true, false, false] rfl rfl (one_of HT_.out Z12) Z25 (fun K hK => ?_)
           refine Kd.R_append_rows_step (Kd.int .u8) (w0 := w) w.heap.size Z94 (.tmp 50) (.tmp 51) 36 5 (.int .u8 0) 1 rfl Try.underlying36 info5 rfl Z25 Z8 v198 y197 l2 _ _ _ (fun k_ => (w.heap.size ≤ k_)) (fun _ => False) rfl rfl ?aO ?aR (fun _ _ h => h) (fun _ h => h.elim) ?aF ?aB ?aS ?aL ?_
           (case aR => repeat (first | exact (Kd.C_below HR2.out HB.out) | (with_reducible refine Kd.C_alloc ?_ _) | (with_reducible refine Kd.C_drewN ?_ _) | (with_reducible refine Kd.C_drew ?_)))
           (case aB => exact (hset HB.out))
           (case aF => exact (fun k_ hk => (Nat.le_trans (below_size (hset HB.out)) hk)))
           (case aO => exact (by exact Kd.rup (Kd.R_mono HO199.out (fun _ hk => hk.1))))
           (case aS => exact (below_size (hset HB.out)))
           (case aL => have := LMc51.out; omega)
           intro v201 w78 ho hb hg hat
           rw [← Ny200.out] at ho
           have n0_ := ZA (Kd.N_afterv (ok := (fun k_ => (w.heap.size ≤ k_) ∧ k_ ≠ gb184 ∧ k_ ≠ gb185 ∧ k_ ≠ gb193)) Z76 hg hat)
           have n1_ := ZA (blk_grown (g := gb184) (o := .cells #[.int .i64 a0_0, .slice A0_1 l0_1.length c0_1] 27 (0, 0)) (bup BK184.out) hg (Kd.R_ne HO199.out BK184.out Z25))
           have n2_ := ZA (blk_grown (g := gb185) (o := .cells #[.int .i64 0, .slice none 0 0] 27 (0, 0)) (bup BK185.out) hg (Kd.R_ne HO199.out BK185.out Z25))
           have n3_ := ZA (blk_grown (g := gb193) (o := .cells #[.int .i64 t189, .slice Ao74 x194001_2.length co74] 27 (0, 0)) (bup BK193.out) hg (Kd.R_ne HO199.out BK193.out Z25))
           have n4_ := ZA (hb)
           have n5_ := ZA (ho)
           clear HO_194001
           clear BK184
           clear BK185
           clear BK193
           clear HB
           clear HO199
           have HO_194001 := n0_
           have BK184 := n1_
           have BK185 := n2_
           have BK193 := n3_
           have HB := n4_
           have HO202 := n5_
           clear n0_ n1_ n2_ n3_ n4_ n5_
           clear ho hb hg hat
           have p54 : 0 ≤ (a1 : Int) := of_decide_eq_true Z10
           have q54 : (a1 : Int) < ((x194001_2.length : Int) : Int) := of_decide_eq_true Z10
           obtain ⟨go54, co54, eo54, gb54, gl54, cl54, HG54⟩ := Kd.N_form HO_194001.out Z8
           (first | cases eo54 | (injection eo54 with ea_ en_ ec_; (first | subst ea_ | (injection ea_ with ea_; subst ea_)); subst ec_; clear en_))
           have GB54 := ZA gb54
           have GG54 := ZA HG54
           clear gb54 gl54 HG54
           obtain ⟨ce54, hcl54, hM54, hcc54, hfr54⟩ := Kd.N_elem HO_194001.out [] (a1 : Int) p54 q54
           obtain ⟨ua54_0, uc54_0, rfl, ul54_0, ge54_0⟩ := Kd.FK_slice_open hM54
           have hx54_0 := hcc54 0 _ rfl
           have hf54_0 := hfr54 0
           (try simp only [show ((Kd.slice 5 (Kd.int .u8))).sz = 1 from rfl, Nat.mul_one, Nat.add_zero] at hx54_0)
           (try simp only [show ((Kd.slice 5 (Kd.int .u8))).sz = 1 from rfl, Nat.mul_one, Nat.add_zero] at hf54_0)
           (try clear hM54); clear hcl54 hcc54 hfr54
           replace p54 := eq_true p54
           replace q54 := eq_true q54
           have HX79 := ZA (show Kd.N (Kd.slice 5 (Kd.int .u8)) 36 _ w.heap.size (fun k_ => (w.heap.size ≤ k_) ∧ some k_ ≠ (v201 : Value).ownBlock ∧ k_ ≠ gb184 ∧ k_ ≠ gb185 ∧ k_ ≠ gb193) (.slice (some ⟨go54, 0, none⟩) x194001_2.length co74) x194001_2 from (Kd.N_mono (HO_194001.out) (fun k_ hk => ⟨hk.1.1, ⟨hk.2, ⟨hk.1.2.1, ⟨hk.1.2.2.1, hk.1.2.2.2⟩⟩⟩⟩)))
           replace HX79 := ZA (show Kd.N (Kd.slice 5 (Kd.int .u8)) 36 _ w.heap.size (fun k_ => (w.heap.size ≤ k_) ∧ k_ ≠ gb184 ∧ k_ ≠ gb185 ∧ k_ ≠ gb193) (.slice (some ⟨go54, 0, none⟩) x194001_2.length co74) x194001_2 from Kd.N_mono HX79.out (fun k_ hk => ⟨hk.1, ⟨hk.2.2.1, ⟨hk.2.2.2.1, hk.2.2.2.2⟩⟩⟩))
           obtain ⟨ce79, hcl79, hM79, hcc79, hfr79⟩ := Kd.N_elem HX79.out [] (a1 : Int) (of_decide_eq_true Z10) Z65
           obtain ⟨ua79_0, uc79_0, rfl, ul79_0, ge79_0⟩ := Kd.FK_slice_open hM79
           have hqm_ := (Kd.R_types (Kd.R_types (Kd.R_types (Kd.R_apart' (HO202.out) (Kd.N_typed HO_194001.out) Z25) BK184.out Z25) BK185.out Z25) BK193.out Z25)
           have hqn_ := Kd.R_mono (ok' := (fun k_ => ((fun k_ => (w.heap.size ≤ k_) ∧ k_ ≠ gb184 ∧ k_ ≠ gb185 ∧ k_ ≠ gb193)) k_ ∧ k_ ≠ go54)) hqm_ (fun k_ hk => ⟨⟨hk.1.1.1.1, ⟨hk.1.1.2, ⟨hk.1.2, hk.2⟩⟩⟩, fun e_ => (hk.1.1.1.2) (by rw [e_]; rfl)⟩)
           have HP79 := (Kd.N_seg HX79.out (a1 : Int) (of_decide_eq_true Z10) Z65 (seg := [v201]) (j := 0) hcl79 hcc79 (show 1 ≤ 1 from by decide) (x' := y200) (Kd.FK_own hqn_) (fun _ hk => hk)).1
           (try clear hqm_ hqn_)
           (try simp only [show ((Kd.slice 5 (Kd.int .u8))).sz = 1 from rfl, Nat.mul_one, Nat.add_zero] at HP79)
           rw [← Ny203.out] at HP79
           have HQ79 := ZA HP79
           (try clear hM79); clear hcl79 hcc79 hfr79 HP79
           refine hK.out _ _ (blk_cells2 BK193.out) (fun hHeld => ?_)
           clear hK K
           refine norm_ (a' := ?_) ?_ ?_
           rotate_left
           ·show Act.put _ (some 52) _ = _
            simp only [Act.put, List.setIfInBounds_toArray, List.set_cons_zero, List.set_cons_succ, i64_w, i32_w]
            rfl
           refine pure_ (i := 6) (N := some 53) (v := ?_) (a' := ?_) #[true, true, true, true, true, true, true, false] rfl rfl (any_of HT_.out Z12) (fun _ _ _ h => h) (Or.inl ⟨by rfl, ?_⟩) ?_ ?_
           rotate_left
           ·intro w'
            go_simp
            with_reducible rfl
           rotate_left
           ·simp only [Act.put, List.setIfInBounds_toArray, List.set_cons_zero, List.set_cons_succ, i64_w, i32_w]
            rfl
           refine last_ (i := 7) (N := none) #[true, true, true, true, true, true, true, true] rfl rfl (one_of HT_.out Z12) Z25 (fun K hK => ?_)
           refine skip_ (w1 := (w78.setCell ⟨go54, (a1 : Int).toNat, none⟩ (v201))) ?hw_ ?hN_ ?_ ?_
           case hN_ => rfl
           case hw_ => rfl
           try skip
           ·first | (go_simp; done) | (go_simp; rfl) | (obtain ⟨_, _, es_⟩ := (by first | exact Kd.R_slice (Aside0.out (by assumption : Aside0 (Kd.R _ _ _ _ _ v201 _))) | exact Kd.S_slice (Aside0.out (by assumption : Aside0 (Kd.S _ _ _ _ _ v201 _))) : ∃ A_ c_, v201 = .slice A_ _ c_); rw [es_]; clear es_; first | (go_simp; done) | (go_simp; rfl))
            done
           refine hK.out _ _ ?_
           clear hK K
           refine done_ (done_of HT_.out Z12) ?_
           have n0_ : Aside0 (Kd.N (Kd.slice 5 (Kd.int .u8)) 36 (w78.setCell ⟨go54, (a1 : Int).toNat, none⟩ (v201)) w.heap.size (fun k_ => (w.heap.size ≤ k_) ∧ k_ ≠ gb184 ∧ k_ ≠ gb185 ∧ k_ ≠ gb193) (.slice (some ⟨go54, 0, none⟩) x194001_2.length co74) y203) := ⟨by (with_reducible repeat (first | apply Kd.N_alloc | apply Kd.N_drewN | apply Kd.N_drew)); exact HQ79.out⟩
           have n1_ : Aside0 ((w78.setCell ⟨go54, (a1 : Int).toNat, none⟩ (v201)).heap[gb184]? = some (.cells #[.int .i64 a0_0, .slice A0_1 l0_1.length c0_1] 27 (0, 0))) := ⟨by (with_reducible repeat (first | refine b1 ?_ _ | refine b2 ?_ | refine b3 ?_ _)); refine blk_far ?_ (by have h_ := Kd.N_away HO_194001.out (fun _ hk => by first | exact hk.2.1 | exact hk.1.2.1 | exact hk.1.1.2.1 | exact hk.1.1.1.2.1); intro e_; exact h_ (by rw [e_]; rfl)) _; exact bup BK184.out⟩
           have n2_ : Aside0 ((w78.setCell ⟨go54, (a1 : Int).toNat, none⟩ (v201)).heap[gb185]? = some (.cells #[.int .i64 0, .slice none 0 0] 27 (0, 0))) := ⟨by (with_reducible repeat (first | refine b1 ?_ _ | refine b2 ?_ | refine b3 ?_ _)); refine blk_far ?_ (by have h_ := Kd.N_away HO_194001.out (fun _ hk => by first | exact hk.2.2.1 | exact hk.1.2.2.1 | exact hk.1.1.2.2.1 | exact hk.1.1.1.2.2.1); intro e_; exact h_ (by rw [e_]; rfl)) _; exact bup BK185.out⟩
           have n3_ : Aside0 ((w78.setCell ⟨go54, (a1 : Int).toNat, none⟩ (v201)).heap[gb193]? = some (.cells #[.int .i64 t189, .slice (some ⟨go54, 0, none⟩) x194001_2.length co74] 27 (0, 0))) := ⟨by (with_reducible repeat (first | refine b1 ?_ _ | refine b2 ?_ | refine b3 ?_ _)); refine blk_far ?_ (by have h_ := Kd.N_away HO_194001.out (fun _ hk => by first | exact hk.2.2.2 | exact hk.1.2.2.2 | exact hk.1.1.2.2.2 | exact hk.1.1.1.2.2.2); intro e_; exact h_ (by rw [e_]; rfl)) _; exact bup BK193.out⟩
           have n4_ : Aside0 (Below w.heap.size w (w78.setCell ⟨go54, (a1 : Int).toNat, none⟩ (v201))) := ⟨by with_reducible repeat (first | exact HB.out | refine h4 ?_ GB54.out | refine h4 ?_ GE184.out | refine h4 ?_ GE185.out | refine h4 ?_ GE193.out | apply h1 | apply h2 | apply h3)⟩
           (try clear HO_194001)
           (try clear BK184)
           (try clear BK185)
           (try clear BK193)
           (try clear HB)
           generalize (w78.setCell ⟨go54, (a1 : Int).toNat, none⟩ (v201)) = w80 at n0_ n1_ n2_ n3_ n4_ ⊢
           have HO_194001 := n0_
           have BK184 := n1_
           have BK185 := n2_
           have BK193 := n3_
           have HB := n4_
           clear n0_ n1_ n2_ n3_ n4_
           obtain ⟨hcz81_0, hcz81_1⟩ := blk_cells2 BK193.out
           obtain ⟨hfz81_0, hfz81_1⟩ := blk_frozens2 BK193.out
           try go_wp2_with (first | ((with_reducible refine gate_callee (f := 12) rfl ?_); refine goesL_ (some 57) rfl rfl Try.func12 Z12 rfl #[.agg #[.int .i64 a3, .slice (some ⟨go54, 0, none⟩) y203.length co74]] rfl (by (try simp only [List.map_toArray, List.map_cons, List.map_nil]); first | done | (rw [show y203.length = x194001_2.length from (Kd.N_reads' HO_194001.out).1.symm] <;> rfl) | rfl | (simp only [List.length_drop, List.length_take]; rfl)) ?_; (with_reducible refine (spec_PageUsed.calls k2 a3 _ _ y203 t204 _ ?side1 ?side2 A55.out).mono ?_); (case side1 => refine (Kd.N_reads' (e := 36) (base := w.heap.size) (ok := fun k_ => ((w.heap.size ≤ k_) ∧ (k_ ≠ gb184 ∧ (k_ ≠ gb185 ∧ k_ ≠ gb193)))) (n := x194001_2.length) (c := co74) ?_).2.2; exact Z53); (case side2 => rw [show y203.length = x194001_2.length from (Kd.N_reads' HO_194001.out).1.symm]; exact (Kd.N_reads' HO_194001.out).2.1); rintro e w82 ⟨rfl, hb⟩; refine ⟨_, rfl, ?_⟩; have n0_ := ZA (Kd.N_below Z53 hb); have n1_ := ZA (blk_below (g := gb184) (o := .cells #[.int .i64 a0_0, .slice A0_1 l0_1.length c0_1] 27 (0, 0)) (bput BK184.out) hb); have n2_ := ZA (blk_below (g := gb185) (o := .cells #[.int .i64 0, .slice none 0 0] 27 (0, 0)) (bput BK185.out) hb); have n3_ := ZA (blk_below (g := gb193) (o := .cells #[.int .i64 a3, .slice (some ⟨go54, 0, none⟩) x194001_2.length co74] 27 (0, 0)) (bput BK193.out) hb); have n4_ := ZA (below_step (hset HB.out) hb); clear HO_194001 BK184 BK185 BK193 HB; have HO_194001 := n0_; have BK184 := n1_; have BK185 := n2_; have BK193 := n3_; have HB := n4_; clear n0_ n1_ n2_ n3_ n4_; (try clear hb); (try clear hb2); (try clear hk); (try clear hi); obtain ⟨hcz83_0, hcz83_1⟩ := blk_cells2 BK193.out; obtain ⟨hfz83_0, hfz83_1⟩ := blk_frozens2 BK193.out; have hnb84 := NB185_184.out; have hnc84 := NB184_185.out; obtain ⟨hcz85_0, hcz85_1⟩ := blk_cells2 BK185.out; obtain ⟨hfz85_0, hfz85_1⟩ := blk_frozens2 BK185.out))
           refine bodyPost_ret (results_ct rfl _ _ gb185 27 #[.int .i64 a3, .slice (some ⟨go54, 0, none⟩) x194001_2.length co74] (0, 0) _ rfl (bput BK185.out) Try.underlying27 rfl Z12) rfl ?_
           exact ⟨_, by first | rfl | (simp [errW_none, errW_some] <;> rfl) | (simp [*, errW_none, errW_some] <;> rfl), by (with_reducible repeat (first | apply Kd.N_alloc | apply Kd.N_drewN | apply Kd.N_drew)); exact Kd.N_mono (Kd.N_far (p := ⟨gb185, 1, none⟩) (Kd.N_far (p := ⟨gb185, 0, none⟩) (Kd.N_mono HO_194001.out (fun k_ hk => (⟨hk, hk.2.2.1⟩ : _ ∧ k_ ≠ gb185))) (fun _ hk => hk.2) (.int .i64 a3)) (fun _ hk => hk.2) (.slice (some ⟨go54, 0, none⟩) x194001_2.length co74)) (fun _ hk => hk.1.1), hset HB.out⟩
         ·rw [if_neg c53] at H
          exact absurd H Z44
        ·rw [if_neg c52] at H
         exact absurd H Z44
       ·rw [if_neg c51] at H
        exact absurd H Z44
def spec_l1Byte.f (s0_0 : List Int) (s0_1 : Int) (s0_2 : Int) : Option (Int × Int × Int) := if s0_1 < (s0_0.length : Int) then (if 0 ≤ s0_1 then (some (Go.bits .and .i64 (wrap64 ((Go.bits .and .i64 (Go.bits .xor .i64 ((wrap64 ((wrap64 (s0_2 * 6364136223846793005)) + 1442695040888963407)) / 8589934592) ((wrap64 ((wrap64 (s0_2 * 6364136223846793005)) + 1442695040888963407)) / 35184372088832)) 255) + (wrap64 (rd s0_0 s0_1)))) 255, wrap64 (s0_1 + 1), wrap64 ((wrap64 (s0_2 * 6364136223846793005)) + 1442695040888963407))) else (none)) else (some (Go.bits .and .i64 (Go.bits .xor .i64 ((wrap64 ((wrap64 (s0_2 * 6364136223846793005)) + 1442695040888963407)) / 8589934592) ((wrap64 ((wrap64 (s0_2 * 6364136223846793005)) + 1442695040888963407)) / 35184372088832)) 255, s0_1, wrap64 ((wrap64 (s0_2 * 6364136223846793005)) + 1442695040888963407)))
set_option maxHeartbeats 8000000 in
set_option maxRecDepth 100000 in
theorem spec_l1Byte.calls (g : Nat) (s0_0 : List Int) (s0_1 : Int) (s0_2 : Int) (r1 : Int) (r2 : Int) (r3 : Int) (w0 w : World) (hI : IsS82 w0 w g s0_0 s0_1 s0_2) (hB : Below w0.heap.size w0 w) (h : spec_l1Byte.f s0_0 s0_1 s0_2 = some (r1, r2, r3)) :
    Calls Try.prog 73 #[.pointer (some ⟨g, 0, none⟩)] w fun e w' => e = .returned (.int .i64 r1) ∧ IsS82 w0 w' g s0_0 r2 r3 ∧ Below w0.heap.size w0 w' ∧ KeepBut w w' g none := by
  have HI0 := ZA hI
  have HK := ZA (KeepBut.refl w g none)
  have HL := ZA hB.size
  clear hI
  have HW0 := ZA hB.size
  have HB := ZA hB
  clear hB
  have H := h
  clear h
  unfold spec_l1Byte.f at H
  by_cases c2 : s0_1 < (s0_0.length : Int)
  · rw [if_pos c2] at H
    have c2b0 : decide (s0_1 < (s0_0.length : Int)) = true := decide_eq_true c2
    clear c2
    by_cases c3 : 0 ≤ s0_1
    · rw [if_pos c3] at H
      have c3b0 : decide (0 ≤ s0_1) = true := decide_eq_true c3
      clear c3
      simp only [Option.some.injEq, Prod.mk.injEq] at H
      obtain ⟨rfl, rfl, rfl⟩ := H
      obtain ⟨ASz4_0, cSz4_0, HGz4, hgz4, HSz4_0⟩ := HI0.out
      have hcz4_0 := cellS82_0 HGz4
      have hcz4_1 := cellS82_1 HGz4
      have hcz4_2 := cellS82_2 HGz4
      have hfz4_1 := blk_frozen HGz4 1
      have hfz4_2 := blk_frozen HGz4 2
      clear HGz4 hgz4
      have p205 : 0 ≤ (s0_1 : Int) := of_decide_eq_true Z10
      have q205 : s0_1 < (s0_0.length : Int) := of_decide_eq_true Z10
      obtain ⟨ad205, e205, hx205_0⟩ := Kd.at_int HSz4_0 s0_1 p205 q205
      cases e205
      have hn205_0 : ad205.block ≠ g := Nat.ne_of_lt (Nat.lt_of_lt_of_le (by have := World.block_lt_of_cell? _ _ hx205_0; first | rwa [add_block] at this | exact this) (IsS82.ge HI0.out))
      replace hx205_0 := pw_cell_below HB.out hx205_0
      replace hx205_0 := (cell_far (p := ⟨g, 2, none⟩) (by first | (rw [add_block]; exact hn205_0) | (show (Addr.add _ _).block ≠ _; rw [add_block]; exact hn205_0) | exact hn205_0) (.int .i64 (wrap64 ((wrap64 (s0_2 * 6364136223846793005)) + 1442695040888963407)))).trans hx205_0
      (try have hy205_0 := fun (n_ : Nat) => (show (((w.drewN n_).setCell ⟨g, 2, none⟩ (.int .i64 (wrap64 ((wrap64 (s0_2 * 6364136223846793005)) + 1442695040888963407))))).cell? _ = some _ from hx205_0))
      clear hn205_0
      replace p205 := eq_true p205
      replace q205 := eq_true q205
      go_enter Try.func73, Try.ntmps73
      go_wp2
      repeat (go_quiet (fail); try go_wp2)
      go_ret
      exact ⟨by first | rfl | (simp [errW_none, errW_some] <;> rfl) | (simp [*, errW_none, errW_some] <;> rfl), Z4, Z15, Z13⟩
    · rw [if_neg c3] at H
      exact absurd H Z44
  · rw [if_neg c2] at H
    have c2b0 : decide (s0_1 < (s0_0.length : Int)) = false := decide_eq_false c2
    clear c2
    simp only [Option.some.injEq, Prod.mk.injEq] at H
    obtain ⟨rfl, rfl, rfl⟩ := H
    obtain ⟨ASz5_0, cSz5_0, HGz5, hgz5, HSz5_0⟩ := HI0.out
    have hcz5_0 := cellS82_0 HGz5
    have hcz5_1 := cellS82_1 HGz5
    have hcz5_2 := cellS82_2 HGz5
    have hfz5_1 := blk_frozen HGz5 1
    have hfz5_2 := blk_frozen HGz5 2
    clear HGz5 hgz5
    go_enter Try.func73, Try.ntmps73
    go_wp2
    repeat (go_quiet (fail); try go_wp2)
    go_ret
    exact ⟨by first | rfl | (simp [errW_none, errW_some] <;> rfl) | (simp [*, errW_none, errW_some] <;> rfl), Z4, Z15, Z13⟩
end Go.Proofs.Ytokpniagnbaflaa.PFnPlaces
