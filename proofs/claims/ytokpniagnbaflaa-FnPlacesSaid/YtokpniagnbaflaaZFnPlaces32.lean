import Derived.Test.YtokpniagnbaflaaZFnPlaces29
import Derived.Test.YtokpniagnbaflaaZFnPlacesA
import Derived.Test.YtokpniagnbaflaaZFnPlaces30
import Derived.Test.YtokpniagnbaflaaZFnPlaces31
namespace Go.Proofs.Ytokpniagnbaflaa.PFnPlaces
open Go.RowKit Go.Proofs.YtokpniagnbaflaaW.PrintWords Go.Proofs.YtokpniagnbaflaaW.PrintLast Go.Proofs.YtokpniagnbaflaaW.PrintMore
attribute [local go_sem] max2_int min2_int max_two min_two max_three min_three max_four min_four   -- for this text's walks alone
attribute [local go_sem high] fl_eql fl_neq fl_lss fl_leq fl_gtr fl_geq fl_add fl_sub fl_mul fl_quo fl_neg fl_ofInt fl_toInt fl_store sub_sign fl_nan_quo fl_nan_add fl_nan_mul fl_nan_sub
open Go.Proofs.YtokpniagnbaflaaW.PrintWords renaming below_alloc → h1, pw_below_drewN → h2, below_drew1 → h3, below_set → h4, blk_drewN → b1, blk_drew → b2, blk_alloc → b3
set_option linter.unusedVariables false
set_option linter.unusedSimpArgs false
mutual
def impl_PagePut.j0 : Nat → Int → List Int → Int → Bool → Int → List (List Int) → Option (Int × (List (List Int)) × Bool)
 | 0, _, _, _, _, _, _ => none
 | k + 1, x1, x2, x3, x28, x133000, x133001 => if x28 = true then (some (0, ([] : List (List Int)), false)) else ((impl_Page_slots.f k x133000 x133001).bind fun t137 => (impl_PagePut.l0 k x1 x2 x3 t137))
def impl_PagePut.l0 : Nat → Int → List Int → Int → List (List Int) → Option (Int × (List (List Int)) × Bool)
 | 0, _, _, _, _ => none
 | k + 1, x1, x2, x141000, x141001 => if (x141001.length : Int) ≤ x1 then (if x141001.length < 5864062014805 then (impl_PagePut.l0 k x1 x2 x141000 (x141001 ++ [[]])) else (none)) else ((slices_Clone_byte_byte.f x2).bind fun t144 => (if 0 ≤ x1 then (if x1 < (x141001.length : Int) then ((some (x141001.set (x1 : Int).toNat t144 : List (List Int))).bind fun y147 => ((impl_PageUsed.f k x141000 y147).bind fun t148 => (if t148 < 0 then (some (0, ([] : List (List Int)), false)) else (some (x141000, y147, true))))) else (none)) else (none)))
end
def impl_PagePut.f (k : Nat) (a0_0 : Int) (l0_1 : List (List Int)) (a1 : Int) (l2 : List Int) (a3 : Int) : Option (Int × (List (List Int)) × Bool) := (impl_PageUsed.f k a0_0 l0_1).bind fun t134 => (if t134 < 0 then (impl_PagePut.j0 k a1 l2 a3 true a0_0 l0_1) else ((impl_isSlot.f a1).bind fun t135 => (if t135 = true then (if (l2.length : Int) = 0 then (impl_PagePut.j0 k a1 l2 a3 true a0_0 l0_1) else ((impl_isLsn.f a3).bind fun t136 => (impl_PagePut.j0 k a1 l2 a3 (!t136) a0_0 l0_1))) else (impl_PagePut.j0 k a1 l2 a3 true a0_0 l0_1))))
theorem impl_PagePut.mono_l : ∀ k, (∀ y0 y1 y2 y3 y4 y5, LeO (impl_PagePut.j0 k y0 y1 y2 y3 y4 y5) (impl_PagePut.j0 (k + 1) y0 y1 y2 y3 y4 y5)) ∧ (∀ y0 y1 y2 y3, LeO (impl_PagePut.l0 k y0 y1 y2 y3) (impl_PagePut.l0 (k + 1) y0 y1 y2 y3))
 | 0 => ⟨fun _ _ _ _ _ _ r h => by simp [impl_PagePut.j0] at h, fun _ _ _ _ r h => by simp [impl_PagePut.l0] at h⟩
 | k + 1 => by
  obtain ⟨ih0, ih1⟩ := impl_PagePut.mono_l k
  refine ⟨?_, ?_⟩
  ·intro y0 y1 y2 y3 y4 y5
   unfold impl_PagePut.j0
   repeat' with_reducible first | exact ih0 _ _ _ _ _ _ | exact ih1 _ _ _ _ | exact impl_PageUsed.mono _ _ _ | exact impl_Page_slots.mono _ _ _ | exact LeO.refl _ | exact LeO.none _ | refine LeO.ite ?_ ?_ | refine LeO.bind ?_ (fun _ => ?_)
  ·intro y0 y1 y2 y3
   unfold impl_PagePut.l0
   repeat' with_reducible first | exact ih0 _ _ _ _ _ _ | exact ih1 _ _ _ _ | exact impl_PageUsed.mono _ _ _ | exact impl_Page_slots.mono _ _ _ | exact LeO.refl _ | exact LeO.none _ | refine LeO.ite ?_ ?_ | refine LeO.bind ?_ (fun _ => ?_)
theorem impl_PagePut.mono : ∀ a0 a1 a2 a3 a4 k, LeO (impl_PagePut.f k a0 a1 a2 a3 a4) (impl_PagePut.f (k + 1) a0 a1 a2 a3 a4) := by
 intro a0 a1 a2 a3 a4 k
 obtain ⟨ih0, ih1⟩ := impl_PagePut.mono_l k
 unfold impl_PagePut.f
 repeat' with_reducible first | exact ih0 _ _ _ _ _ _ | exact ih1 _ _ _ _ | exact impl_PageUsed.mono _ _ _ | exact impl_Page_slots.mono _ _ _ | exact LeO.refl _ | exact LeO.none _ | refine LeO.ite ?_ ?_ | refine LeO.bind ?_ (fun _ => ?_)
set_option maxHeartbeats 8000000 in
set_option maxRecDepth 100000 in
theorem impl_PagePut.calls (k : Nat) (a0_0 : Int) (A0_1 : Option Addr) (c0_1 : Nat) (l0_1 : List (List Int)) (a1 : Int) (A2 : Option Addr) (c2 : Nat) (l2 : List Int) (a3 : Int) (r1 : Int) (r2 : List (List Int)) (r3 : Bool) (w : World) (hr0_1 : Kd.C (Kd.slice 5 (Kd.int .u8)) w A0_1 l0_1.length l0_1) (hc0_1 : l0_1.length ≤ c0_1) (hr2 : Kd.C (Kd.int .u8) w A2 l2.length l2) (hc2 : l2.length ≤ c2) (h : impl_PagePut.f k a0_0 l0_1 a1 l2 a3 = some (r1, r2, r3)) :
  Calls Try.prog 24 #[.agg #[.int .i64 a0_0, .slice A0_1 l0_1.length c0_1], .int .i64 a1, .slice A2 l2.length c2, .int .i64 a3] w fun e w' => ∃ v1_ : Value, e = .returned (.tuple #[.agg #[.int .i64 r1, v1_], .bool r3]) ∧ Kd.S (Kd.slice 5 (Kd.int .u8)) 36 w' w.heap.size (fun _ => True) v1_ r2 ∧ Below w.heap.size w w' := by
 have hu27 := Try.underlying27
 have HR0_1 := ZA hr0_1
 have HC0_1 := ZA hc0_1
 clear hr0_1 hc0_1
 have HR2 := ZA hr2
 have HC2 := ZA hc2
 clear hr2 hc2
 have HB := ZA (Below.refl w.heap.size w)
 have H := h
 clear h
 unfold impl_PagePut.f at H
 have HC5 := ZA H
 clear H
 go_enter Try.func24, Try.ntmps24
 go_upto_region 1 with (first | ((with_reducible refine gate_dst (N := 4) rfl ?_); (try (refine gate_guard Z94 ?_; dsimp only)); refine box_event ?hg (N := 4) ?hd (cs := #[.int .i64 a0_0, .slice A0_1 l0_1.length c0_1]) (t := 27) ?hr ?_; (case hd => rfl); (case hg => rfl); (case hr => first | (go_simp; done) | (go_simp; rfl)); intro gb132 hg w6 hbox hb; have n0_ := ZA (below_step (hup HB.out) hb); have n1_ := ZA (hbox); have n2_ := Geq.mk ((Z28 : w.heap.size ≤ gb132)); have n3_ := Geq.mk ((Z28 : w.heap.size ≤ gb132)); clear HB; have HB := n0_; have BK132 := n1_; have GW132 := n2_; have GE132 := n3_; clear n0_ n1_ n2_ n3_ hb hbox hg) | ((with_reducible refine gate_dst (N := 8) rfl ?_); (try (refine gate_guard Z94 ?_; dsimp only)); refine box_event ?hg (N := 8) ?hd (cs := #[.int .i64 0, .slice none 0 0]) (t := 27) ?hr ?_; (case hd => rfl); (case hg => rfl); (case hr => first | (go_simp; done) | (go_simp; rfl)); intro gb133 hg w7 hbox hb; have n0_ := ZA (blk_below (bup BK132.out) hb); have n1_ := ZA (below_step (hset HB.out) hb); have n2_ := ZA (hbox); have n3_ := Geq.mk ((Z34 : w.heap.size ≤ gb133)); have n4_ := Geq.mk ((Z34 : w.heap.size ≤ gb133)); have n5_ := Neq.mk ((by rw [hg]; exact Nat.ne_of_lt (blk_lt (g := gb132) (o := .cells #[.int .i64 a0_0, .slice A0_1 l0_1.length c0_1] 27 (0, 0)) (bup BK132.out)) : gb132 ≠ gb133)); have n6_ := Neq.mk ((by rw [hg]; exact Nat.ne_of_gt (blk_lt (g := gb132) (o := .cells #[.int .i64 a0_0, .slice A0_1 l0_1.length c0_1] 27 (0, 0)) (bup BK132.out)) : gb133 ≠ gb132)); clear BK132 HB; have BK132 := n0_; have HB := n1_; have BK133 := n2_; have GW133 := n3_; have GE133 := n4_; have NB132_133 := n5_; have NB133_132 := n6_; clear n0_ n1_ n2_ n3_ n4_ n5_ n6_ hb hbox hg))
 (try simp only [Act.put, List.setIfInBounds_toArray, List.set_cons_zero, List.set_cons_succ])
 go_cut [28] (fun v28 wc => ∃ (kq : Nat) (x28_4 : Bool), v28 = .bool x28_4 ∧ Aside0 (impl_PagePut.j0 kq a1 l2 a3 x28_4 a0_0 l0_1 = some (r1, r2, r3)) ∧ Aside0 (kq ≤ k) ∧ Aside0 (wc.heap[gb132]? = some (.cells #[.int .i64 a0_0, (.slice A0_1 l0_1.length c0_1)] 27 (0, 0))) ∧ Aside0 (wc.heap[gb133]? = some (.cells #[.int .i64 0, (.slice none 0 0)] 27 (0, 0))) ∧ Aside0 (Below w.heap.size w wc))
 case first =>
  have H := HC5.out
  clear HC5
  replace H := Option.bind_eq_some_iff.mp H
  obtain ⟨t134, A80, H⟩ := H
  (try dsimp only at H)
  have A8 := ZA A80
  clear A80
  by_cases c9 : t134 < 0
  ·rw [if_pos c9] at H
   have c9b0 : decide (t134 < 0) = true := decide_eq_true c9
   clear c9
   (first | rw [c9b0] | (simp only [i64_w, i32_w]; rw [c9b0]) | skip)
   have H' := ZA H
   clear H
   have hnb10 := NB132_133.out
   have hnc10 := NB133_132.out
   obtain ⟨hcz11_0, hcz11_1⟩ := blk_cells2 BK132.out
   obtain ⟨hfz11_0, hfz11_1⟩ := blk_frozens2 BK132.out
   go_wp2_with (first | ((with_reducible refine gate_callee (f := 14) rfl ?_); refine goesL_ (some 12) rfl rfl Try.func14 Z12 rfl #[.agg #[.int .i64 a0_0, .slice A0_1 l0_1.length c0_1]] rfl Z1 ?_; (with_reducible refine (impl_PageUsed.calls k a0_0 _ _ l0_1 t134 _ ?side1 ?side2 A8.out).mono ?_); (case side1 => repeat (first | exact (Kd.C_below HR0_1.out HB.out) | (with_reducible refine Kd.C_alloc ?_ _) | (with_reducible refine Kd.C_drewN ?_ _) | (with_reducible refine Kd.C_drew ?_))); (case side2 => exact HC0_1.out); rintro e w12 ⟨rfl, hb⟩; refine ⟨_, rfl, ?_⟩; have n0_ := ZA (blk_below (bup BK132.out) hb); have n1_ := ZA (blk_below (bup BK133.out) hb); have n2_ := ZA (below_step (hset HB.out) hb); clear BK132 BK133 HB; have BK132 := n0_; have BK133 := n1_; have HB := n2_; clear n0_ n1_ n2_; (try clear hb); (try clear hb2); (try clear hk); (try clear hi)))
   go_meet
   case rel => exact ⟨_, (true), Z7, H', ⟨by first | omega | exact Nat.le_refl _⟩, ⟨by exact bup BK132.out⟩, ⟨by exact bup BK133.out⟩, ⟨hset HB.out⟩⟩
  ·rw [if_neg c9] at H
   have c9b0 : decide (t134 < 0) = false := decide_eq_false c9
   clear c9
   (first | rw [c9b0] | (simp only [i64_w, i32_w]; rw [c9b0]) | skip)
   replace H := Option.bind_eq_some_iff.mp H
   obtain ⟨t135, A130, H⟩ := H
   (try dsimp only at H)
   have A13 := ZA A130
   clear A130
   by_cases c14 : t135 = true
   ·subst c14
    rw [if_pos rfl] at H
    (try dsimp only at H)
    by_cases c15 : (l2.length : Int) = 0
    ·rw [if_pos c15] at H
     have c15b0 : ((l2.length : Int) == 0) = true := beq_iff_eq.mpr c15
     have c15b1 : ((l2.length : Int) != 0) = false := bne_eq_false_iff_eq.mpr c15
     clear c15
     have H' := ZA H
     clear H
     have hnb16 := NB132_133.out
     have hnc16 := NB133_132.out
     obtain ⟨hcz17_0, hcz17_1⟩ := blk_cells2 BK132.out
     obtain ⟨hfz17_0, hfz17_1⟩ := blk_frozens2 BK132.out
     go_wp2_with (first | ((with_reducible refine gate_callee (f := 14) rfl ?_); refine goesL_ (some 12) rfl rfl Try.func14 Z12 rfl #[.agg #[.int .i64 a0_0, .slice A0_1 l0_1.length c0_1]] rfl Z1 ?_; (with_reducible refine (impl_PageUsed.calls k a0_0 _ _ l0_1 t134 _ ?side1 ?side2 A8.out).mono ?_); (case side1 => repeat (first | exact (Kd.C_below HR0_1.out HB.out) | (with_reducible refine Kd.C_alloc ?_ _) | (with_reducible refine Kd.C_drewN ?_ _) | (with_reducible refine Kd.C_drew ?_))); (case side2 => exact HC0_1.out); rintro e w18 ⟨rfl, hb⟩; refine ⟨_, rfl, ?_⟩; have n0_ := ZA (blk_below (bup BK132.out) hb); have n1_ := ZA (blk_below (bup BK133.out) hb); have n2_ := ZA (below_step (hset HB.out) hb); clear BK132 BK133 HB; have BK132 := n0_; have BK133 := n1_; have HB := n2_; clear n0_ n1_ n2_; (try clear hb); (try clear hb2); (try clear hk); (try clear hi)) | (go_at_call 48; (with_reducible refine (impl_isSlot.calls a1 true _ A13.out).mono ?_); rintro e w' ⟨rfl, ⟨nd, rfl⟩⟩))
     go_meet
     case rel => exact ⟨_, (true), Z7, H', ⟨by first | omega | exact Nat.le_refl _⟩, ⟨by exact bup BK132.out⟩, ⟨by exact bup BK133.out⟩, ⟨hset HB.out⟩⟩
    ·rw [if_neg c15] at H
     have c15b0 : ((l2.length : Int) == 0) = false := beq_eq_false_iff_ne.mpr c15
     have c15b1 : ((l2.length : Int) != 0) = true := bne_iff_ne.mpr c15
     have c15b2 : ¬ (l2 = []) := fun h_ => c15 (by rw [h_]; rfl)
     replace H := Option.bind_eq_some_iff.mp H
     obtain ⟨t136, A190, H⟩ := H
     (try dsimp only at H)
     have A19 := ZA A190
     clear A190
     have H' := ZA H
     clear H
     have hnb20 := NB132_133.out
     have hnc20 := NB133_132.out
     obtain ⟨hcz21_0, hcz21_1⟩ := blk_cells2 BK132.out
     obtain ⟨hfz21_0, hfz21_1⟩ := blk_frozens2 BK132.out
     go_wp2_with (first | ((with_reducible refine gate_callee (f := 14) rfl ?_); refine goesL_ (some 12) rfl rfl Try.func14 Z12 rfl #[.agg #[.int .i64 a0_0, .slice A0_1 l0_1.length c0_1]] rfl Z1 ?_; (with_reducible refine (impl_PageUsed.calls k a0_0 _ _ l0_1 t134 _ ?side1 ?side2 A8.out).mono ?_); (case side1 => repeat (first | exact (Kd.C_below HR0_1.out HB.out) | (with_reducible refine Kd.C_alloc ?_ _) | (with_reducible refine Kd.C_drewN ?_ _) | (with_reducible refine Kd.C_drew ?_))); (case side2 => exact HC0_1.out); rintro e w22 ⟨rfl, hb⟩; refine ⟨_, rfl, ?_⟩; have n0_ := ZA (blk_below (bup BK132.out) hb); have n1_ := ZA (blk_below (bup BK133.out) hb); have n2_ := ZA (below_step (hset HB.out) hb); clear BK132 BK133 HB; have BK132 := n0_; have BK133 := n1_; have HB := n2_; clear n0_ n1_ n2_; (try clear hb); (try clear hb2); (try clear hk); (try clear hi)) | (go_at_call 48; (with_reducible refine (impl_isSlot.calls a1 true _ A13.out).mono ?_); rintro e w' ⟨rfl, ⟨nd, rfl⟩⟩) | (go_at_call 44; (with_reducible refine (impl_isLsn.calls a3 t136 _ A19.out).mono ?_); rintro e w' ⟨rfl, ⟨nd, rfl⟩⟩))
     go_meet
     case rel => exact ⟨_, (!t136), Z7, H', ⟨by first | omega | exact Nat.le_refl _⟩, ⟨by exact bup BK132.out⟩, ⟨by exact bup BK133.out⟩, ⟨hset HB.out⟩⟩
   ·replace c14 := Bool.eq_false_iff.mpr c14
    subst c14
    rw [if_neg (show ¬ (false = true) by decide)] at H
    (try dsimp only at H)
    have H' := ZA H
    clear H
    have hnb23 := NB132_133.out
    have hnc23 := NB133_132.out
    obtain ⟨hcz24_0, hcz24_1⟩ := blk_cells2 BK132.out
    obtain ⟨hfz24_0, hfz24_1⟩ := blk_frozens2 BK132.out
    go_wp2_with (first | ((with_reducible refine gate_callee (f := 14) rfl ?_); refine goesL_ (some 12) rfl rfl Try.func14 Z12 rfl #[.agg #[.int .i64 a0_0, .slice A0_1 l0_1.length c0_1]] rfl Z1 ?_; (with_reducible refine (impl_PageUsed.calls k a0_0 _ _ l0_1 t134 _ ?side1 ?side2 A8.out).mono ?_); (case side1 => repeat (first | exact (Kd.C_below HR0_1.out HB.out) | (with_reducible refine Kd.C_alloc ?_ _) | (with_reducible refine Kd.C_drewN ?_ _) | (with_reducible refine Kd.C_drew ?_))); (case side2 => exact HC0_1.out); rintro e w25 ⟨rfl, hb⟩; refine ⟨_, rfl, ?_⟩; have n0_ := ZA (blk_below (bup BK132.out) hb); have n1_ := ZA (blk_below (bup BK133.out) hb); have n2_ := ZA (below_step (hset HB.out) hb); clear BK132 BK133 HB; have BK132 := n0_; have BK133 := n1_; have HB := n2_; clear n0_ n1_ n2_; (try clear hb); (try clear hb2); (try clear hk); (try clear hi)) | (go_at_call 48; (with_reducible refine (impl_isSlot.calls a1 false _ A13.out).mono ?_); rintro e w' ⟨rfl, ⟨nd, rfl⟩⟩))
    go_meet
    case rel => exact ⟨_, (true), Z7, H', ⟨by first | omega | exact Nat.le_refl _⟩, ⟨by exact bup BK132.out⟩, ⟨by exact bup BK133.out⟩, ⟨hset HB.out⟩⟩
 case rest =>
  clear HC5
  try clear c1
  try clear c2
  try clear p2
  try clear c9
  try clear c9b0
  try clear c10
  try clear c14
  try clear c15
  try clear c15b0
  try clear c15b1
  try clear c15b2
  try clear c16
  try clear c20
  try clear c23
  try clear c24
  try clear hcz11_0
  try clear hcz11_1
  try clear hcz17_0
  try clear hcz17_1
  try clear hcz21_0
  try clear hcz21_1
  try clear hcz24_0
  try clear hcz24_1
  try clear hfz11_0
  try clear hfz11_1
  try clear hfz17_0
  try clear hfz17_1
  try clear hfz21_0
  try clear hfz21_1
  try clear hfz24_0
  try clear hfz24_1
  obtain ⟨kq, x28_4, rfl, HA, HJ4, BK132, BK133, HB⟩ := hcut
  cases kq with
  | zero => exact absurd HA.out (by simp [impl_PagePut.j0])
  | succ kj4 =>
   have H := HA.out
   clear HA
   simp only [impl_PagePut.j0] at H
   by_cases c26 : x28_4 = true
   ·subst c26
    rw [if_pos rfl] at H
    (try dsimp only at H)
    simp only [Option.some.injEq, Prod.mk.injEq] at H
    obtain ⟨rfl, rfl, rfl⟩ := H
    have hnb27 := NB133_132.out
    have hnc27 := NB132_133.out
    obtain ⟨hcz28_0, hcz28_1⟩ := blk_cells2 BK133.out
    obtain ⟨hfz28_0, hfz28_1⟩ := blk_frozens2 BK133.out
    go_wp2
    refine bodyPost_ret (results_ct rfl _ _ gb133 27 #[.int .i64 0, .slice none 0 0] (0, 0) _ rfl (bput BK133.out) Try.underlying27 rfl Z12) rfl ?_
    exact ⟨_, by first | rfl | (simp [errW_none, errW_some] <;> rfl) | (simp [*, errW_none, errW_some] <;> rfl), by first | exact Kd.S_nil _ _ _ _ _ | exact Kd.N_nil _ _ _ _ _ | exact Kd.V_nil _ _ _ _ _ | exact Kd.Q_nil _ _ _ _ _ | exact Kd.R_nil _ _ _ _ _, hset HB.out⟩
   ·replace c26 := Bool.eq_false_iff.mpr c26
    subst c26
    rw [if_neg (show ¬ (false = true) by decide)] at H
    (try dsimp only at H)
    replace H := Option.bind_eq_some_iff.mp H
    obtain ⟨t137, A290, H⟩ := H
    (try dsimp only at H)
    have A29 := ZA A290
    clear A290
    have H' := ZA H
    clear H
    have hnb30 := NB132_133.out
    have hnc30 := NB133_132.out
    obtain ⟨hcz31_0, hcz31_1⟩ := blk_cells2 BK132.out
    obtain ⟨hfz31_0, hfz31_1⟩ := blk_frozens2 BK132.out
    go_wp2_with (first | ((with_reducible refine gate_callee (f := 45) rfl ?_); refine goesL_ (some 32) rfl rfl Try.func45 Z12 rfl #[.agg #[.int .i64 a0_0, .slice A0_1 l0_1.length c0_1]] rfl Z1 ?_; (with_reducible refine (impl_Page_slots.calls kj4 a0_0 _ _ l0_1 t137 _ ?side1 ?side2 A29.out).mono ?_); (case side1 => repeat (first | exact (Kd.C_below HR0_1.out HB.out) | (with_reducible refine Kd.C_alloc ?_ _) | (with_reducible refine Kd.C_drewN ?_ _) | (with_reducible refine Kd.C_drew ?_))); (case side2 => exact HC0_1.out); rintro e w32 ⟨v138, rfl, ho0, hb⟩; refine ⟨_, rfl, ?_⟩; have n0_ := ZA (Kd.S_lower ho0 (below_size (hset HB.out))); have n1_ := ZA (blk_below (bup BK132.out) hb); have n2_ := ZA (blk_below (bup BK133.out) hb); have n3_ := ZA (below_step (hset HB.out) hb); clear BK132 BK133 HB; have HO139 := n0_; have BK132 := n1_; have BK133 := n2_; have HB := n3_; clear n0_ n1_ n2_ n3_; (try clear hb); (try clear hb2); (try clear hk); (try clear hi); (try clear ho0); obtain ⟨Ao33, co33, eo33⟩ := Kd.S_slice HO139.out; subst eo33) | ((with_reducible refine gate_dst (N := 10) rfl ?_); (try (refine gate_guard Z94 ?_; dsimp only)); refine box_event ?hg (N := 10) ?hd (cs := #[.int .i64 0, .slice none 0 0]) (t := 27) ?hr ?_; (case hd => rfl); (case hg => rfl); (case hr => first | (go_simp; done) | (go_simp; rfl)); intro gb140 hg w34 hbox hb; have n0_ := ZA (Kd.S_below (by (with_reducible repeat (first | apply Kd.S_alloc | apply Kd.S_drewN | apply Kd.S_drew)); exact HO139.out) hb); have n1_ := ZA (blk_below (bup BK132.out) hb); have n2_ := ZA (blk_below (bup BK133.out) hb); have n3_ := ZA (below_step (hset HB.out) hb); have n4_ := ZA (hbox); have n5_ := Geq.mk ((Z34 : w.heap.size ≤ gb140)); have n6_ := Geq.mk ((Z34 : w.heap.size ≤ gb140)); have n7_ := Neq.mk ((by rw [hg]; exact Nat.ne_of_lt (blk_lt (g := gb132) (o := .cells #[.int .i64 a0_0, .slice A0_1 l0_1.length c0_1] 27 (0, 0)) (bup BK132.out)) : gb132 ≠ gb140)); have n8_ := Neq.mk ((by rw [hg]; exact Nat.ne_of_gt (blk_lt (g := gb132) (o := .cells #[.int .i64 a0_0, .slice A0_1 l0_1.length c0_1] 27 (0, 0)) (bup BK132.out)) : gb140 ≠ gb132)); have n9_ := Neq.mk ((by rw [hg]; exact Nat.ne_of_lt (blk_lt (g := gb133) (o := .cells #[.int .i64 0, .slice none 0 0] 27 (0, 0)) (bup BK133.out)) : gb133 ≠ gb140)); have n10_ := Neq.mk ((by rw [hg]; exact Nat.ne_of_gt (blk_lt (g := gb133) (o := .cells #[.int .i64 0, .slice none 0 0] 27 (0, 0)) (bup BK133.out)) : gb140 ≠ gb133)); clear HO139 BK132 BK133 HB; have HO139 := n0_; have BK132 := n1_; have BK133 := n2_; have HB := n3_; have BK140 := n4_; have GW140 := n5_; have GE140 := n6_; have NB132_140 := n7_; have NB140_132 := n8_; have NB133_140 := n9_; have NB140_133 := n10_; clear n0_ n1_ n2_ n3_ n4_ n5_ n6_ n7_ n8_ n9_ n10_ hb hbox hg; have hnb35 := NB140_132.out; have hnc35 := NB132_140.out; have hnb36 := NB140_133.out; have hnc36 := NB133_140.out; obtain ⟨hcz37_0, hcz37_1⟩ := blk_cells2 BK140.out; obtain ⟨hfz37_0, hfz37_1⟩ := blk_frozens2 BK140.out))
    go_loopg [] kj4 (fun kq w' => ∃ (x141001_2 : List (List Int)) (u141001 : Value), Aside0 (impl_PagePut.l0 kq a1 l2 a3 x141001_2 = some (r1, r2, r3)) ∧ Aside0 (kq ≤ kj4) ∧ Aside0 (Kd.S (Kd.slice 5 (Kd.int .u8)) 36 w' w.heap.size (fun _ => True) u141001 x141001_2) ∧ Aside0 (w'.heap[gb132]? = some (.cells #[.int .i64 a0_0, (.slice A0_1 l0_1.length c0_1)] 27 (0, 0))) ∧ Aside0 (w'.heap[gb133]? = some (.cells #[.int .i64 0, (.slice none 0 0)] 27 (0, 0))) ∧ Aside0 (w'.heap[gb140]? = some (.cells #[.int .i64 a3, u141001] 27 (0, 0))) ∧ Aside0 (Below w.heap.size w w'))
    case atStart => exact ⟨(t137), (.slice Ao33 t137.length co33), H', ⟨Nat.le_refl _⟩, ⟨by (with_reducible repeat (first | apply Kd.S_alloc | apply Kd.S_drewN | apply Kd.S_drew)); exact Kd.S_mono (Kd.S_far (p := ⟨gb140, 1, none⟩) (Kd.S_far (p := ⟨gb140, 0, none⟩) (Kd.S_types HO139.out BK140.out Z25) (fun _ hk => hk.2) (.int .i64 a3)) (fun _ hk => hk.2) (.slice Ao33 t137.length co33)) (fun _ hk => trivial)⟩, ⟨bput BK132.out⟩, ⟨bput BK133.out⟩, ⟨bput BK140.out⟩, ⟨hset HB.out⟩⟩
    case round =>
     clear H'
     try clear c1
     try clear c2
     try clear p2
     try clear c3
     try clear c4
     try clear c9
     try clear c9b0
     try clear c10
     try clear c14
     try clear c15
     try clear c15b0
     try clear c15b1
     try clear c15b2
     try clear c16
     try clear c20
     try clear c23
     try clear c24
     try clear c26
     try clear c27
     try clear c30
     try clear c35
     try clear c36
     try clear hcz11_0
     try clear hcz11_1
     try clear hcz17_0
     try clear hcz17_1
     try clear hcz21_0
     try clear hcz21_1
     try clear hcz24_0
     try clear hcz24_1
     try clear hcz28_0
     try clear hcz28_1
     try clear hcz31_0
     try clear hcz31_1
     try clear hcz37_0
     try clear hcz37_1
     try clear hfz11_0
     try clear hfz11_1
     try clear hfz17_0
     try clear hfz17_1
     try clear hfz21_0
     try clear hfz21_1
     try clear hfz24_0
     try clear hfz24_1
     try clear hfz28_0
     try clear hfz28_1
     try clear hfz31_0
     try clear hfz31_1
     try clear hfz37_0
     try clear hfz37_1
     try clear p2
     obtain ⟨x141001_2, u141001, HA, HK2, HO_141001, BK132, BK133, BK140, HB⟩ := hrel
     cases gk with
     | zero => exact absurd HA.out (by simp [impl_PagePut.l0])
     | succ k2 =>
      have H := HA.out
      clear HA
      simp only [impl_PagePut.l0] at H
      by_cases c38 : (x141001_2.length : Int) ≤ a1
      ·rw [if_pos c38] at H
       have c38b0 : decide ((x141001_2.length : Int) ≤ a1) = true := decide_eq_true c38
       clear c38
       by_cases c39 : x141001_2.length < 5864062014805
       ·rw [if_pos c39] at H
        have LMc39 := ZA c39
        clear c39
        obtain ⟨y141, hy141⟩ : ∃ y_ : List (List Int), y_ = (x141001_2 ++ [[]]) := ⟨_, rfl⟩
        replace H : (impl_PagePut.l0 k2 a1 l2 a3 y141) = some (r1, r2, r3) := by first | (rw [hy141]; with_reducible exact H) | (have H2_ := (Option.bind_some _ _).symm.trans H; rw [hy141]; with_reducible exact H2_) | (have H2_ := (Option.bind_some _ _).symm.trans H; with_reducible exact H2_) | with_reducible exact H | (rw [hy141]; exact H) | exact H
        have Ny141 := ZA hy141
        clear hy141
        have H' := ZA H
        clear H
        have hnb40 := NB140_132.out
        have hnc40 := NB132_140.out
        have hnb41 := NB140_133.out
        have hnc41 := NB133_140.out
        obtain ⟨hcz42_0, hcz42_1⟩ := blk_cells2 BK140.out
        obtain ⟨hfz42_0, hfz42_1⟩ := blk_frozens2 BK140.out
        obtain ⟨Ao43, co43, eo43⟩ := Kd.S_slice HO_141001.out
        subst eo43
        go_wp2_with (first | ((with_reducible refine gate_builtin (b := .append) (xs := #[.tmp 40, .tmp 41]) rfl ?_); (try (refine gate_guard Z94 ?_; dsimp only)); at_builtin; refine Kd.S_append (Kd.slice 5 (Kd.int .u8)) (w0 := w) w.heap.size rfl (.tmp 40) (.tmp 41) 22 36 (.slice none 0 0) 24 rfl Try.underlying22 info36 rfl Z25 Z8 (.slice Ao43 x141001_2.length co43) x141001_2 ([] : List Int) [.slice none 0 0] (fun _ => True) (fun _ => False) rfl rfl ?aP (fun k_ hk_ => hk_.elim) ?aF ?aO ?aB ?aS ?aL ?_; (case aP => exact Kd.M_row (Kd.R_nil _ _ _ _ _)); (case aB => exact (hset HB.out)); (case aF => exact (fun _ _ => trivial)); (case aO => exact (by (with_reducible repeat (first | apply Kd.S_alloc | apply Kd.S_drewN | apply Kd.S_drew)); exact Kd.S_mono HO_141001.out (fun k_ hk => ⟨trivial, fun e_ => e_⟩))); (case aS => exact (below_size (hset HB.out))); (case aL => have := LMc39.out; omega); intro v142 w44 ho hb hg hat; rw [← Ny141.out] at ho; have n0_ := ZA (blk_grown (g := gb132) (o := .cells #[.int .i64 a0_0, .slice A0_1 l0_1.length c0_1] 27 (0, 0)) (bup BK132.out) hg (Kd.S_ne HO_141001.out BK132.out Z25)); have n1_ := ZA (blk_grown (g := gb133) (o := .cells #[.int .i64 0, .slice none 0 0] 27 (0, 0)) (bup BK133.out) hg (Kd.S_ne HO_141001.out BK133.out Z25)); have n2_ := ZA (blk_grown (g := gb140) (o := .cells #[.int .i64 a3, .slice Ao43 x141001_2.length co43] 27 (0, 0)) (bup BK140.out) hg (Kd.S_ne HO_141001.out BK140.out Z25)); have n3_ := ZA (hb); have n4_ := ZA (ho); clear BK132 BK133 BK140 HB HO_141001; have BK132 := n0_; have BK133 := n1_; have BK140 := n2_; have HB := n3_; have HO143 := n4_; clear n0_ n1_ n2_ n3_ n4_ ho hb hg hat; obtain ⟨Ao45, co45, eo45⟩ := Kd.S_slice HO143.out; subst eo45; obtain ⟨hcz46_0, hcz46_1⟩ := blk_cells2 BK140.out; obtain ⟨hfz46_0, hfz46_1⟩ := blk_frozens2 BK140.out))
        go_roundg k2
        case measure => have := HJ4.out; have := HK2.out; omega
        case rel => exact ⟨(y141), (.slice Ao45 y141.length co45), H', ⟨by have := HJ4.out; have := HK2.out; omega⟩, ⟨by (with_reducible repeat (first | apply Kd.S_alloc | apply Kd.S_drewN | apply Kd.S_drew)); exact Kd.S_mono (Kd.S_far (p := ⟨gb140, 1, none⟩) (Kd.S_types HO143.out BK140.out Z25) (fun _ hk => hk.2) (.slice Ao45 y141.length co45)) (fun _ hk => trivial)⟩, ⟨bput BK132.out⟩, ⟨bput BK133.out⟩, ⟨bput BK140.out⟩, ⟨hset HB.out⟩⟩
       ·rw [if_neg c39] at H
        exact absurd H Z44
      ·rw [if_neg c38] at H
       have c38b0 : decide ((x141001_2.length : Int) ≤ a1) = false := decide_eq_false c38
       clear c38
       replace H := Option.bind_eq_some_iff.mp H
       obtain ⟨t144, A470, H⟩ := H
       (try dsimp only at H)
       have A47 := ZA A470
       clear A470
       by_cases c48 : 0 ≤ a1
       ·rw [if_pos c48] at H
        have c48b0 : decide (0 ≤ a1) = true := decide_eq_true c48
        clear c48
        by_cases c49 : a1 < (x141001_2.length : Int)
        ·rw [if_pos c49] at H
         have c49b0 : decide (a1 < (x141001_2.length : Int)) = true := decide_eq_true c49
         clear c49
         obtain ⟨y147, hy147⟩ : ∃ y_ : List (List Int), y_ = (x141001_2.set (a1 : Int).toNat t144) := ⟨_, rfl⟩
         replace H : ((impl_PageUsed.f k2 a3 y147).bind fun t148 => (if t148 < 0 then (some (0, ([] : List (List Int)), false)) else (some (a3, y147, true)))) = some (r1, r2, r3) := by first | (rw [hy147]; with_reducible exact H) | (have H2_ := (Option.bind_some _ _).symm.trans H; rw [hy147]; with_reducible exact H2_) | (have H2_ := (Option.bind_some _ _).symm.trans H; with_reducible exact H2_) | with_reducible exact H | (rw [hy147]; exact H) | exact H
         have Ny147 := ZA hy147
         clear hy147
         replace H := Option.bind_eq_some_iff.mp H
         obtain ⟨t148, A510, H⟩ := H
         (try dsimp only at H)
         have A51 := ZA A510
         clear A510
         by_cases c52 : t148 < 0
         ·rw [if_pos c52] at H
          have c52b0 : decide (t148 < 0) = true := decide_eq_true c52
          clear c52
          simp only [Option.some.injEq, Prod.mk.injEq] at H
          obtain ⟨rfl, rfl, rfl⟩ := H
          have hnb53 := NB140_132.out
          have hnc53 := NB132_140.out
          have hnb54 := NB140_133.out
          have hnc54 := NB133_140.out
          obtain ⟨hcz55_0, hcz55_1⟩ := blk_cells2 BK140.out
          obtain ⟨hfz55_0, hfz55_1⟩ := blk_frozens2 BK140.out
          obtain ⟨Ao56, co56, eo56⟩ := Kd.S_slice HO_141001.out
          subst eo56
          try go_wp2
          have n0_ := ZA (Kd.S_drew HO_141001.out)
          have n1_ := ZA (blk_drew BK132.out)
          have n2_ := ZA (blk_drew BK133.out)
          have n3_ := ZA (blk_drew BK140.out)
          have n4_ := ZA (below_drew1 HB.out)
          clear HO_141001 BK132 BK133 BK140 HB
          have HO_141001 := n0_
          have BK132 := n1_
          have BK133 := n2_
          have BK140 := n3_
          have HB := n4_
          clear n0_ n1_ n2_ n3_ n4_
          refine start_ (n := 7) (S := fun w' => w'.cell? ⟨gb140, 0, none⟩ = some (.int .i64 a3) ∧ w'.cell? ⟨gb140, 1, none⟩ = some (.slice Ao56 x141001_2.length co56)) (ds := [6]) #[false, false, false, false, false, false, false] Z12 rfl rfl (blk_cells2 BK140.out) (fun hHeld => ?_)
          generalize wr.drew = wq_ at HO_141001 BK132 BK133 BK140 HB hHeld ⊢
          refine pure_ (i := 0) (N := some 44) (v := ?_) (a' := ?_) #[true, false, false, false, false, false, false] rfl rfl Z12 (fun _ _ _ h => h) (Or.inl ⟨by rfl, ?_⟩) ?_ ?_
          rotate_left
          · intro w'; go_simp; with_reducible rfl
          rotate_left
          · simp only [Act.put, List.setIfInBounds_toArray, List.set_cons_zero, List.set_cons_succ, i64_w, i32_w]; rfl
          refine pure_ (i := 2) (N := some 46) (v := ?_) (a' := ?_) #[true, false, true, false, false, false, false] rfl rfl Z12 (fun _ _ _ h => h) (Or.inl ⟨by rfl, ?_⟩) ?_ ?_
          rotate_left
          · intro w'; go_simp; with_reducible rfl
          rotate_left
          · simp only [Act.put, List.setIfInBounds_toArray, List.set_cons_zero, List.set_cons_succ, i64_w, i32_w]; rfl
          refine pure_ (i := 3) (N := some 47) (v := ?_) (a' := ?_) #[true, false, true, true, false, false, false] rfl rfl Z12 (fun _ _ _ h => h) (Or.inl ⟨by rfl, ?_⟩) ?_ ?_
          rotate_left
          · intro w'; go_simp; with_reducible rfl
          rotate_left
          · simp only [Act.put, List.setIfInBounds_toArray, List.set_cons_zero, List.set_cons_succ, i64_w, i32_w]; rfl
          refine take_ (i := 1) (N := some 45) (v := ?_) (a' := ?_) #[true, true, true, true, false, false, false] rfl rfl Z12 (fun _ _ _ h => h) (Or.inl ⟨by rfl, ?_⟩) hHeld ?_ ?_
          rotate_left
          · rintro w' ⟨s0, s1⟩; go_simp; with_reducible rfl
          rotate_left
          · simp only [Act.put, List.setIfInBounds_toArray, List.set_cons_zero, List.set_cons_succ, i64_w, i32_w]; rfl
          refine one_ (i := 4) (N := some 48) #[true, true, true, true, true, false, false] rfl rfl Z12 Z25 (fun K hK => ?_)
          refine goes_ Try.func49 Z12 rfl #[.slice A2 l2.length c2] Z94 rfl rfl Z1 ?_
          (with_reducible refine (slices_Clone_byte_byte.calls _ _ l2 t144 _ ?side1 ?side2 A47.out).mono ?_)
          (case side1 => repeat (first | exact (Kd.C_below HR2.out HB.out) | (with_reducible refine Kd.C_alloc ?_ _) | (with_reducible refine Kd.C_drewN ?_ _) | (with_reducible refine Kd.C_drew ?_)))
          (case side2 => exact HC2.out)
          rintro e w57 ⟨v145, rfl, ho0, hb⟩
          refine ⟨_, rfl, ?_⟩
          have n0_ := ZA (Kd.S_elder' Z86 (Kd.R_base ho0) hb)
          have n1_ := ZA (Kd.R_lower ho0 (below_size (hset HB.out)))
          have n2_ := ZA (blk_below (bup BK132.out) hb)
          have n3_ := ZA (blk_below (bup BK133.out) hb)
          have n4_ := ZA (blk_below (bup BK140.out) hb)
          have n5_ := ZA (below_step (hset HB.out) hb)
          clear HO_141001
          clear BK132
          clear BK133
          clear BK140
          clear HB
          have HO_141001 := n0_
          have HO146 := n1_
          have BK132 := n2_
          have BK133 := n3_
          have BK140 := n4_
          have HB := n5_
          clear n0_ n1_ n2_ n3_ n4_ n5_
          (try clear hb)
          (try clear hb2)
          (try clear hk)
          (try clear hi)
          (try clear ho0)
          have p50 : 0 ≤ (a1 : Int) := of_decide_eq_true Z10
          have q50 : (a1 : Int) < ((x141001_2.length : Int) : Int) := of_decide_eq_true Z10
          obtain ⟨go50, co50, eo50, gb50, gl50, cl50, HG50⟩ := Kd.S_form HO_141001.out Z8
          (first | cases eo50 | (injection eo50 with ea_ en_ ec_; (first | subst ea_ | (injection ea_ with ea_; subst ea_)); subst ec_; clear en_))
          have GB50 := ZA gb50
          have GG50 := ZA HG50
          clear gb50 gl50 HG50
          obtain ⟨_, ce50, hcl50, hM50, hcc50, hfr50, _, _⟩ := Kd.S_elem HO_141001.out [] (a1 : Int) p50 q50
          obtain ⟨ve50_0, rfl, ge50_0⟩ := hM50
          have hx50_0 := hcc50 0 _ rfl
          have hf50_0 := hfr50 0
          (try simp only [show ((Kd.slice 5 (Kd.int .u8))).sz = 1 from rfl, Nat.mul_one, Nat.add_zero] at hx50_0)
          (try simp only [show ((Kd.slice 5 (Kd.int .u8))).sz = 1 from rfl, Nat.mul_one, Nat.add_zero] at hf50_0)
          (try clear hM50)
          clear hcl50 hcc50 hfr50
          replace p50 := eq_true p50
          replace q50 := eq_true q50
          have n_ := ZA (Kd.S_mono (ok' := (fun k_ => some k_ ≠ (v145 : Value).ownBlock)) HO_141001.out (fun k_ hk => hk.2))
          clear HO_141001
          have HO_141001 := n_
          clear n_
          have HX58 := ZA (show Kd.S (Kd.slice 5 (Kd.int .u8)) 36 w57 w.heap.size (fun k_ => ((fun _ => True)) k_ ∧ ¬ ((fun k_ => some k_ = (v145 : Value).ownBlock)) k_) (.slice (some ⟨go50, 0, none⟩) x141001_2.length co56) x141001_2 from (by (with_reducible repeat (first | apply Kd.S_alloc | apply Kd.S_drewN | apply Kd.S_drew)); exact Kd.S_mono HO_141001.out (fun k_ hk => ⟨trivial, fun e_ => hk e_⟩)))
          obtain ⟨oki58, ce58, hcl58, hM58, hcc58, hfr58, hoki58, hH58⟩ := Kd.S_elem HX58.out [] (a1 : Int) (of_decide_eq_true Z10) Z66
          obtain ⟨ve58_0, rfl, ge58_0⟩ := hM58
          have HP58 := Kd.S_seg hH58 (of_decide_eq_true Z10) Z66 (seg := [v145]) (j := 0) (show 1 ≤ 1 from by decide) (x' := t144) (Kd.M_row (Kd.R_mono (Kd.R_tight rfl (Kd.R_mono (ok' := fun k_ => ((fun _ => True)) k_ ∧ k_ ≠ go50) (Kd.R_apart' (HO146.out) (Kd.S_typed HO_141001.out) Z25) (fun k_ hk => ⟨trivial, fun e_ => (hk.2) (by rw [e_]; rfl)⟩))) (fun _ h_ => Or.inr (h_)))) (fun _ hk => hk) (fun k_ hk_ => ((Kd.R_mono (ok' := fun k_ => ((fun _ => True)) k_ ∧ k_ ≠ go50) (Kd.R_apart' (HO146.out) (Kd.S_typed HO_141001.out) Z25) (fun k_ hk => ⟨trivial, fun e_ => (hk.2) (by rw [e_]; rfl)⟩))).1 k_ hk_.symm)
          have hx58_0 := hcc58 0 _ rfl
          (try simp only [show ((Kd.slice 5 (Kd.int .u8))).sz = 1 from rfl, Nat.mul_one, Nat.add_zero] at hx58_0)
          have hf58_0 := hfr58 0
          (try simp only [show ((Kd.slice 5 (Kd.int .u8))).sz = 1 from rfl, Nat.mul_one, Nat.add_zero] at hf58_0)
          (try clear hM58)
          clear hcl58 hcc58 hfr58 hoki58 hH58
          (try simp only [show ((Kd.slice 5 (Kd.int .u8))).sz = 1 from rfl, Nat.mul_one, Nat.add_zero] at HP58)
          refine hK.out _ _ (blk_cells2 BK140.out) (fun hHeld => ?_)
          clear hK K
          refine norm_ (a' := ?_) ?_ ?_
          rotate_left
          · show Act.put _ (some 48) _ = _; simp only [Act.put, List.setIfInBounds_toArray, List.set_cons_zero, List.set_cons_succ, i64_w, i32_w]; rfl
          refine pure_ (i := 5) (N := some 49) (v := ?_) (a' := ?_) #[true, true, true, true, true, true, false] rfl rfl Z12 (fun _ _ _ h => h) (Or.inl ⟨by rfl, ?_⟩) ?_ ?_
          rotate_left
          · intro w'; go_simp; with_reducible rfl
          rotate_left
          · simp only [Act.put, List.setIfInBounds_toArray, List.set_cons_zero, List.set_cons_succ, i64_w, i32_w]; rfl
          refine last_ (i := 6) (N := none) #[true, true, true, true, true, true, true] rfl rfl Z12 Z25 (fun K hK => ?_)
          refine skip_ (w1 := (w57.setCell ⟨go50, (a1 : Int).toNat, none⟩ (v145))) ?hw_ ?hN_ ?_ ?_
          case hN_ => rfl
          case hw_ => rfl
          · first | (go_simp; done) | (go_simp; rfl) | (obtain ⟨_, _, es_⟩ := (by first | exact Kd.R_slice (Aside0.out (by assumption : Aside0 (Kd.R _ _ _ _ _ v145 _))) | exact Kd.S_slice (Aside0.out (by assumption : Aside0 (Kd.S _ _ _ _ _ v145 _))) : ∃ A_ c_, v145 = .slice A_ _ c_); rw [es_]; clear es_; first | (go_simp; done) | (go_simp; rfl))
          refine hK.out _ _ ?_
          clear hK K
          refine done_ Z12 ?_
          obtain ⟨w59, hw⟩ : ∃ w_, w_ = (w57.setCell ⟨go50, (a1 : Int).toNat, none⟩ (v145)) := ⟨_, rfl⟩
          rw [← hw]
          have hg : w57.grownBy w59 (some go50) := (by rw [hw]; exact HP58.2)
          have hp_ : Kd.S (Kd.slice 5 (Kd.int .u8)) 36 w59 w.heap.size (fun _ => True) (.slice (some ⟨go50, 0, none⟩) x141001_2.length co56) y147 := (by rw [hw, Ny147.out]; exact HP58.1)
          clear HP58
          have n0_ := ZA (hp_)
          have n1_ := ZA (blk_grown (g := gb132) (o := .cells #[.int .i64 a0_0, .slice A0_1 l0_1.length c0_1] 27 (0, 0)) (bup BK132.out) hg (Kd.S_ne HO_141001.out BK132.out Z25))
          have n2_ := ZA (blk_grown (g := gb133) (o := .cells #[.int .i64 0, .slice none 0 0] 27 (0, 0)) (bup BK133.out) hg (Kd.S_ne HO_141001.out BK133.out Z25))
          have n3_ := ZA (blk_grown (g := gb140) (o := .cells #[.int .i64 a3, .slice (some ⟨go50, 0, none⟩) x141001_2.length co56] 27 (0, 0)) (bup BK140.out) hg (Kd.S_ne HO_141001.out BK140.out Z25))
          have n4_ := ZA ((by rw [hw]; exact below_set (HB.out) GB50.out : Below w.heap.size w w59))
          clear HO_141001
          clear BK132
          clear BK133
          clear BK140
          clear HB
          clear HO146
          have HO_141001 := n0_
          have BK132 := n1_
          have BK133 := n2_
          have BK140 := n3_
          have HB := n4_
          clear n0_ n1_ n2_ n3_ n4_
          clear hg hw hp_
          obtain ⟨hcz60_0, hcz60_1⟩ := blk_cells2 BK140.out
          obtain ⟨hfz60_0, hfz60_1⟩ := blk_frozens2 BK140.out
          try go_wp2_with (first | ((with_reducible refine gate_callee (f := 14) rfl ?_); refine goesL_ (some 51) rfl rfl Try.func14 Z12 rfl #[.agg #[.int .i64 a3, .slice (some ⟨go50, 0, none⟩) y147.length co56]] rfl (by (try simp only [List.map_toArray, List.map_cons, List.map_nil]); first | done | (rw [show y147.length = x141001_2.length from (Kd.S_reads' HO_141001.out).1.symm] <;> rfl) | rfl | (simp only [List.length_drop, List.length_take]; rfl)) ?_; (with_reducible refine (impl_PageUsed.calls k2 a3 _ _ y147 t148 _ ?side1 ?side2 A51.out).mono ?_); (case side1 => repeat (first | exact (Kd.S_reads' HO_141001.out).2.2 | (with_reducible refine Kd.C_alloc ?_ _) | (with_reducible refine Kd.C_drewN ?_ _) | (with_reducible refine Kd.C_drew ?_))); (case side2 => rw [show y147.length = x141001_2.length from (Kd.S_reads' HO_141001.out).1.symm]; exact (Kd.S_reads' HO_141001.out).2.1); rintro e w61 ⟨rfl, hb⟩; refine ⟨_, rfl, ?_⟩; have n0_ := ZA (Kd.S_below Z86 hb); have n1_ := ZA (blk_below (bup BK132.out) hb); have n2_ := ZA (blk_below (bup BK133.out) hb); have n3_ := ZA (blk_below (bup BK140.out) hb); have n4_ := ZA (below_step (hset HB.out) hb); clear HO_141001 BK132 BK133 BK140 HB; have HO_141001 := n0_; have BK132 := n1_; have BK133 := n2_; have BK140 := n3_; have HB := n4_; clear n0_ n1_ n2_ n3_ n4_; (try clear hb); (try clear hb2); (try clear hk); (try clear hi); have hnb62 := NB133_132.out; have hnc62 := NB132_133.out; obtain ⟨hcz63_0, hcz63_1⟩ := blk_cells2 BK133.out; obtain ⟨hfz63_0, hfz63_1⟩ := blk_frozens2 BK133.out))
          refine bodyPost_ret (results_ct rfl _ _ gb133 27 #[.int .i64 0, .slice none 0 0] (0, 0) _ rfl (bput BK133.out) Try.underlying27 rfl Z12) rfl ?_
          exact ⟨_, by first | rfl | (simp [errW_none, errW_some] <;> rfl) | (simp [*, errW_none, errW_some] <;> rfl), by first | exact Kd.S_nil _ _ _ _ _ | exact Kd.N_nil _ _ _ _ _ | exact Kd.V_nil _ _ _ _ _ | exact Kd.Q_nil _ _ _ _ _ | exact Kd.R_nil _ _ _ _ _, hset HB.out⟩
         ·rw [if_neg c52] at H
          have c52b0 : decide (t148 < 0) = false := decide_eq_false c52
          clear c52
          simp only [Option.some.injEq, Prod.mk.injEq] at H
          obtain ⟨rfl, rfl, rfl⟩ := H
          have hnb64 := NB140_132.out
          have hnc64 := NB132_140.out
          have hnb65 := NB140_133.out
          have hnc65 := NB133_140.out
          obtain ⟨hcz66_0, hcz66_1⟩ := blk_cells2 BK140.out
          obtain ⟨hfz66_0, hfz66_1⟩ := blk_frozens2 BK140.out
          obtain ⟨Ao67, co67, eo67⟩ := Kd.S_slice HO_141001.out
          subst eo67
          try go_wp2
          have n0_ := ZA (Kd.S_drew HO_141001.out)
          have n1_ := ZA (blk_drew BK132.out)
          have n2_ := ZA (blk_drew BK133.out)
          have n3_ := ZA (blk_drew BK140.out)
          have n4_ := ZA (below_drew1 HB.out)
          clear HO_141001 BK132 BK133 BK140 HB
          have HO_141001 := n0_
          have BK132 := n1_
          have BK133 := n2_
          have BK140 := n3_
          have HB := n4_
          clear n0_ n1_ n2_ n3_ n4_
          refine start_ (n := 7) (S := fun w' => w'.cell? ⟨gb140, 0, none⟩ = some (.int .i64 a3) ∧ w'.cell? ⟨gb140, 1, none⟩ = some (.slice Ao67 x141001_2.length co67)) (ds := [6]) #[false, false, false, false, false, false, false] Z12 rfl rfl (blk_cells2 BK140.out) (fun hHeld => ?_)
          generalize wr.drew = wq_ at HO_141001 BK132 BK133 BK140 HB hHeld ⊢
          refine pure_ (i := 0) (N := some 44) (v := ?_) (a' := ?_) #[true, false, false, false, false, false, false] rfl rfl Z12 (fun _ _ _ h => h) (Or.inl ⟨by rfl, ?_⟩) ?_ ?_
          rotate_left
          · intro w'; go_simp; with_reducible rfl
          rotate_left
          · simp only [Act.put, List.setIfInBounds_toArray, List.set_cons_zero, List.set_cons_succ, i64_w, i32_w]; rfl
          refine pure_ (i := 2) (N := some 46) (v := ?_) (a' := ?_) #[true, false, true, false, false, false, false] rfl rfl Z12 (fun _ _ _ h => h) (Or.inl ⟨by rfl, ?_⟩) ?_ ?_
          rotate_left
          · intro w'; go_simp; with_reducible rfl
          rotate_left
          · simp only [Act.put, List.setIfInBounds_toArray, List.set_cons_zero, List.set_cons_succ, i64_w, i32_w]; rfl
          refine pure_ (i := 3) (N := some 47) (v := ?_) (a' := ?_) #[true, false, true, true, false, false, false] rfl rfl Z12 (fun _ _ _ h => h) (Or.inl ⟨by rfl, ?_⟩) ?_ ?_
          rotate_left
          · intro w'; go_simp; with_reducible rfl
          rotate_left
          · simp only [Act.put, List.setIfInBounds_toArray, List.set_cons_zero, List.set_cons_succ, i64_w, i32_w]; rfl
          refine take_ (i := 1) (N := some 45) (v := ?_) (a' := ?_) #[true, true, true, true, false, false, false] rfl rfl Z12 (fun _ _ _ h => h) (Or.inl ⟨by rfl, ?_⟩) hHeld ?_ ?_
          rotate_left
          · rintro w' ⟨s0, s1⟩; go_simp; with_reducible rfl
          rotate_left
          · simp only [Act.put, List.setIfInBounds_toArray, List.set_cons_zero, List.set_cons_succ, i64_w, i32_w]; rfl
          refine one_ (i := 4) (N := some 48) #[true, true, true, true, true, false, false] rfl rfl Z12 Z25 (fun K hK => ?_)
          refine goes_ Try.func49 Z12 rfl #[.slice A2 l2.length c2] Z94 rfl rfl Z1 ?_
          (with_reducible refine (slices_Clone_byte_byte.calls _ _ l2 t144 _ ?side1 ?side2 A47.out).mono ?_)
          (case side1 => repeat (first | exact (Kd.C_below HR2.out HB.out) | (with_reducible refine Kd.C_alloc ?_ _) | (with_reducible refine Kd.C_drewN ?_ _) | (with_reducible refine Kd.C_drew ?_)))
          (case side2 => exact HC2.out)
          rintro e w68 ⟨v145, rfl, ho0, hb⟩
          refine ⟨_, rfl, ?_⟩
          have n0_ := ZA (Kd.S_elder' Z86 (Kd.R_base ho0) hb)
          have n1_ := ZA (Kd.R_lower ho0 (below_size (hset HB.out)))
          have n2_ := ZA (blk_below (bup BK132.out) hb)
          have n3_ := ZA (blk_below (bup BK133.out) hb)
          have n4_ := ZA (blk_below (bup BK140.out) hb)
          have n5_ := ZA (below_step (hset HB.out) hb)
          clear HO_141001
          clear BK132
          clear BK133
          clear BK140
          clear HB
          have HO_141001 := n0_
          have HO146 := n1_
          have BK132 := n2_
          have BK133 := n3_
          have BK140 := n4_
          have HB := n5_
          clear n0_ n1_ n2_ n3_ n4_ n5_
          (try clear hb)
          (try clear hb2)
          (try clear hk)
          (try clear hi)
          (try clear ho0)
          have p50 : 0 ≤ (a1 : Int) := of_decide_eq_true Z10
          have q50 : (a1 : Int) < ((x141001_2.length : Int) : Int) := of_decide_eq_true Z10
          obtain ⟨go50, co50, eo50, gb50, gl50, cl50, HG50⟩ := Kd.S_form HO_141001.out Z8
          (first | cases eo50 | (injection eo50 with ea_ en_ ec_; (first | subst ea_ | (injection ea_ with ea_; subst ea_)); subst ec_; clear en_))
          have GB50 := ZA gb50
          have GG50 := ZA HG50
          clear gb50 gl50 HG50
          obtain ⟨_, ce50, hcl50, hM50, hcc50, hfr50, _, _⟩ := Kd.S_elem HO_141001.out [] (a1 : Int) p50 q50
          obtain ⟨ve50_0, rfl, ge50_0⟩ := hM50
          have hx50_0 := hcc50 0 _ rfl
          have hf50_0 := hfr50 0
          (try simp only [show ((Kd.slice 5 (Kd.int .u8))).sz = 1 from rfl, Nat.mul_one, Nat.add_zero] at hx50_0)
          (try simp only [show ((Kd.slice 5 (Kd.int .u8))).sz = 1 from rfl, Nat.mul_one, Nat.add_zero] at hf50_0)
          (try clear hM50)
          clear hcl50 hcc50 hfr50
          replace p50 := eq_true p50
          replace q50 := eq_true q50
          have n_ := ZA (Kd.S_mono (ok' := (fun k_ => some k_ ≠ (v145 : Value).ownBlock)) HO_141001.out (fun k_ hk => hk.2))
          clear HO_141001
          have HO_141001 := n_
          clear n_
          have HX69 := ZA (show Kd.S (Kd.slice 5 (Kd.int .u8)) 36 w68 w.heap.size (fun k_ => ((fun _ => True)) k_ ∧ ¬ ((fun k_ => some k_ = (v145 : Value).ownBlock)) k_) (.slice (some ⟨go50, 0, none⟩) x141001_2.length co67) x141001_2 from (by (with_reducible repeat (first | apply Kd.S_alloc | apply Kd.S_drewN | apply Kd.S_drew)); exact Kd.S_mono HO_141001.out (fun k_ hk => ⟨trivial, fun e_ => hk e_⟩)))
          obtain ⟨oki69, ce69, hcl69, hM69, hcc69, hfr69, hoki69, hH69⟩ := Kd.S_elem HX69.out [] (a1 : Int) (of_decide_eq_true Z10) Z66
          obtain ⟨ve69_0, rfl, ge69_0⟩ := hM69
          have HP69 := Kd.S_seg hH69 (of_decide_eq_true Z10) Z66 (seg := [v145]) (j := 0) (show 1 ≤ 1 from by decide) (x' := t144) (Kd.M_row (Kd.R_mono (Kd.R_tight rfl (Kd.R_mono (ok' := fun k_ => ((fun _ => True)) k_ ∧ k_ ≠ go50) (Kd.R_apart' (HO146.out) (Kd.S_typed HO_141001.out) Z25) (fun k_ hk => ⟨trivial, fun e_ => (hk.2) (by rw [e_]; rfl)⟩))) (fun _ h_ => Or.inr (h_)))) (fun _ hk => hk) (fun k_ hk_ => ((Kd.R_mono (ok' := fun k_ => ((fun _ => True)) k_ ∧ k_ ≠ go50) (Kd.R_apart' (HO146.out) (Kd.S_typed HO_141001.out) Z25) (fun k_ hk => ⟨trivial, fun e_ => (hk.2) (by rw [e_]; rfl)⟩))).1 k_ hk_.symm)
          have hx69_0 := hcc69 0 _ rfl
          (try simp only [show ((Kd.slice 5 (Kd.int .u8))).sz = 1 from rfl, Nat.mul_one, Nat.add_zero] at hx69_0)
          have hf69_0 := hfr69 0
          (try simp only [show ((Kd.slice 5 (Kd.int .u8))).sz = 1 from rfl, Nat.mul_one, Nat.add_zero] at hf69_0)
          (try clear hM69)
          clear hcl69 hcc69 hfr69 hoki69 hH69
          (try simp only [show ((Kd.slice 5 (Kd.int .u8))).sz = 1 from rfl, Nat.mul_one, Nat.add_zero] at HP69)
          refine hK.out _ _ (blk_cells2 BK140.out) (fun hHeld => ?_)
          clear hK K
          refine norm_ (a' := ?_) ?_ ?_
          rotate_left
          · show Act.put _ (some 48) _ = _; simp only [Act.put, List.setIfInBounds_toArray, List.set_cons_zero, List.set_cons_succ, i64_w, i32_w]; rfl
          refine pure_ (i := 5) (N := some 49) (v := ?_) (a' := ?_) #[true, true, true, true, true, true, false] rfl rfl Z12 (fun _ _ _ h => h) (Or.inl ⟨by rfl, ?_⟩) ?_ ?_
          rotate_left
          · intro w'; go_simp; with_reducible rfl
          rotate_left
          · simp only [Act.put, List.setIfInBounds_toArray, List.set_cons_zero, List.set_cons_succ, i64_w, i32_w]; rfl
          refine last_ (i := 6) (N := none) #[true, true, true, true, true, true, true] rfl rfl Z12 Z25 (fun K hK => ?_)
          refine skip_ (w1 := (w68.setCell ⟨go50, (a1 : Int).toNat, none⟩ (v145))) ?hw_ ?hN_ ?_ ?_
          case hN_ => rfl
          case hw_ => rfl
          · first | (go_simp; done) | (go_simp; rfl) | (obtain ⟨_, _, es_⟩ := (by first | exact Kd.R_slice (Aside0.out (by assumption : Aside0 (Kd.R _ _ _ _ _ v145 _))) | exact Kd.S_slice (Aside0.out (by assumption : Aside0 (Kd.S _ _ _ _ _ v145 _))) : ∃ A_ c_, v145 = .slice A_ _ c_); rw [es_]; clear es_; first | (go_simp; done) | (go_simp; rfl))
          refine hK.out _ _ ?_
          clear hK K
          refine done_ Z12 ?_
          obtain ⟨w70, hw⟩ : ∃ w_, w_ = (w68.setCell ⟨go50, (a1 : Int).toNat, none⟩ (v145)) := ⟨_, rfl⟩
          rw [← hw]
          have hg : w68.grownBy w70 (some go50) := (by rw [hw]; exact HP69.2)
          have hp_ : Kd.S (Kd.slice 5 (Kd.int .u8)) 36 w70 w.heap.size (fun _ => True) (.slice (some ⟨go50, 0, none⟩) x141001_2.length co67) y147 := (by rw [hw, Ny147.out]; exact HP69.1)
          clear HP69
          have n0_ := ZA (hp_)
          have n1_ := ZA (blk_grown (g := gb132) (o := .cells #[.int .i64 a0_0, .slice A0_1 l0_1.length c0_1] 27 (0, 0)) (bup BK132.out) hg (Kd.S_ne HO_141001.out BK132.out Z25))
          have n2_ := ZA (blk_grown (g := gb133) (o := .cells #[.int .i64 0, .slice none 0 0] 27 (0, 0)) (bup BK133.out) hg (Kd.S_ne HO_141001.out BK133.out Z25))
          have n3_ := ZA (blk_grown (g := gb140) (o := .cells #[.int .i64 a3, .slice (some ⟨go50, 0, none⟩) x141001_2.length co67] 27 (0, 0)) (bup BK140.out) hg (Kd.S_ne HO_141001.out BK140.out Z25))
          have n4_ := ZA ((by rw [hw]; exact below_set (HB.out) GB50.out : Below w.heap.size w w70))
          clear HO_141001
          clear BK132
          clear BK133
          clear BK140
          clear HB
          clear HO146
          have HO_141001 := n0_
          have BK132 := n1_
          have BK133 := n2_
          have BK140 := n3_
          have HB := n4_
          clear n0_ n1_ n2_ n3_ n4_
          clear hg hw hp_
          obtain ⟨hcz71_0, hcz71_1⟩ := blk_cells2 BK140.out
          obtain ⟨hfz71_0, hfz71_1⟩ := blk_frozens2 BK140.out
          try go_wp2_with (first | ((with_reducible refine gate_callee (f := 14) rfl ?_); refine goesL_ (some 51) rfl rfl Try.func14 Z12 rfl #[.agg #[.int .i64 a3, .slice (some ⟨go50, 0, none⟩) y147.length co67]] rfl (by (try simp only [List.map_toArray, List.map_cons, List.map_nil]); first | done | (rw [show y147.length = x141001_2.length from (Kd.S_reads' HO_141001.out).1.symm] <;> rfl) | rfl | (simp only [List.length_drop, List.length_take]; rfl)) ?_; (with_reducible refine (impl_PageUsed.calls k2 a3 _ _ y147 t148 _ ?side1 ?side2 A51.out).mono ?_); (case side1 => repeat (first | exact (Kd.S_reads' HO_141001.out).2.2 | (with_reducible refine Kd.C_alloc ?_ _) | (with_reducible refine Kd.C_drewN ?_ _) | (with_reducible refine Kd.C_drew ?_))); (case side2 => rw [show y147.length = x141001_2.length from (Kd.S_reads' HO_141001.out).1.symm]; exact (Kd.S_reads' HO_141001.out).2.1); rintro e w72 ⟨rfl, hb⟩; refine ⟨_, rfl, ?_⟩; have n0_ := ZA (Kd.S_below Z86 hb); have n1_ := ZA (blk_below (bup BK132.out) hb); have n2_ := ZA (blk_below (bup BK133.out) hb); have n3_ := ZA (blk_below (bup BK140.out) hb); have n4_ := ZA (below_step (hset HB.out) hb); clear HO_141001 BK132 BK133 BK140 HB; have HO_141001 := n0_; have BK132 := n1_; have BK133 := n2_; have BK140 := n3_; have HB := n4_; clear n0_ n1_ n2_ n3_ n4_; (try clear hb); (try clear hb2); (try clear hk); (try clear hi); obtain ⟨hcz73_0, hcz73_1⟩ := blk_cells2 BK140.out; obtain ⟨hfz73_0, hfz73_1⟩ := blk_frozens2 BK140.out; have hnb74 := NB133_132.out; have hnc74 := NB132_133.out; obtain ⟨hcz75_0, hcz75_1⟩ := blk_cells2 BK133.out; obtain ⟨hfz75_0, hfz75_1⟩ := blk_frozens2 BK133.out))
          refine bodyPost_ret (results_ct rfl _ _ gb133 27 #[.int .i64 a3, .slice (some ⟨go50, 0, none⟩) x141001_2.length co67] (0, 0) _ rfl (bput BK133.out) Try.underlying27 rfl Z12) rfl ?_
          exact ⟨_, by first | rfl | (simp [errW_none, errW_some] <;> rfl) | (simp [*, errW_none, errW_some] <;> rfl), by (with_reducible repeat (first | apply Kd.S_alloc | apply Kd.S_drewN | apply Kd.S_drew)); exact Kd.S_mono (Kd.S_far (p := ⟨gb133, 1, none⟩) (Kd.S_far (p := ⟨gb133, 0, none⟩) (Kd.S_types HO_141001.out BK133.out Z25) (fun _ hk => hk.2) (.int .i64 a3)) (fun _ hk => hk.2) (.slice (some ⟨go50, 0, none⟩) x141001_2.length co67)) (fun _ hk => trivial), hset HB.out⟩
        ·rw [if_neg c49] at H
         exact absurd H Z44
       ·rw [if_neg c48] at H
        exact absurd H Z44
def laws_big.f (l0 : List Int) : Option (Bool) := some (decide ((l0.length : Int) > 1048576))
set_option maxHeartbeats 8000000 in
set_option maxRecDepth 100000 in
theorem laws_big.calls (A0 : Option Addr) (c0 : Nat) (l0 : List Int) (r : Bool) (w : World) (hr0 : Kd.C (Kd.int .u8) w A0 l0.length l0) (hc0 : l0.length ≤ c0) (h : laws_big.f l0 = some r) :
    Calls Try.prog 32 #[.slice A0 l0.length c0] w fun e w' => e = .returned (.bool r) ∧ Drawn0 w w' := by
  have HR0 := ZA hr0
  have HC0 := ZA hc0
  clear hr0 hc0
  have H := h
  clear h
  unfold laws_big.f at H
  obtain rfl := Option.some.inj H
  go_enter Try.func32, Try.ntmps32
  go_wp2
  go_ret
  exact ⟨by first | rfl | (simp; done) | (simp [*]; done), Z24⟩
def IsS82 (w0 W : World) (g : Nat) (f0 : List Int) (f1 : Int) (f2 : Int) : Prop := ∃ A0 c0, W.heap[g]? = some (.cells #[.slice A0 f0.length c0, .int .i64 f1, .int .i64 f2] 82 (0, 0)) ∧ w0.heap.size ≤ g ∧ Kd.C (Kd.int .u8) w0 A0 f0.length f0
theorem IsS82.grown {w0 W : World} {g : Nat} {f0 : List Int} {f1 : Int} {f2 : Int} {W1 : World} {row : Option Nat} (h : IsS82 w0 W g f0 f1 f2) (hw : W.grownBy W1 row) (hne : some g ≠ row) : IsS82 w0 W1 g f0 f1 f2 := by
  obtain ⟨A0, c0, hb, hg, hr0⟩ := h
  exact ⟨A0, c0, blk_grown hb hw hne, hg, hr0⟩
theorem IsS82.own_neN {w0 W : World} {g : Nat} {f0 : List Int} {f1 : Int} {f2 : Int} {α : Type} {d : Kd α} {e : Nat} {base : Nat} {ok : Nat → Prop} {v : Value} {xs : List α} (h : IsS82 w0 W g f0 f1 f2) (ho : Kd.N d e W base ok v xs) (ht : e ≠ 82) : some g ≠ v.ownBlock := by
  obtain ⟨A0, c0, hb, hg, hr0⟩ := h
  exact Kd.N_ne ho hb ht
theorem IsS82.fresh {w0 W : World} {g : Nat} {f0 : List Int} {f1 : Int} {f2 : Int} (h : IsS82 w0 W g f0 f1 f2) : ∀ k, W.heap.size ≤ k → k ≠ g := by
  obtain ⟨A0, c0, hb, hg, hr0⟩ := h
  exact Kd.freshB hb
theorem IsS82.kept {w0 W : World} {g : Nat} {f0 : List Int} {f1 : Int} {f2 : Int} {W1 : World} {S : Nat → Prop} (h : IsS82 w0 W g f0 f1 f2) (hk : Kept W W1 S) (hne : ¬ S g) : IsS82 w0 W1 g f0 f1 f2 := by
  obtain ⟨A0, c0, hb, hg, hr0⟩ := h
  exact ⟨A0, c0, blk_kept hb hk hne, hg, hr0⟩
theorem IsS82.below {w0 W : World} {g : Nat} {f0 : List Int} {f1 : Int} {f2 : Int} {W1 : World} (h : IsS82 w0 W g f0 f1 f2) (hw : Below W.heap.size W W1) : IsS82 w0 W1 g f0 f1 f2 := h.grown (grown_of_below hw none) Z44
theorem IsS82.alloc {w0 W : World} {g : Nat} {f0 : List Int} {f1 : Int} {f2 : Int} (h : IsS82 w0 W g f0 f1 f2) (o : Obj) : IsS82 w0 (W.alloc o) g f0 f1 f2 := h.below (below_alloc (Below.refl _ _) o)
theorem IsS82.drewN {w0 W : World} {g : Nat} {f0 : List Int} {f1 : Int} {f2 : Int} (h : IsS82 w0 W g f0 f1 f2) (m : Nat) : IsS82 w0 (W.drewN m) g f0 f1 f2 := h
theorem IsS82.drew {w0 W : World} {g : Nat} {f0 : List Int} {f1 : Int} {f2 : Int} (h : IsS82 w0 W g f0 f1 f2) : IsS82 w0 W.drew g f0 f1 f2 := h
theorem IsS82.at_ {w0 W : World} {g : Nat} {f0 : List Int} {f1 : Int} {f2 : Int} {w' : World} {m : Nat} (hq : W.drewN m = w') (h : IsS82 w0 W g f0 f1 f2) : IsS82 w0 w' g f0 f1 f2 := by subst hq; exact IsS82.drewN h m
theorem IsS82.apart {w0 W : World} {g : Nat} {f0 : List Int} {f1 : Int} {f2 : Int} {α : Type} {d : Kd α} {e : Nat} {base : Nat} {ok : Nat → Prop} {v : Value} {xs : List α} (h : IsS82 w0 W g f0 f1 f2) (ho : d.R e W base ok v xs) (ht : ∀ q, q ∈ e :: d.E → q ≠ 82) : d.R e W base (fun k => ok k ∧ k ≠ g) v xs := by
  obtain ⟨A0, c0, hb, hg, hr0⟩ := h
  exact Kd.R_types ho hb ht
theorem IsS82.own_ne {w0 W : World} {g : Nat} {f0 : List Int} {f1 : Int} {f2 : Int} {α : Type} {d : Kd α} {e : Nat} {base : Nat} {ok : Nat → Prop} {v : Value} {xs : List α} (h : IsS82 w0 W g f0 f1 f2) (ho : d.R e W base ok v xs) (ht : e ≠ 82) : some g ≠ v.ownBlock := by
  obtain ⟨A0, c0, hb, hg, hr0⟩ := h
  exact Kd.R_ne ho hb ht
theorem IsS82.lt {w0 W : World} {g : Nat} {f0 : List Int} {f1 : Int} {f2 : Int} (h : IsS82 w0 W g f0 f1 f2) : g < W.heap.size := by
  obtain ⟨A0, c0, hb, hg, hr0⟩ := h
  exact blk_lt hb
theorem IsS82.ge {w0 W : World} {g : Nat} {f0 : List Int} {f1 : Int} {f2 : Int} (h : IsS82 w0 W g f0 f1 f2) : w0.heap.size ≤ g := by
  obtain ⟨A0, c0, hb, hg, hr0⟩ := h
  exact hg
theorem IsS82.ne_blk {w0 W : World} {g : Nat} {f0 : List Int} {f1 : Int} {f2 : Int} {a : Nat} {cs : Array Value} {t : TypeId} {fr : Nat × Nat} (h : IsS82 w0 W g f0 f1 f2) (hb2 : W.heap[a]? = some (.cells cs t fr)) (ht : t ≠ 82) : g ≠ a := by
  obtain ⟨A0, c0, hb, hg, hr0⟩ := h
  rintro rfl
  rw [hb] at hb2
  injection hb2 with hb2
  injection hb2 with _ ht2
  exact ht ht2.symm
theorem IsS82.far {w0 W : World} {g : Nat} {f0 : List Int} {f1 : Int} {f2 : Int} {p : Addr} (h : IsS82 w0 W g f0 f1 f2) (hne : g ≠ p.block) (u : Value) : IsS82 w0 (W.setCell p u) g f0 f1 f2 := by
  obtain ⟨A0, c0, hb, hg, hr0⟩ := h
  exact ⟨A0, c0, blk_far hb hne u, hg, hr0⟩
theorem cellS82_0 {W : World} {g : Nat} {A0 : Option Addr} {c0 : Nat} {f0 : List Int} {f1 : Int} {f2 : Int} (h : W.heap[g]? = some (.cells #[.slice A0 f0.length c0, .int .i64 f1, .int .i64 f2] 82 (0, 0))) : W.cell? ⟨g, 0, none⟩ = some (.slice A0 f0.length c0) := (blk_cell h 0).trans rfl
theorem cellS82_1 {W : World} {g : Nat} {A0 : Option Addr} {c0 : Nat} {f0 : List Int} {f1 : Int} {f2 : Int} (h : W.heap[g]? = some (.cells #[.slice A0 f0.length c0, .int .i64 f1, .int .i64 f2] 82 (0, 0))) : W.cell? ⟨g, 1, none⟩ = some (.int .i64 f1) := (blk_cell h 1).trans rfl
theorem IsS82.set_1 {w0 W : World} {g : Nat} {f0 : List Int} {f1 : Int} {f2 : Int} (h : IsS82 w0 W g f0 f1 f2) (x : Int) : IsS82 w0 (W.setCell ⟨g, 1, none⟩ (.int .i64 x)) g f0 x f2 := by
  obtain ⟨A0, c0, hb, hg, hr0⟩ := h
  exact ⟨A0, c0, by simpa using blk_set hb 1 (.int .i64 x), hg, hr0⟩
theorem cellS82_2 {W : World} {g : Nat} {A0 : Option Addr} {c0 : Nat} {f0 : List Int} {f1 : Int} {f2 : Int} (h : W.heap[g]? = some (.cells #[.slice A0 f0.length c0, .int .i64 f1, .int .i64 f2] 82 (0, 0))) : W.cell? ⟨g, 2, none⟩ = some (.int .i64 f2) := (blk_cell h 2).trans rfl
theorem IsS82.set_2 {w0 W : World} {g : Nat} {f0 : List Int} {f1 : Int} {f2 : Int} (h : IsS82 w0 W g f0 f1 f2) (x : Int) : IsS82 w0 (W.setCell ⟨g, 2, none⟩ (.int .i64 x)) g f0 f1 x := by
  obtain ⟨A0, c0, hb, hg, hr0⟩ := h
  exact ⟨A0, c0, by simpa using blk_set hb 2 (.int .i64 x), hg, hr0⟩
def spec_l1New.l0 : Nat → List Int → Int → Int → Option (List Int × Int × Int)
  | 0, _, _, _ => none
  | k + 1, x0, x3, x4 => if x4 < (x0.length : Int) then (if x4 < 4000 then (if 0 ≤ x4 then (spec_l1New.l0 k x0 (Go.bits .and .i64 (wrap64 ((wrap64 ((wrap64 (x3 * 131)) + (wrap64 (rd x0 x4)))) + 7)) 1073741823) (wrap64 (x4 + 1))) else (none)) else (some (x0, 0, x3))) else (some (x0, 0, x3))
def spec_l1New.f (k : Nat) (l0 : List Int) : Option (List Int × Int × Int) := spec_l1New.l0 k l0 (wrap64 (25252 + (l0.length : Int))) 0
theorem spec_l1New.mono_l : ∀ k, (∀ y0 y1 y2, LeO (spec_l1New.l0 k y0 y1 y2) (spec_l1New.l0 (k + 1) y0 y1 y2))
  | 0 => fun _ _ _ r h => by simp [spec_l1New.l0] at h
  | k + 1 => by
    have ih0 := spec_l1New.mono_l k
    · intro y0 y1 y2
      unfold spec_l1New.l0
      repeat' with_reducible first | exact ih0 _ _ _ | exact LeO.refl _ | exact LeO.none _ | refine LeO.ite ?_ ?_ | refine LeO.bind ?_ (fun _ => ?_)
theorem spec_l1New.mono : ∀ a0 k, LeO (spec_l1New.f k a0) (spec_l1New.f (k + 1) a0) := by
  intro a0 k
  have ih0 := spec_l1New.mono_l k
  unfold spec_l1New.f
  repeat' with_reducible first | exact ih0 _ _ _ | exact LeO.refl _ | exact LeO.none _ | refine LeO.ite ?_ ?_ | refine LeO.bind ?_ (fun _ => ?_)
set_option maxHeartbeats 8000000 in
set_option maxRecDepth 100000 in
theorem spec_l1New.calls (k : Nat) (A0 : Option Addr) (c0 : Nat) (l0 : List Int) (r1 : List Int) (r2 : Int) (r3 : Int) (w0 w : World) (hB : Below w0.heap.size w0 w) (hr0 : Kd.C (Kd.int .u8) w0 A0 l0.length l0) (hc0 : l0.length ≤ c0) (h : spec_l1New.f k l0 = some (r1, r2, r3)) :
    Calls Try.prog 57 #[.slice A0 l0.length c0] w fun e w' => ∃ g_ : Nat, e = .returned (.pointer (some ⟨g_, 0, none⟩)) ∧ IsS82 w0 w' g_ r1 r2 r3 ∧ Below w0.heap.size w0 w' ∧ Below w.heap.size w w' := by
  have hu82 := Try.underlying82
  have HR0 := ZA hr0
  have HC0 := ZA hc0
  clear hr0 hc0
  have HBW := ZA (Below.refl w.heap.size w)
  have HW0 := ZA hB.size
  have HB := ZA hB
  clear hB
  have H := h
  clear h
  unfold spec_l1New.f at H
  have H' := ZA H
  clear H
  go_enter Try.func57, Try.ntmps57
  go_wp2
  go_loopg [3, 4] k (fun kq v3 v4 w' => ∃ (x3_1 : Int) (x4_1 : Int), v3 = .int .i64 x3_1 ∧ v4 = .int .i64 x4_1 ∧ Aside0 (spec_l1New.l0 kq l0 x3_1 x4_1 = some (r1, r2, r3)) ∧ Aside0 (kq ≤ k) ∧ Aside0 (Below w0.heap.size w0 w') ∧ Aside0 (Below w.heap.size w w'))
  case atStart => exact ⟨(wrap64 (25252 + (l0.length : Int))), (0), Z7, Z7, H', ⟨Nat.le_refl _⟩, ⟨Z45⟩, ⟨by repeat (first | (with_reducible first | exact HBW.out | apply h1 | apply h2 | apply h3) | exact HBW.out)⟩⟩
  case round =>
    clear H'
    obtain ⟨x3_1, x4_1, rfl, rfl, HA, HK1, HB, HBW⟩ := hrel
    cases gk with
    | zero => exact absurd HA.out (by simp [spec_l1New.l0])
    | succ k1 =>
      have H := HA.out
      clear HA
      simp only [spec_l1New.l0] at H
      by_cases c2 : x4_1 < (l0.length : Int)
      · rw [if_pos c2] at H
        have c2b0 : decide (x4_1 < (l0.length : Int)) = true := decide_eq_true c2
        clear c2
        by_cases c3 : x4_1 < 4000
        · rw [if_pos c3] at H
          have c3b0 : decide (x4_1 < 4000) = true := decide_eq_true c3
          clear c3
          by_cases c4 : 0 ≤ x4_1
          · rw [if_pos c4] at H
            have c4b0 : decide (0 ≤ x4_1) = true := decide_eq_true c4
            clear c4
            have H' := ZA H
            clear H
            have p149 : 0 ≤ (x4_1 : Int) := of_decide_eq_true Z10
            have q149 : x4_1 < (l0.length : Int) := of_decide_eq_true Z10
            obtain ⟨ad149, e149, hx149_0⟩ := Kd.at_int HR0.out x4_1 p149 q149
            cases e149
            replace hx149_0 := pw_cell_below HB.out hx149_0
            replace p149 := eq_true p149
            replace q149 := eq_true q149
            go_wp2
            go_roundg k1
            case measure => have := HK1.out; omega
            case rel => exact ⟨(Go.bits .and .i64 (wrap64 ((wrap64 ((wrap64 (x3_1 * 131)) + (wrap64 (rd l0 x4_1)))) + 7)) 1073741823), (wrap64 (x4_1 + 1)), Z7, Z7, H', ⟨by have := HK1.out; omega⟩, ⟨Z45⟩, ⟨by repeat (first | (with_reducible first | exact HBW.out | apply h1 | apply h2 | apply h3) | exact HBW.out)⟩⟩
          · rw [if_neg c4] at H
            exact absurd H Z44
        · rw [if_neg c3] at H
          have c3b0 : decide (x4_1 < 4000) = false := decide_eq_false c3
          clear c3
          simp only [Option.some.injEq, Prod.mk.injEq] at H
          obtain ⟨rfl, rfl, rfl⟩ := H
          go_wp2_with (first | ((with_reducible refine gate_dst (N := 31) rfl ?_); refine box_event ?hg (N := 31) ?hd (cs := #[.slice A0 l0.length c0, .int .i64 0, .int .i64 x3_1]) (t := 82) ?hr ?_; (case hd => rfl); (case hg => rfl); (case hr => first | (go_simp; done) | (go_simp; rfl)); intro gb150 hg w5 hbox hb; have n0_ := ZA (below_step HBW.out hb); have n1_ := ZA (below_step (hup HB.out) hb); have n2_ := ZA (hbox); have n3_ := Geq.mk ((Z78 : w.heap.size ≤ gb150)); have n4_ := ZA ((Nat.le_trans HW0.out (Z78 : w.heap.size ≤ gb150) : w0.heap.size ≤ gb150)); clear HBW HB; have HBW := n0_; have HB := n1_; have BK150 := n2_; have GW150 := n3_; have GE150 := n4_; clear n0_ n1_ n2_ n3_ n4_ hb hbox hg))
          go_ret
          exact ⟨_, rfl, (show IsS82 w0 _ gb150 l0 0 x3_1 from ⟨_, _, by exact bup BK150.out, GE150.out, HR0.out⟩), hset HB.out, by repeat (first | (with_reducible first | exact HBW.out | apply h1 | apply h2 | apply h3 | refine h4 ?_ GW150.out) | exact HBW.out)⟩
      · rw [if_neg c2] at H
        have c2b0 : decide (x4_1 < (l0.length : Int)) = false := decide_eq_false c2
        clear c2
        simp only [Option.some.injEq, Prod.mk.injEq] at H
        obtain ⟨rfl, rfl, rfl⟩ := H
        go_wp2_with (first | ((with_reducible refine gate_dst (N := 31) rfl ?_); refine box_event ?hg (N := 31) ?hd (cs := #[.slice A0 l0.length c0, .int .i64 0, .int .i64 x3_1]) (t := 82) ?hr ?_; (case hd => rfl); (case hg => rfl); (case hr => first | (go_simp; done) | (go_simp; rfl)); intro gb151 hg w6 hbox hb; have n0_ := ZA (below_step HBW.out hb); have n1_ := ZA (below_step (hup HB.out) hb); have n2_ := ZA (hbox); have n3_ := Geq.mk ((Z78 : w.heap.size ≤ gb151)); have n4_ := ZA ((Nat.le_trans HW0.out (Z78 : w.heap.size ≤ gb151) : w0.heap.size ≤ gb151)); clear HBW HB; have HBW := n0_; have HB := n1_; have BK151 := n2_; have GW151 := n3_; have GE151 := n4_; clear n0_ n1_ n2_ n3_ n4_ hb hbox hg))
        go_ret
        exact ⟨_, rfl, (show IsS82 w0 _ gb151 l0 0 x3_1 from ⟨_, _, by exact bup BK151.out, GE151.out, HR0.out⟩), hset HB.out, by repeat (first | (with_reducible first | exact HBW.out | apply h1 | apply h2 | apply h3 | refine h4 ?_ GW151.out) | exact HBW.out)⟩
end Go.Proofs.Ytokpniagnbaflaa.PFnPlaces
