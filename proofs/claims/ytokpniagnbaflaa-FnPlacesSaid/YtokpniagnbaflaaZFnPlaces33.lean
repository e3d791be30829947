import Derived.Test.YtokpniagnbaflaaZFnPlaces29
import Derived.Test.YtokpniagnbaflaaZFnPlacesA
import Derived.Test.YtokpniagnbaflaaZFnPlaces30
namespace Go.Proofs.Ytokpniagnbaflaa.PFnPlaces
open Go.RowKit Go.Proofs.YtokpniagnbaflaaW.PrintWords Go.Proofs.YtokpniagnbaflaaW.PrintLast Go.Proofs.YtokpniagnbaflaaW.PrintMore
attribute [local go_sem] max2_int min2_int max_two min_two max_three min_three max_four min_four   -- for this text's walks alone
attribute [local go_sem high] fl_eql fl_neq fl_lss fl_leq fl_gtr fl_geq fl_add fl_sub fl_mul fl_quo fl_neg fl_ofInt fl_toInt fl_store sub_sign fl_nan_quo fl_nan_add fl_nan_mul fl_nan_sub
open Go.Proofs.YtokpniagnbaflaaW.PrintWords renaming below_alloc → h1, pw_below_drewN → h2, below_drew1 → h3, below_set → h4, blk_drewN → b1, blk_drew → b2, blk_alloc → b3
set_option linter.unusedVariables false
set_option linter.unusedSimpArgs false
mutual
def spec_PagePlace.j0 : Nat → Int → Int → Bool → Int → List (List Int) → Option (Int)
 | 0, _, _, _, _, _ => none
 | k + 1, x1, x5, x15, x153000, x153001 => if x15 = true then (some (-1)) else (spec_PagePlace.l0 k x1 x5 0 x153000 x153001)
def spec_PagePlace.l0 : Nat → Int → Int → Int → Int → List (List Int) → Option (Int)
 | 0, _, _, _, _, _ => none
 | k + 1, x1, x5, x6, x153000, x153001 => if x6 < (x153001.length : Int) then (if 0 ≤ x6 then (if ((rd_L1 x153001 x6).length : Int) = 0 then (if (wrap64 (x5 + x1)) ≤ 240 then (some x6) else (spec_PagePlace.l0 k x1 x5 (wrap64 (x6 + 1)) x153000 x153001)) else (spec_PagePlace.l0 k x1 x5 (wrap64 (x6 + 1)) x153000 x153001)) else (none)) else (if (x153001.length : Int) < 16 then (if (wrap64 ((wrap64 (x5 + 1)) + x1)) ≤ 240 then (some (x153001.length : Int)) else (some (-1))) else (some (-1)))
end
def spec_PagePlace.f (k : Nat) (a0_0 : Int) (l0_1 : List (List Int)) (a1 : Int) : Option (Int) := (spec_PageUsed.f k a0_0 l0_1).bind fun t153 => (if t153 < 0 then (spec_PagePlace.j0 k a1 t153 true a0_0 l0_1) else ((spec_l5in.f a1 1 92).bind fun t154 => (spec_PagePlace.j0 k a1 t153 (!t154) a0_0 l0_1)))
theorem spec_PagePlace.mono_l : ∀ k, (∀ y0 y1 y2 y3 y4, LeO (spec_PagePlace.j0 k y0 y1 y2 y3 y4) (spec_PagePlace.j0 (k + 1) y0 y1 y2 y3 y4)) ∧ (∀ y0 y1 y2 y3 y4, LeO (spec_PagePlace.l0 k y0 y1 y2 y3 y4) (spec_PagePlace.l0 (k + 1) y0 y1 y2 y3 y4))
 | 0 => ⟨fun _ _ _ _ _ r h => by simp [spec_PagePlace.j0] at h, fun _ _ _ _ _ r h => by simp [spec_PagePlace.l0] at h⟩
 | k + 1 => by
  obtain ⟨ih0, ih1⟩ := spec_PagePlace.mono_l k
  refine ⟨?_, ?_⟩
  ·intro y0 y1 y2 y3 y4
   unfold spec_PagePlace.j0
   repeat' with_reducible first | exact ih0 _ _ _ _ _ | exact ih1 _ _ _ _ _ | exact spec_PageUsed.mono _ _ _ | exact LeO.refl _ | exact LeO.none _ | refine LeO.ite ?_ ?_ | refine LeO.bind ?_ (fun _ => ?_)
  ·intro y0 y1 y2 y3 y4
   unfold spec_PagePlace.l0
   repeat' with_reducible first | exact ih0 _ _ _ _ _ | exact ih1 _ _ _ _ _ | exact spec_PageUsed.mono _ _ _ | exact LeO.refl _ | exact LeO.none _ | refine LeO.ite ?_ ?_ | refine LeO.bind ?_ (fun _ => ?_)
theorem spec_PagePlace.mono : ∀ a0 a1 a2 k, LeO (spec_PagePlace.f k a0 a1 a2) (spec_PagePlace.f (k + 1) a0 a1 a2) := by
 intro a0 a1 a2 k
 obtain ⟨ih0, ih1⟩ := spec_PagePlace.mono_l k
 unfold spec_PagePlace.f
 repeat' with_reducible first | exact ih0 _ _ _ _ _ | exact ih1 _ _ _ _ _ | exact spec_PageUsed.mono _ _ _ | exact LeO.refl _ | exact LeO.none _ | refine LeO.ite ?_ ?_ | refine LeO.bind ?_ (fun _ => ?_)
set_option maxHeartbeats 8000000 in
set_option maxRecDepth 100000 in
theorem spec_PagePlace.calls (k : Nat) (a0_0 : Int) (A0_1 : Option Addr) (c0_1 : Nat) (l0_1 : List (List Int)) (a1 : Int) (r : Int) (w : World) (hr0_1 : Kd.C (Kd.slice 5 (Kd.int .u8)) w A0_1 l0_1.length l0_1) (hc0_1 : l0_1.length ≤ c0_1) (h : spec_PagePlace.f k a0_0 l0_1 a1 = some r) :
  Calls Try.prog 16 #[.agg #[.int .i64 a0_0, .slice A0_1 l0_1.length c0_1], .int .i64 a1] w fun e w' => e = .returned (.int .i64 r) ∧ Below w.heap.size w w' := by
 have hu27 := Try.underlying27
 have HR0_1 := ZA hr0_1
 have HC0_1 := ZA hc0_1
 clear hr0_1 hc0_1
 have HB := ZA (Below.refl w.heap.size w)
 have H := h
 clear h
 unfold spec_PagePlace.f at H
 replace H := Option.bind_eq_some_iff.mp H
 obtain ⟨t153, A30, H⟩ := H
 (try dsimp only at H)
 have A3 := ZA A30
 clear A30
 have HC4 := ZA H
 clear H
 go_enter Try.func16, Try.ntmps16
 go_upto_region 2 with (first | ((with_reducible refine gate_dst (N := 2) rfl ?_); refine box_event ?hg (N := 2) ?hd (cs := #[.int .i64 a0_0, .slice A0_1 l0_1.length c0_1]) (t := 27) ?hr ?_; (case hd => rfl); (case hg => rfl); (case hr => first | (go_simp; done) | (go_simp; rfl)); intro gb152 hg w5 hbox hb; have n0_ := ZA (below_step (hup HB.out) hb); have n1_ := ZA (hbox); have n2_ := Geq.mk ((Z28 : w.heap.size ≤ gb152)); have n3_ := Geq.mk ((Z28 : w.heap.size ≤ gb152)); clear HB; have HB := n0_; have BK152 := n1_; have GW152 := n2_; have GE152 := n3_; clear n0_ n1_ n2_ n3_ hb hbox hg; obtain ⟨hcz6_0, hcz6_1⟩ := blk_cells2 BK152.out; obtain ⟨hfz6_0, hfz6_1⟩ := blk_frozens2 BK152.out) | ((with_reducible refine gate_callee (f := 12) rfl ?_); refine goesL_ (some 8) rfl rfl Try.func12 Z12 rfl #[.agg #[.int .i64 a0_0, .slice A0_1 l0_1.length c0_1]] rfl Z1 ?_; (with_reducible refine (spec_PageUsed.calls k a0_0 _ _ l0_1 t153 _ ?side1 ?side2 A3.out).mono ?_); (case side1 => repeat (first | exact (Kd.C_below HR0_1.out HB.out) | (with_reducible refine Kd.C_alloc ?_ _) | (with_reducible refine Kd.C_drewN ?_ _) | (with_reducible refine Kd.C_drew ?_))); (case side2 => exact HC0_1.out); rintro e w7 ⟨rfl, hb⟩; refine ⟨_, rfl, ?_⟩; have n0_ := ZA (blk_below (bup BK152.out) hb); have n1_ := ZA (below_step (hset HB.out) hb); clear BK152 HB; have BK152 := n0_; have HB := n1_; clear n0_ n1_; (try clear hb); (try clear hb2); (try clear hk); (try clear hi)))
 (try simp only [Act.put, List.setIfInBounds_toArray, List.set_cons_zero, List.set_cons_succ])
 go_cut [15] (fun v15 wc => ∃ (kq : Nat) (x15_3 : Bool), v15 = .bool x15_3 ∧ Aside0 (spec_PagePlace.j0 kq a1 t153 x15_3 a0_0 l0_1 = some r) ∧ Aside0 (kq ≤ k) ∧ Aside0 (wc.heap[gb152]? = some (.cells #[.int .i64 a0_0, (.slice A0_1 l0_1.length c0_1)] 27 (0, 0))) ∧ Aside0 (Below w.heap.size w wc))
 case first =>
  have H := HC4.out
  clear HC4
  by_cases c8 : t153 < 0
  ·rw [if_pos c8] at H
   have c8b0 : decide (t153 < 0) = true := decide_eq_true c8
   clear c8
   (first | rw [c8b0] | (simp only [i64_w, i32_w]; rw [c8b0]) | skip)
   have H' := ZA H
   clear H
   go_wp2
   go_meet
   case rel => exact ⟨_, (true), Z7, H', ⟨by first | omega | exact Nat.le_refl _⟩, ⟨by exact bup BK152.out⟩, ⟨hset HB.out⟩⟩
  ·rw [if_neg c8] at H
   have c8b0 : decide (t153 < 0) = false := decide_eq_false c8
   clear c8
   (first | rw [c8b0] | (simp only [i64_w, i32_w]; rw [c8b0]) | skip)
   replace H := Option.bind_eq_some_iff.mp H
   obtain ⟨t154, A90, H⟩ := H
   (try dsimp only at H)
   have A9 := ZA A90
   clear A90
   have H' := ZA H
   clear H
   go_wp2_with (first | (go_at_call 37; (with_reducible refine (spec_l5in.calls a1 1 92 t154 _ A9.out).mono ?_); rintro e w' ⟨rfl, ⟨nd, rfl⟩⟩))
   go_meet
   case rel => exact ⟨_, (!t154), Z7, H', ⟨by first | omega | exact Nat.le_refl _⟩, ⟨by exact bup BK152.out⟩, ⟨hset HB.out⟩⟩
 case rest =>
  clear HC4
  try clear c1
  try clear p2
  try clear c8
  try clear c8b0
  try clear hcz6_0
  try clear hcz6_1
  try clear hfz6_0
  try clear hfz6_1
  obtain ⟨kq, x15_3, rfl, HA, HJ3, BK152, HB⟩ := hcut
  cases kq with
  | zero => exact absurd HA.out (by simp [spec_PagePlace.j0])
  | succ kj3 =>
   have H := HA.out
   clear HA
   simp only [spec_PagePlace.j0] at H
   by_cases c10 : x15_3 = true
   ·subst c10
    rw [if_pos rfl] at H
    (try dsimp only at H)
    obtain rfl := Option.some.inj H
    go_wp2
    go_ret
    exact ⟨by first | rfl | (simp [errW_none, errW_some] <;> rfl) | (simp [*, errW_none, errW_some] <;> rfl), hset HB.out⟩
   ·replace c10 := Bool.eq_false_iff.mpr c10
    subst c10
    rw [if_neg (show ¬ (false = true) by decide)] at H
    (try dsimp only at H)
    have H' := ZA H
    clear H
    go_wp2
    go_loopg [6] kj3 (fun kq v6 w' => ∃ (x6_2 : Int), v6 = .int .i64 x6_2 ∧ Aside0 (spec_PagePlace.l0 kq a1 t153 x6_2 a0_0 l0_1 = some r) ∧ Aside0 (kq ≤ kj3) ∧ Aside0 (w'.heap[gb152]? = some (.cells #[.int .i64 a0_0, (.slice A0_1 l0_1.length c0_1)] 27 (0, 0))) ∧ Aside0 (Below w.heap.size w w'))
    case atStart => exact ⟨(0), Z7, H', ⟨Nat.le_refl _⟩, ⟨by exact bup BK152.out⟩, ⟨hset HB.out⟩⟩
    case round =>
     clear H'
     try clear c1
     try clear p2
     try clear c8
     try clear c8b0
     try clear c10
     try clear hcz6_0
     try clear hcz6_1
     try clear hfz6_0
     try clear hfz6_1
     try clear p2
     obtain ⟨x6_2, rfl, HA, HK2, BK152, HB⟩ := hrel
     cases gk with
     | zero => exact absurd HA.out (by simp [spec_PagePlace.l0])
     | succ k2 =>
      have H := HA.out
      clear HA
      simp only [spec_PagePlace.l0] at H
      by_cases c11 : x6_2 < (l0_1.length : Int)
      ·rw [if_pos c11] at H
       have c11b0 : decide (x6_2 < (l0_1.length : Int)) = true := decide_eq_true c11
       clear c11
       by_cases c12 : 0 ≤ x6_2
       ·rw [if_pos c12] at H
        have c12b0 : decide (0 ≤ x6_2) = true := decide_eq_true c12
        clear c12
        by_cases c13 : ((rd_L1 l0_1 x6_2).length : Int) = 0
        ·rw [if_pos c13] at H
         have c13b0 : (((rd_L1 l0_1 x6_2).length : Int) == 0) = true := beq_iff_eq.mpr c13
         have c13b1 : (((rd_L1 l0_1 x6_2).length : Int) != 0) = false := bne_eq_false_iff_eq.mpr c13
         clear c13
         by_cases c14 : (wrap64 (t153 + a1)) ≤ 240
         ·rw [if_pos c14] at H
          have c14b0 : decide ((wrap64 (t153 + a1)) ≤ 240) = true := decide_eq_true c14
          clear c14
          obtain rfl := Option.some.inj H
          obtain ⟨hcz15_0, hcz15_1⟩ := blk_cells2 BK152.out
          obtain ⟨hfz15_0, hfz15_1⟩ := blk_frozens2 BK152.out
          have p155 : 0 ≤ (x6_2 : Int) := of_decide_eq_true Z10
          have q155 : x6_2 < (l0_1.length : Int) := of_decide_eq_true Z10
          obtain ⟨ad155, A155_0, c155_0, e155, hx155_0, hl155_0, hi155_0⟩ := at_L1 HR0_1.out x6_2 p155 q155
          cases e155
          replace hx155_0 := (HB.out.cell (World.block_lt_of_cell? w _ hx155_0)).trans hx155_0
          have HR155_0 := ZA hi155_0
          have HC155_0 := ZA hl155_0
          clear hi155_0 hl155_0
          replace p155 := eq_true p155
          replace q155 := eq_true q155
          go_wp2
          go_ret
          exact ⟨by first | rfl | (simp [errW_none, errW_some] <;> rfl) | (simp [*, errW_none, errW_some] <;> rfl), hset HB.out⟩
         ·rw [if_neg c14] at H
          have c14b0 : decide ((wrap64 (t153 + a1)) ≤ 240) = false := decide_eq_false c14
          clear c14
          have H' := ZA H
          clear H
          obtain ⟨hcz16_0, hcz16_1⟩ := blk_cells2 BK152.out
          obtain ⟨hfz16_0, hfz16_1⟩ := blk_frozens2 BK152.out
          have p155 : 0 ≤ (x6_2 : Int) := of_decide_eq_true Z10
          have q155 : x6_2 < (l0_1.length : Int) := of_decide_eq_true Z10
          obtain ⟨ad155, A155_0, c155_0, e155, hx155_0, hl155_0, hi155_0⟩ := at_L1 HR0_1.out x6_2 p155 q155
          cases e155
          replace hx155_0 := (HB.out.cell (World.block_lt_of_cell? w _ hx155_0)).trans hx155_0
          have HR155_0 := ZA hi155_0
          have HC155_0 := ZA hl155_0
          clear hi155_0 hl155_0
          replace p155 := eq_true p155
          replace q155 := eq_true q155
          go_wp2
          go_roundg k2
          case measure => have := HJ3.out; have := HK2.out; omega
          case rel => exact ⟨(wrap64 (x6_2 + 1)), Z7, H', ⟨by have := HJ3.out; have := HK2.out; omega⟩, ⟨by exact bup BK152.out⟩, ⟨hset HB.out⟩⟩
        ·rw [if_neg c13] at H
         have c13b0 : (((rd_L1 l0_1 x6_2).length : Int) == 0) = false := beq_eq_false_iff_ne.mpr c13
         have c13b1 : (((rd_L1 l0_1 x6_2).length : Int) != 0) = true := bne_iff_ne.mpr c13
         have c13b2 : ¬ ((rd_L1 l0_1 x6_2) = []) := fun h_ => c13 (by rw [h_]; rfl)
         have H' := ZA H
         clear H
         obtain ⟨hcz17_0, hcz17_1⟩ := blk_cells2 BK152.out
         obtain ⟨hfz17_0, hfz17_1⟩ := blk_frozens2 BK152.out
         have p155 : 0 ≤ (x6_2 : Int) := of_decide_eq_true Z10
         have q155 : x6_2 < (l0_1.length : Int) := of_decide_eq_true Z10
         obtain ⟨ad155, A155_0, c155_0, e155, hx155_0, hl155_0, hi155_0⟩ := at_L1 HR0_1.out x6_2 p155 q155
         cases e155
         replace hx155_0 := (HB.out.cell (World.block_lt_of_cell? w _ hx155_0)).trans hx155_0
         have HR155_0 := ZA hi155_0
         have HC155_0 := ZA hl155_0
         clear hi155_0 hl155_0
         replace p155 := eq_true p155
         replace q155 := eq_true q155
         go_wp2
         go_roundg k2
         case measure => have := HJ3.out; have := HK2.out; omega
         case rel => exact ⟨(wrap64 (x6_2 + 1)), Z7, H', ⟨by have := HJ3.out; have := HK2.out; omega⟩, ⟨by exact bup BK152.out⟩, ⟨hset HB.out⟩⟩
       ·rw [if_neg c12] at H
        exact absurd H Z44
      ·rw [if_neg c11] at H
       have c11b0 : decide (x6_2 < (l0_1.length : Int)) = false := decide_eq_false c11
       clear c11
       by_cases c18 : (l0_1.length : Int) < 16
       ·rw [if_pos c18] at H
        have c18b0 : decide ((l0_1.length : Int) < 16) = true := decide_eq_true c18
        have c18b1 : decide (l0_1.length < 16) = true := decide_eq_true Z8
        clear c18
        by_cases c19 : (wrap64 ((wrap64 (t153 + 1)) + a1)) ≤ 240
        ·rw [if_pos c19] at H
         have c19b0 : decide ((wrap64 ((wrap64 (t153 + 1)) + a1)) ≤ 240) = true := decide_eq_true c19
         clear c19
         obtain rfl := Option.some.inj H
         obtain ⟨hcz20_0, hcz20_1⟩ := blk_cells2 BK152.out
         obtain ⟨hfz20_0, hfz20_1⟩ := blk_frozens2 BK152.out
         go_wp2
         go_ret
         exact ⟨by first | rfl | (simp [errW_none, errW_some] <;> rfl) | (simp [*, errW_none, errW_some] <;> rfl), hset HB.out⟩
        ·rw [if_neg c19] at H
         have c19b0 : decide ((wrap64 ((wrap64 (t153 + 1)) + a1)) ≤ 240) = false := decide_eq_false c19
         clear c19
         obtain rfl := Option.some.inj H
         obtain ⟨hcz21_0, hcz21_1⟩ := blk_cells2 BK152.out
         obtain ⟨hfz21_0, hfz21_1⟩ := blk_frozens2 BK152.out
         go_wp2
         go_ret
         exact ⟨by first | rfl | (simp [errW_none, errW_some] <;> rfl) | (simp [*, errW_none, errW_some] <;> rfl), hset HB.out⟩
       ·rw [if_neg c18] at H
        have c18b0 : decide ((l0_1.length : Int) < 16) = false := decide_eq_false c18
        have c18b1 : decide (l0_1.length < 16) = false := decide_eq_false Z8
        clear c18
        obtain rfl := Option.some.inj H
        obtain ⟨hcz22_0, hcz22_1⟩ := blk_cells2 BK152.out
        obtain ⟨hfz22_0, hfz22_1⟩ := blk_frozens2 BK152.out
        go_wp2
        go_ret
        exact ⟨by first | rfl | (simp [errW_none, errW_some] <;> rfl) | (simp [*, errW_none, errW_some] <;> rfl), hset HB.out⟩
def spec_l7copy.l0 : Nat → Int → Int → List (List Int) → Int → List (List Int) → Option (Int × (List (List Int)))
 | 0, _, _, _, _, _ => none
 | k + 1, x4, x157000, x157001, x159000, x159001 => if x4 < (x157001.length : Int) then ((some (([] : List Int) : List Int)).bind fun y159 => (if 0 ≤ x4 then (if y159.length + (rd_L1 x157001 x4).length < 140737488355328 then (if x159001.length < 5864062014805 then (spec_l7copy.l0 k (wrap64 (x4 + 1)) x157000 x157001 x159000 (x159001 ++ [(y159 ++ (rd_L1 x157001 x4))])) else (none)) else (none)) else (none))) else (some (x159000, x159001))
def spec_l7copy.f (k : Nat) (a0_0 : Int) (l0_1 : List (List Int)) : Option (Int × (List (List Int))) := spec_l7copy.l0 k 0 a0_0 l0_1 a0_0 ([] : List (List Int))
theorem spec_l7copy.mono_l : ∀ k, (∀ y0 y1 y2 y3 y4, LeO (spec_l7copy.l0 k y0 y1 y2 y3 y4) (spec_l7copy.l0 (k + 1) y0 y1 y2 y3 y4))
 | 0 => fun _ _ _ _ _ r h => by simp [spec_l7copy.l0] at h
 | k + 1 => by
  have ih0 := spec_l7copy.mono_l k
  ·intro y0 y1 y2 y3 y4
   unfold spec_l7copy.l0
   repeat' with_reducible first | exact ih0 _ _ _ _ _ | exact LeO.refl _ | exact LeO.none _ | refine LeO.ite ?_ ?_ | refine LeO.bind ?_ (fun _ => ?_)
theorem spec_l7copy.mono : ∀ a0 a1 k, LeO (spec_l7copy.f k a0 a1) (spec_l7copy.f (k + 1) a0 a1) := by
 intro a0 a1 k
 have ih0 := spec_l7copy.mono_l k
 unfold spec_l7copy.f
 repeat' with_reducible first | exact ih0 _ _ _ _ _ | exact LeO.refl _ | exact LeO.none _ | refine LeO.ite ?_ ?_ | refine LeO.bind ?_ (fun _ => ?_)
def spec_l7copy.T5 : Bool × List (List Nat × List Nat) := (true, [([], []), ([0], [0]), ([], []), ([], []), ([3], [3]), ([], []), ([4, 5], [4, 5]), ([6], [6]), ([2, 7], [2, 7]), ([8], [8]), ([1, 9, 8], [1, 9]), ([0, 1, 2, 3, 4, 5, 6, 7, 8, 9, 10], []), ([11, 10, 10, 0, 1, 2, 3, 4, 5, 6, 7, 8, 9, 10], [10, 11])])
def spec_l7copy.B5 : List Nat := [0, 1, 0, 0, 8, 0, 56, 120, 252, 508, 1023, 2047, 4095]
theorem spec_l7copy.tab5 : rtab .any (opsOf Try.f43 5) = spec_l7copy.T5 := by kernel_rfl
theorem spec_l7copy.bits5 : waitsOk spec_l7copy.T5.2 spec_l7copy.B5 = true := by kernel_rfl
set_option maxHeartbeats 8000000 in
set_option maxRecDepth 100000 in
theorem spec_l7copy.calls (k : Nat) (a0_0 : Int) (A0_1 : Option Addr) (c0_1 : Nat) (l0_1 : List (List Int)) (r1 : Int) (r2 : List (List Int)) (w : World) (hr0_1 : Kd.C (Kd.slice 5 (Kd.int .u8)) w A0_1 l0_1.length l0_1) (hc0_1 : l0_1.length ≤ c0_1) (h : spec_l7copy.f k a0_0 l0_1 = some (r1, r2)) :
  Calls Try.prog 43 #[.agg #[.int .i64 a0_0, .slice A0_1 l0_1.length c0_1]] w fun e w' => ∃ v1_ : Value, e = .returned (.agg #[.int .i64 r1, v1_]) ∧ Kd.S (Kd.slice 5 (Kd.int .u8)) 36 w' w.heap.size (fun _ => True) v1_ r2 ∧ Below w.heap.size w w' := by
 have hu27 := Try.underlying27
 have HR0_1 := ZA hr0_1
 have HC0_1 := ZA hc0_1
 clear hr0_1 hc0_1
 have HB := ZA (Below.refl w.heap.size w)
 have H := h
 clear h
 unfold spec_l7copy.f at H
 have H' := ZA H
 clear H
 go_enter Try.func43, Try.ntmps43
 go_wp2_with (first | ((with_reducible refine gate_dst (N := 1) rfl ?_); refine box_event ?hg (N := 1) ?hd (cs := #[.int .i64 a0_0, .slice A0_1 l0_1.length c0_1]) (t := 27) ?hr ?_; (case hd => rfl); (case hg => rfl); (case hr => first | (go_simp; done) | (go_simp; rfl)); intro gb156 hg w2 hbox hb; have n0_ := ZA (below_step (hup HB.out) hb); have n1_ := ZA (hbox); have n2_ := Geq.mk ((Z28 : w.heap.size ≤ gb156)); have n3_ := Geq.mk ((Z28 : w.heap.size ≤ gb156)); clear HB; have HB := n0_; have BK156 := n1_; have GW156 := n2_; have GE156 := n3_; clear n0_ n1_ n2_ n3_ hb hbox hg) | ((with_reducible refine gate_dst (N := 2) rfl ?_); refine box_event ?hg (N := 2) ?hd (cs := #[.int .i64 0, .slice none 0 0]) (t := 27) ?hr ?_; (case hd => rfl); (case hg => rfl); (case hr => first | (go_simp; done) | (go_simp; rfl)); intro gb157 hg w3 hbox hb; have n0_ := ZA (blk_below (bup BK156.out) hb); have n1_ := ZA (below_step (hset HB.out) hb); have n2_ := ZA (hbox); have n3_ := Geq.mk ((Z34 : w.heap.size ≤ gb157)); have n4_ := Geq.mk ((Z34 : w.heap.size ≤ gb157)); have n5_ := Neq.mk ((by rw [hg]; exact Nat.ne_of_lt (blk_lt (g := gb156) (o := .cells #[.int .i64 a0_0, .slice A0_1 l0_1.length c0_1] 27 (0, 0)) (bup BK156.out)) : gb156 ≠ gb157)); have n6_ := Neq.mk ((by rw [hg]; exact Nat.ne_of_gt (blk_lt (g := gb156) (o := .cells #[.int .i64 a0_0, .slice A0_1 l0_1.length c0_1] 27 (0, 0)) (bup BK156.out)) : gb157 ≠ gb156)); clear BK156 HB; have BK156 := n0_; have HB := n1_; have BK157 := n2_; have GW157 := n3_; have GE157 := n4_; have NB156_157 := n5_; have NB157_156 := n6_; clear n0_ n1_ n2_ n3_ n4_ n5_ n6_ hb hbox hg; have hnb4 := NB156_157.out; have hnc4 := NB157_156.out; obtain ⟨hcz5_0, hcz5_1⟩ := blk_cells2 BK156.out; obtain ⟨hfz5_0, hfz5_1⟩ := blk_frozens2 BK156.out) | ((with_reducible refine gate_dst (N := 3) rfl ?_); refine box_event ?hg (N := 3) ?hd (cs := #[.int .i64 0, .slice none 0 0]) (t := 27) ?hr ?_; (case hd => rfl); (case hg => rfl); (case hr => first | (go_simp; done) | (go_simp; rfl)); intro gb158 hg w6 hbox hb; have n0_ := ZA (blk_below (bup BK156.out) hb); have n1_ := ZA (blk_below (bup BK157.out) hb); have n2_ := ZA (below_step (hset HB.out) hb); have n3_ := ZA (hbox); have n4_ := Geq.mk ((Z34 : w.heap.size ≤ gb158)); have n5_ := Geq.mk ((Z34 : w.heap.size ≤ gb158)); have n6_ := Neq.mk ((by rw [hg]; exact Nat.ne_of_lt (blk_lt (g := gb156) (o := .cells #[.int .i64 a0_0, .slice A0_1 l0_1.length c0_1] 27 (0, 0)) (bup BK156.out)) : gb156 ≠ gb158)); have n7_ := Neq.mk ((by rw [hg]; exact Nat.ne_of_gt (blk_lt (g := gb156) (o := .cells #[.int .i64 a0_0, .slice A0_1 l0_1.length c0_1] 27 (0, 0)) (bup BK156.out)) : gb158 ≠ gb156)); have n8_ := Neq.mk ((by rw [hg]; exact Nat.ne_of_lt (blk_lt (g := gb157) (o := .cells #[.int .i64 0, .slice none 0 0] 27 (0, 0)) (bup BK157.out)) : gb157 ≠ gb158)); have n9_ := Neq.mk ((by rw [hg]; exact Nat.ne_of_gt (blk_lt (g := gb157) (o := .cells #[.int .i64 0, .slice none 0 0] 27 (0, 0)) (bup BK157.out)) : gb158 ≠ gb157)); clear BK156 BK157 HB; have BK156 := n0_; have BK157 := n1_; have HB := n2_; have BK158 := n3_; have GW158 := n4_; have GE158 := n5_; have NB156_158 := n6_; have NB158_156 := n7_; have NB157_158 := n8_; have NB158_157 := n9_; clear n0_ n1_ n2_ n3_ n4_ n5_ n6_ n7_ n8_ n9_ hb hbox hg; have hnb7 := NB158_156.out; have hnc7 := NB156_158.out; have hnb8 := NB158_157.out; have hnc8 := NB157_158.out; obtain ⟨hcz9_0, hcz9_1⟩ := blk_cells2 BK158.out; obtain ⟨hfz9_0, hfz9_1⟩ := blk_frozens2 BK158.out))
 go_loopg [4] k (fun kq v4 w' => ∃ (x4_1 : Int) (x159001_1 : List (List Int)) (u159001 : Value), v4 = .int .i64 x4_1 ∧ Aside0 (spec_l7copy.l0 kq x4_1 a0_0 l0_1 a0_0 x159001_1 = some (r1, r2)) ∧ Aside0 (kq ≤ k) ∧ Aside0 (Kd.S (Kd.slice 5 (Kd.int .u8)) 36 w' w.heap.size (fun _ => True) u159001 x159001_1) ∧ Aside0 (w'.heap[gb156]? = some (.cells #[.int .i64 a0_0, (.slice A0_1 l0_1.length c0_1)] 27 (0, 0))) ∧ Aside0 (w'.heap[gb157]? = some (.cells #[.int .i64 0, (.slice none 0 0)] 27 (0, 0))) ∧ Aside0 (w'.heap[gb158]? = some (.cells #[.int .i64 a0_0, u159001] 27 (0, 0))) ∧ Aside0 (Below w.heap.size w w'))
 case atStart => exact ⟨(0), (([] : List (List Int))), (.slice none 0 0), Z7, H', ⟨Nat.le_refl _⟩, ⟨by first | exact Kd.S_nil _ _ _ _ _ | exact Kd.N_nil _ _ _ _ _ | exact Kd.V_nil _ _ _ _ _ | exact Kd.Q_nil _ _ _ _ _ | exact Kd.R_nil _ _ _ _ _⟩, ⟨bput BK156.out⟩, ⟨bput BK157.out⟩, ⟨bput BK158.out⟩, ⟨hset HB.out⟩⟩
 case round =>
  clear H'
  try clear p2
  try clear c4
  try clear c7
  try clear c8
  try clear hcz5_0
  try clear hcz5_1
  try clear hcz9_0
  try clear hcz9_1
  try clear hfz5_0
  try clear hfz5_1
  try clear hfz9_0
  try clear hfz9_1
  obtain ⟨x4_1, x159001_1, u159001, rfl, HA, HK1, HO_159001, BK156, BK157, BK158, HB⟩ := hrel
  cases gk with
  | zero => exact absurd HA.out (by simp [spec_l7copy.l0])
  | succ k1 =>
   have H := HA.out
   clear HA
   simp only [spec_l7copy.l0] at H
   by_cases c10 : x4_1 < (l0_1.length : Int)
   ·rw [if_pos c10] at H
    have c10b0 : decide (x4_1 < (l0_1.length : Int)) = true := decide_eq_true c10
    clear c10
    obtain ⟨y159, hy159⟩ : ∃ y_ : List Int, y_ = (([] : List Int)) := ⟨_, rfl⟩
    replace H : (if 0 ≤ x4_1 then (if y159.length + (rd_L1 l0_1 x4_1).length < 140737488355328 then (if x159001_1.length < 5864062014805 then (spec_l7copy.l0 k1 (wrap64 (x4_1 + 1)) a0_0 l0_1 a0_0 (x159001_1 ++ [(y159 ++ (rd_L1 l0_1 x4_1))])) else (none)) else (none)) else (none)) = some (r1, r2) := by first | (rw [hy159]; with_reducible exact H) | (have H2_ := (Option.bind_some _ _).symm.trans H; rw [hy159]; with_reducible exact H2_) | (have H2_ := (Option.bind_some _ _).symm.trans H; with_reducible exact H2_) | with_reducible exact H | (rw [hy159]; exact H) | exact H
    have Ny159 := ZA hy159
    clear hy159
    by_cases c11 : 0 ≤ x4_1
    ·rw [if_pos c11] at H
     have c11b0 : decide (0 ≤ x4_1) = true := decide_eq_true c11
     clear c11
     by_cases c12 : y159.length + (rd_L1 l0_1 x4_1).length < 140737488355328
     ·rw [if_pos c12] at H
      have LMc12 := ZA c12
      clear c12
      obtain ⟨y163, hy163⟩ : ∃ y_ : List Int, y_ = (y159 ++ (rd_L1 l0_1 x4_1)) := ⟨_, rfl⟩
      replace H : (if x159001_1.length < 5864062014805 then (spec_l7copy.l0 k1 (wrap64 (x4_1 + 1)) a0_0 l0_1 a0_0 (x159001_1 ++ [y163])) else (none)) = some (r1, r2) := by first | (rw [hy163]; with_reducible exact H) | (have H2_ := (Option.bind_some _ _).symm.trans H; rw [hy163]; with_reducible exact H2_) | (have H2_ := (Option.bind_some _ _).symm.trans H; with_reducible exact H2_) | with_reducible exact H | (rw [hy163]; exact H) | exact H
      have Ny163 := ZA hy163
      clear hy163
      by_cases c13 : x159001_1.length < 5864062014805
      ·rw [if_pos c13] at H
       have LMc13 := ZA c13
       clear c13
       obtain ⟨y166, hy166⟩ : ∃ y_ : List (List Int), y_ = (x159001_1 ++ [y163]) := ⟨_, rfl⟩
       replace H : (spec_l7copy.l0 k1 (wrap64 (x4_1 + 1)) a0_0 l0_1 a0_0 y166) = some (r1, r2) := by first | (rw [hy166]; with_reducible exact H) | (have H2_ := (Option.bind_some _ _).symm.trans H; rw [hy166]; with_reducible exact H2_) | (have H2_ := (Option.bind_some _ _).symm.trans H; with_reducible exact H2_) | with_reducible exact H | (rw [hy166]; exact H) | exact H
       have Ny166 := ZA hy166
       clear hy166
       have H' := ZA H
       clear H
       have hnb14 := NB156_157.out
       have hnc14 := NB157_156.out
       have hnb15 := NB156_158.out
       have hnc15 := NB158_156.out
       obtain ⟨hcz16_0, hcz16_1⟩ := blk_cells2 BK156.out
       obtain ⟨hfz16_0, hfz16_1⟩ := blk_frozens2 BK156.out
       try go_wp2
       have n0_ := ZA (Kd.S_drew HO_159001.out)
       have n1_ := ZA (blk_drew BK156.out)
       have n2_ := ZA (blk_drew BK157.out)
       have n3_ := ZA (blk_drew BK158.out)
       have n4_ := ZA (below_drew1 HB.out)
       clear HO_159001
       clear BK156
       clear BK157
       clear BK158
       clear HB
       have HO_159001 := n0_
       have BK156 := n1_
       have BK157 := n2_
       have BK158 := n3_
       have HB := n4_
       clear n0_ n1_ n2_ n3_ n4_
       have p162 : 0 ≤ (x4_1 : Int) := of_decide_eq_true Z10
       have q162 : x4_1 < (l0_1.length : Int) := of_decide_eq_true Z10
       obtain ⟨ad162, A162_0, c162_0, e162, hx162_0, hl162_0, hi162_0⟩ := at_L1 HR0_1.out x4_1 p162 q162
       have hw162_0 := hx162_0
       cases e162
       replace hx162_0 := (HB.out.cell (World.block_lt_of_cell? w _ hx162_0)).trans hx162_0
       have HR162_0 := ZA hi162_0
       have HC162_0 := ZA hl162_0
       clear hi162_0 hl162_0
       replace p162 := eq_true p162
       replace q162 := eq_true q162
       refine start_ (n := 13) (S := fun w' => w'.cell? ⟨gb158, 0, none⟩ = some (.int .i64 a0_0) ∧ w'.cell? ⟨gb158, 1, none⟩ = some (u159001) ∧ w'.cell? ⟨gb156, 0, none⟩ = some (.int .i64 a0_0) ∧ w'.cell? ⟨gb156, 1, none⟩ = some (.slice (some ad162) l0_1.length c0_1) ∧ w'.cell? (ad162.add (x4_1).toNat) = some (.slice A162_0 (rd_L1 l0_1 x4_1).length c162_0)) (ds := [12]) #[false, false, false, false, false, false, false, false, false, false, false, false, false] Z12 rfl rfl ⟨(blk_cell BK158.out 0).trans rfl, (blk_cell BK158.out 1).trans rfl, (blk_cell BK156.out 0).trans rfl, (blk_cell BK156.out 1).trans rfl, ((HB.out.cell (World.block_lt_of_cell? w _ hw162_0)).trans hw162_0)⟩ (fun hHeld => ?_); refine with_tabW spec_l7copy.tab5 spec_l7copy.bits5 (fun HT_ HW_ => ?_)
       generalize wr.drew = w17 at HO_159001 BK156 BK157 BK158 HB HR162_0 hx162_0 hHeld ⊢
       refine pure_ (i := 0) (N := some 15) (v := ?_) (a' := ?_) #[true, false, false, false, false, false, false, false, false, false, false, false, false] rfl rfl (any_of HT_.out Z12) (fun _ _ _ h => h) (Or.inl ⟨by rfl, ?_⟩) ?_ ?_
       rotate_left
       ·intro w'
        go_simp
        with_reducible rfl
       rotate_left
       ·simp only [Act.put, List.setIfInBounds_toArray, List.set_cons_zero, List.set_cons_succ, i64_w, i32_w]
        rfl
       refine pure_ (i := 3) (N := some 18) (v := ?_) (a' := ?_) #[true, false, false, true, false, false, false, false, false, false, false, false, false] rfl rfl (any_of HT_.out Z12) (fun _ _ _ h => h) (Or.inl ⟨by rfl, ?_⟩) ?_ ?_
       rotate_left
       ·intro w'
        go_simp
        with_reducible rfl
       rotate_left
       ·simp only [Act.put, List.setIfInBounds_toArray, List.set_cons_zero, List.set_cons_succ, i64_w, i32_w]
        rfl
       refine pure_ (i := 5) (N := some 20) (v := ?_) (a' := ?_) #[true, false, false, true, false, true, false, false, false, false, false, false, false] rfl rfl (any_of HT_.out Z12) (fun _ _ _ h => h) (Or.inl ⟨by rfl, ?_⟩) ?_ ?_
       rotate_left
       ·intro w'
        go_simp
        with_reducible rfl
       rotate_left
       ·simp only [Act.put, List.setIfInBounds_toArray, List.set_cons_zero, List.set_cons_succ, i64_w, i32_w]
        rfl
       refine take_ (i := 1) (N := some 16) (v := ?_) (a' := ?_) #[true, true, false, true, false, true, false, false, false, false, false, false, false] rfl rfl (take_ofW HT_.out HW_.out Z12) (fun _ _ _ h => h) (Or.inl ⟨by rfl, ?_⟩) hHeld ?_ ?_
       rotate_left
       ·rintro w' ⟨s0, s1, s2, s3, s4⟩
        go_simp
        with_reducible rfl
       rotate_left
       ·simp only [Act.put, List.setIfInBounds_toArray, List.set_cons_zero, List.set_cons_succ, i64_w, i32_w]
        rfl
       refine take_ (i := 4) (N := some 19) (v := ?_) (a' := ?_) #[true, true, false, true, true, true, false, false, false, false, false, false, false] rfl rfl (take_ofW HT_.out HW_.out Z12) (fun _ _ _ h => h) (Or.inl ⟨by rfl, ?_⟩) hHeld ?_ ?_
       rotate_left
       ·rintro w' ⟨s0, s1, s2, s3, s4⟩
        go_simp
        with_reducible rfl
       rotate_left
       ·simp only [Act.put, List.setIfInBounds_toArray, List.set_cons_zero, List.set_cons_succ, i64_w, i32_w]
        rfl
       refine pure_ (i := 6) (N := some 21) (v := ?_) (a' := ?_) #[true, true, false, true, true, true, true, false, false, false, false, false, false] rfl rfl (any_of HT_.out Z12) (fun _ _ _ h => h) (Or.inl ⟨by rfl, ?_⟩) ?_ ?_
       rotate_left
       ·intro w'
        go_simp
        with_reducible rfl
       rotate_left
       ·simp only [Act.put, List.setIfInBounds_toArray, List.set_cons_zero, List.set_cons_succ, i64_w, i32_w]
        rfl
       refine take_ (i := 7) (N := some 22) (v := ?_) (a' := ?_) #[true, true, false, true, true, true, true, true, false, false, false, false, false] rfl rfl (take_ofW HT_.out HW_.out Z12) (fun _ _ _ h => h) (Or.inl ⟨by rfl, ?_⟩) hHeld ?_ ?_
       rotate_left
       ·rintro w' ⟨s0, s1, s2, s3, s4⟩
        go_simp
        with_reducible rfl
       rotate_left
       ·simp only [Act.put, List.setIfInBounds_toArray, List.set_cons_zero, List.set_cons_succ, i64_w, i32_w]
        rfl
       refine one_ (i := 2) (N := some 17) #[true, true, true, true, true, true, true, true, false, false, false, false, false] rfl rfl (one_of HT_.out Z12) Z25 (fun K hK => ?_)
       refine Kd.R_lit_step (Kd.int .u8) _ 5 ?hg (N := 17) ?hd (xs := ([] : List Int)) (inner := []) (ok := fun _ => True) (okp := fun _ => True) ?hr ?hp (fun _ hk => hk) trivial (Below.refl _ _) (Nat.le_refl _) Z44 ?_; (case hd => rfl); (case hg => rfl); (case hr => first | (go_simp; done) | (go_simp; rfl)); (case hp => exact (Reps.none _ _))
       intro v160 w18 ho19 hb hg_ hnew_
       clear hg_ hnew_
       (first | rw [← Ny159.out] at ho19 | (simp only [Int.reduceToNat] at ho19; rw [← Ny159.out] at ho19))
       have n0_ := ZA (Kd.S_elder' (by (with_reducible repeat (first | apply Kd.S_alloc | apply Kd.S_drewN | apply Kd.S_drew)); exact HO_159001.out) (Kd.R_base ho19) hb)
       have n1_ := ZA (Kd.R_lower ho19 (below_size (hset HB.out)))
       have n2_ := ZA (blk_below (bup BK156.out) hb)
       have n3_ := ZA (blk_below (bup BK157.out) hb)
       have n4_ := ZA (blk_below (bup BK158.out) hb)
       have n5_ := ZA (below_step (hset HB.out) hb)
       clear HO_159001
       clear BK156
       clear BK157
       clear BK158
       clear HB
       have HO_159001 := n0_
       have HO161 := n1_
       have BK156 := n2_
       have BK157 := n3_
       have BK158 := n4_
       have HB := n5_
       clear n0_ n1_ n2_ n3_ n4_ n5_
       clear hb ho19
       refine hK.out _ _ ⟨(blk_cell BK158.out 0).trans rfl, (blk_cell BK158.out 1).trans rfl, (blk_cell BK156.out 0).trans rfl, (blk_cell BK156.out 1).trans rfl, ((HB.out.cell (World.block_lt_of_cell? w _ hw162_0)).trans hw162_0)⟩ (fun hHeld => ?_)
       clear hK K
       refine norm_ (a' := ?_) ?_ ?_
       rotate_left
       ·show Act.put _ (some 17) _ = _
        simp only [Act.put, List.setIfInBounds_toArray, List.set_cons_zero, List.set_cons_succ, i64_w, i32_w]
        rfl
       refine one_ (i := 8) (N := some 23) #[true, true, true, true, true, true, true, true, true, false, false, false, false] rfl rfl (one_of HT_.out Z12) Z25 (fun K hK => ?_)
       refine Kd.R_append_rows_step (Kd.int .u8) (w0 := w) w.heap.size Z94 (.tmp 17) (.tmp 22) 36 5 (.int .u8 0) 1 rfl Try.underlying36 info5 rfl Z25 Z8 v160 y159 (rd_L1 l0_1 x4_1) _ _ _ (fun _ => True) (fun _ => False) rfl rfl ?aO ?aR (fun _ _ h => h) (fun _ h => h.elim) ?aF ?aB ?aS ?aL ?_
       (case aR => repeat (first | exact (Kd.C_below HR162_0.out HB.out) | (with_reducible refine Kd.C_alloc ?_ _) | (with_reducible refine Kd.C_drewN ?_ _) | (with_reducible refine Kd.C_drew ?_)))
       (case aB => exact (hset HB.out))
       (case aF => exact (fun _ _ => trivial))
       (case aO => exact (Kd.rup HO161.out))
       (case aS => exact (below_size (hset HB.out)))
       (case aL => have := LMc12.out; omega)
       intro v164 w20 ho hb hg hat
       rw [← Ny163.out] at ho
       have n0_ := ZA (Kd.S_after (ok := (fun _ => True)) (by (with_reducible repeat (first | apply Kd.S_alloc | apply Kd.S_drewN | apply Kd.S_drew)); exact HO_159001.out) hg hat)
       have n1_ := ZA (blk_grown (g := gb156) (o := .cells #[.int .i64 a0_0, .slice (some ad162) l0_1.length c0_1] 27 (0, 0)) (bup BK156.out) hg (Kd.R_ne HO161.out BK156.out Z25))
       have n2_ := ZA (blk_grown (g := gb157) (o := .cells #[.int .i64 0, .slice none 0 0] 27 (0, 0)) (bup BK157.out) hg (Kd.R_ne HO161.out BK157.out Z25))
       have n3_ := ZA (blk_grown (g := gb158) (o := .cells #[.int .i64 a0_0, u159001] 27 (0, 0)) (bup BK158.out) hg (Kd.R_ne HO161.out BK158.out Z25))
       have n4_ := ZA (hb)
       have n5_ := ZA (ho)
       clear HO_159001
       clear BK156
       clear BK157
       clear BK158
       clear HB
       clear HO161
       have HO_159001 := n0_
       have BK156 := n1_
       have BK157 := n2_
       have BK158 := n3_
       have HB := n4_
       have HO165 := n5_
       clear n0_ n1_ n2_ n3_ n4_ n5_
       clear ho hb hg hat
       obtain ⟨Ao22, co22, eo22⟩ := Kd.R_slice HO165.out
       (first | subst eo22 | (injection eo22 with f1_ f2_ f3_; have f4_ := f1_.symm; have f5_ := f3_.symm; clear f1_ f2_ f3_; subst f4_; subst f5_))
       refine hK.out _ _ ⟨(blk_cell BK158.out 0).trans rfl, (blk_cell BK158.out 1).trans rfl, (blk_cell BK156.out 0).trans rfl, (blk_cell BK156.out 1).trans rfl, ((HB.out.cell (World.block_lt_of_cell? w _ hw162_0)).trans hw162_0)⟩ (fun hHeld => ?_)
       clear hK K
       refine norm_ (a' := ?_) ?_ ?_
       rotate_left
       ·show Act.put _ (some 23) _ = _
        simp only [Act.put, List.setIfInBounds_toArray, List.set_cons_zero, List.set_cons_succ, i64_w, i32_w]
        rfl
       refine one_ (i := 9) (N := some 24) #[true, true, true, true, true, true, true, true, true, true, false, false, false] rfl rfl (one_of HT_.out Z12) Z25 (fun K hK => ?_)
       refine value_ (w1 := ?_) (v := ?_) Z94 rfl ?_ ?_
       rotate_left 2
       ·go_simp
        constructor
        ·rfl
        ·rfl
       refine hK.out _ _ ⟨(blk_cell (blk_alloc BK158.out _) 0).trans rfl, (blk_cell (blk_alloc BK158.out _) 1).trans rfl, (blk_cell (blk_alloc BK156.out _) 0).trans rfl, (blk_cell (blk_alloc BK156.out _) 1).trans rfl, (World.cell?_alloc_lt _ _ _ (World.block_lt_of_cell? _ _ (((HB.out.cell (World.block_lt_of_cell? w _ hw162_0)).trans hw162_0)))).trans (((HB.out.cell (World.block_lt_of_cell? w _ hw162_0)).trans hw162_0))⟩ (fun hHeld => ?_)
       clear hK K
       refine norm_ (a' := ?_) ?_ ?_
       rotate_left
       ·show Act.put _ (some 24) _ = _
        simp only [Act.put, List.setIfInBounds_toArray, List.set_cons_zero, List.set_cons_succ, i64_w, i32_w]
        rfl
       refine one_ (i := 10) (N := some 25) #[true, true, true, true, true, true, true, true, true, true, true, false, false] rfl rfl (one_of HT_.out Z12) Z25 (fun K hK => ?_)
       refine Kd.S_append_step (Kd.slice 5 (Kd.int .u8)) (w0 := w) w.heap.size Z94 (.tmp 16) (.tmp 24) 22 36 (.slice none 0 0) 24 rfl Try.underlying22 info36 rfl Z25 Z8 u159001 x159001_1 y163 [.slice Ao22 y163.length co22] (fun _ => True) (fun k_ => some k_ = (.slice Ao22 y163.length co22 : Value).ownBlock) rfl rfl ?aP (fun k_ hk_ => ((Kd.R_mono (ok' := fun k_ => ((fun _ => True)) k_ ∧ some k_ ≠ (u159001 : Value).ownBlock) (Kd.R_apart' (HO165.out) (Kd.S_typed HO_159001.out) Z25) (fun k_ hk => ⟨trivial, hk.2⟩))).1 k_ hk_.symm) ?aF ?aO ?aB ?aS ?aL ?_
       (case aP => exact Kd.M_row (Kd.R_mono (Kd.R_tight rfl (Kd.R_mono (ok' := fun k_ => ((fun _ => True)) k_ ∧ some k_ ≠ (u159001 : Value).ownBlock) (Kd.R_apart' (HO165.out) (Kd.S_typed HO_159001.out) Z25) (fun k_ hk => ⟨trivial, hk.2⟩))) (fun _ h_ => h_)))
       (case aB => exact (hset HB.out))
       (case aF => exact (fun _ _ => trivial))
       (case aO => exact (by (with_reducible repeat (first | apply Kd.S_alloc | apply Kd.S_drewN | apply Kd.S_drew)); exact Kd.S_mono HO_159001.out (fun k_ hk => ⟨trivial, fun e_ => hk.2 e_⟩)))
       (case aS => exact (below_size (hset HB.out)))
       (case aL => have := LMc13.out; omega)
       intro v167 w21 ho hb hg hat
       rw [← Ny166.out] at ho
       have n0_ := ZA (blk_grown (g := gb156) (o := .cells #[.int .i64 a0_0, .slice (some ad162) l0_1.length c0_1] 27 (0, 0)) (bup BK156.out) hg (Kd.S_ne HO_159001.out BK156.out Z25))
       have n1_ := ZA (blk_grown (g := gb157) (o := .cells #[.int .i64 0, .slice none 0 0] 27 (0, 0)) (bup BK157.out) hg (Kd.S_ne HO_159001.out BK157.out Z25))
       have n2_ := ZA (blk_grown (g := gb158) (o := .cells #[.int .i64 a0_0, u159001] 27 (0, 0)) (bup BK158.out) hg (Kd.S_ne HO_159001.out BK158.out Z25))
       have n3_ := ZA (hb)
       have n4_ := ZA (ho)
       clear BK156
       clear BK157
       clear BK158
       clear HB
       clear HO_159001
       clear HO165
       have BK156 := n0_
       have BK157 := n1_
       have BK158 := n2_
       have HB := n3_
       have HO168 := n4_
       clear n0_ n1_ n2_ n3_ n4_
       clear ho hb hg hat
       obtain ⟨Ao23, co23, eo23⟩ := Kd.S_slice HO168.out
       (first | subst eo23 | (injection eo23 with f1_ f2_ f3_; have f4_ := f1_.symm; have f5_ := f3_.symm; clear f1_ f2_ f3_; subst f4_; subst f5_))
       refine hK.out _ _ ⟨(blk_cell BK158.out 0).trans rfl, (blk_cell BK158.out 1).trans rfl, (blk_cell BK156.out 0).trans rfl, (blk_cell BK156.out 1).trans rfl, ((HB.out.cell (World.block_lt_of_cell? w _ hw162_0)).trans hw162_0)⟩ (fun hHeld => ?_)
       clear hK K
       refine norm_ (a' := ?_) ?_ ?_
       rotate_left
       ·show Act.put _ (some 25) _ = _
        simp only [Act.put, List.setIfInBounds_toArray, List.set_cons_zero, List.set_cons_succ, i64_w, i32_w]
        rfl
       refine pure_ (i := 11) (N := some 26) (v := ?_) (a' := ?_) #[true, true, true, true, true, true, true, true, true, true, true, true, false] rfl rfl (any_of HT_.out Z12) (fun _ _ _ h => h) (Or.inl ⟨by rfl, ?_⟩) ?_ ?_
       rotate_left
       ·intro w'
        go_simp
        with_reducible rfl
       rotate_left
       ·simp only [Act.put, List.setIfInBounds_toArray, List.set_cons_zero, List.set_cons_succ, i64_w, i32_w]
        rfl
       refine last_ (i := 12) (N := none) #[true, true, true, true, true, true, true, true, true, true, true, true, true] rfl rfl (one_of HT_.out Z12) Z25 (fun K hK => ?_)
       have hs24 : w21.cell? ⟨gb158, 1, none⟩ = some (u159001) := (blk_cell BK158.out 1).trans rfl
       have hfs24 := blk_frozen BK158.out 1
       have hns24_0 := NB156_158.out
       have hns24_1 := NB157_158.out
       have hms24_0 := NB158_156.out
       have hms24_1 := NB158_157.out
       refine skip_ (w1 := ?_) ?hw_ ?hN_ ?_ ?_
       case hN_ => rfl
       case hw_ => rfl
       rotate_left
       ·go_simp
        rfl
       refine hK.out _ _ ?_
       clear hK K
       refine done_ (done_of HT_.out Z12) ?_
       try go_wp2
       go_roundg k1
       case measure => have := HK1.out; omega
       case rel => exact ⟨(wrap64 (x4_1 + 1)), (y166), (.slice Ao23 y166.length co23), Z7, H', ⟨by have := HK1.out; omega⟩, ⟨by (with_reducible repeat (first | apply Kd.S_alloc | apply Kd.S_drewN | apply Kd.S_drew)); exact Kd.S_mono (Kd.S_far (p := ⟨gb158, 1, none⟩) (Kd.S_types HO168.out BK158.out Z25) (fun _ hk => hk.2) (.slice Ao23 y166.length co23)) (fun _ hk => trivial)⟩, ⟨bput BK156.out⟩, ⟨bput BK157.out⟩, ⟨bput BK158.out⟩, ⟨hset HB.out⟩⟩
      ·rw [if_neg c13] at H
       exact absurd H Z44
     ·rw [if_neg c12] at H
      exact absurd H Z44
    ·rw [if_neg c11] at H
     exact absurd H Z44
   ·rw [if_neg c10] at H
    have c10b0 : decide (x4_1 < (l0_1.length : Int)) = false := decide_eq_false c10
    clear c10
    simp only [Option.some.injEq, Prod.mk.injEq] at H
    obtain ⟨rfl, rfl⟩ := H
    have hnb25 := NB156_157.out
    have hnc25 := NB157_156.out
    have hnb26 := NB156_158.out
    have hnc26 := NB158_156.out
    obtain ⟨hcz27_0, hcz27_1⟩ := blk_cells2 BK156.out
    obtain ⟨hfz27_0, hfz27_1⟩ := blk_frozens2 BK156.out
    have hnb28 := NB158_157.out
    have hnc28 := NB157_158.out
    obtain ⟨hcz29_0, hcz29_1⟩ := blk_cells2 BK158.out
    obtain ⟨hfz29_0, hfz29_1⟩ := blk_frozens2 BK158.out
    obtain ⟨hcz30_0, hcz30_1⟩ := blk_cells2 BK157.out
    obtain ⟨hfz30_0, hfz30_1⟩ := blk_frozens2 BK157.out
    obtain ⟨Ao31, co31, eo31⟩ := Kd.S_slice HO_159001.out
    subst eo31
    go_wp2
    refine bodyPost_ret (results_cell_row rfl _ _ gb157 27 #[.int .i64 a0_0, .slice Ao31 x159001_1.length co31] (0, 0) _ rfl (bput BK157.out) Try.underlying27 rfl Z12) rfl ?_
    exact ⟨_, by first | rfl | (simp [errW_none, errW_some] <;> rfl) | (simp [*, errW_none, errW_some] <;> rfl), by (with_reducible repeat (first | apply Kd.S_alloc | apply Kd.S_drewN | apply Kd.S_drew)); exact Kd.S_mono (Kd.S_far (p := ⟨gb157, 1, none⟩) (Kd.S_far (p := ⟨gb157, 0, none⟩) (Kd.S_types HO_159001.out BK157.out Z25) (fun _ hk => hk.2) (.int .i64 a0_0)) (fun _ hk => hk.2) (.slice Ao31 x159001_1.length co31)) (fun _ hk => trivial), hset HB.out⟩
end Go.Proofs.Ytokpniagnbaflaa.PFnPlaces
