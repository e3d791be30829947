import Derived.Test.YtokpniagnbaflaaZFnPlaces29
import Derived.Test.YtokpniagnbaflaaZFnPlacesA
namespace Go.Proofs.Ytokpniagnbaflaa.PFnPlaces
open Go.RowKit Go.Proofs.YtokpniagnbaflaaW.PrintWords Go.Proofs.YtokpniagnbaflaaW.PrintLast Go.Proofs.YtokpniagnbaflaaW.PrintMore
attribute [local go_sem] max2_int min2_int max_two min_two max_three min_three max_four min_four   -- for this text's walks alone
attribute [local go_sem high] fl_eql fl_neq fl_lss fl_leq fl_gtr fl_geq fl_add fl_sub fl_mul fl_quo fl_neg fl_ofInt fl_toInt fl_store sub_sign fl_nan_quo fl_nan_add fl_nan_mul fl_nan_sub
open Go.Proofs.YtokpniagnbaflaaW.PrintWords renaming below_alloc → h1, pw_below_drewN → h2, below_drew1 → h3, below_set → h4, blk_drewN → b1, blk_drew → b2, blk_alloc → b3
set_option linter.unusedVariables false
set_option linter.unusedSimpArgs false
def spec_l5in.f (a0 : Int) (a1 : Int) (a2 : Int) : Option (Bool) := if a0 ≥ a1 then (some (decide (a0 ≤ a2))) else (some false)
set_option maxHeartbeats 8000000 in
set_option maxRecDepth 100000 in
theorem spec_l5in.calls (a0 : Int) (a1 : Int) (a2 : Int) (r : Bool) (w : World) (h : spec_l5in.f a0 a1 a2 = some r) :
    Calls Try.prog 37 #[.int .i64 a0, .int .i64 a1, .int .i64 a2] w fun e w' => e = .returned (.bool r) ∧ Drawn0 w w' := by
  have H := h
  clear h
  unfold spec_l5in.f at H
  by_cases c4 : a0 ≥ a1
  · rw [if_pos c4] at H
    have c4b0 : decide (a1 ≤ a0) = true := decide_eq_true c4
    clear c4
    obtain rfl := Option.some.inj H
    go_enter Try.func37, Try.ntmps37
    go_wp2
    go_ret
    exact ⟨by first | rfl | (simp; done) | (simp [*]; done), Z24⟩
  · rw [if_neg c4] at H
    have c4b0 : decide (a1 ≤ a0) = false := decide_eq_false c4
    clear c4
    obtain rfl := Option.some.inj H
    go_enter Try.func37, Try.ntmps37
    go_wp2
    go_ret
    exact ⟨by first | rfl | (simp; done) | (simp [*]; done), Z24⟩
mutual
def spec_PageUsed.j0 : Nat → Bool → Int → List (List Int) → Option (Int)
 | 0, _, _, _ => none
 | k + 1, x14, x102000, x102001 => if x14 = true then (some (-1)) else (spec_PageUsed.l0 k (wrap64 (1 + (x102001.length : Int))) 0 x102000 x102001)
def spec_PageUsed.l0 : Nat → Int → Int → Int → List (List Int) → Option (Int)
 | 0, _, _, _, _ => none
 | k + 1, x3, x4, x102000, x102001 => if x4 < (x102001.length : Int) then (if 0 ≤ x4 then (if ((rd_L1 x102001 x4).length : Int) > 92 then (some (-1)) else (spec_PageUsed.l0 k (wrap64 (x3 + ((rd_L1 x102001 x4).length : Int))) (wrap64 (x4 + 1)) x102000 x102001)) else (none)) else (if (x102001.length : Int) > 0 then (if 0 ≤ (wrap64 ((x102001.length : Int) - 1)) then (if (wrap64 ((x102001.length : Int) - 1)) < (x102001.length : Int) then (spec_PageUsed.j2 k x3 (((rd_L1 x102001 (wrap64 ((x102001.length : Int) - 1))).length : Int) == 0)) else (none)) else (none)) else (spec_PageUsed.j2 k x3 false))
def spec_PageUsed.j2 : Nat → Int → Bool → Option (Int)
 | 0, _, _ => none
 | k + 1, x3, x56 => if x56 = true then (some (-1)) else (if x3 > 240 then (some (-1)) else (some x3))
end
def spec_PageUsed.f (k : Nat) (a0_0 : Int) (l0_1 : List (List Int)) : Option (Int) := (spec_l5in.f a0_0 0 1000000).bind fun t102 => (if t102 = true then (spec_PageUsed.j0 k (decide ((l0_1.length : Int) > 16)) a0_0 l0_1) else (spec_PageUsed.j0 k true a0_0 l0_1))
theorem spec_PageUsed.mono_l : ∀ k, (∀ y0 y1 y2, LeO (spec_PageUsed.j0 k y0 y1 y2) (spec_PageUsed.j0 (k + 1) y0 y1 y2)) ∧ (∀ y0 y1 y2 y3, LeO (spec_PageUsed.l0 k y0 y1 y2 y3) (spec_PageUsed.l0 (k + 1) y0 y1 y2 y3)) ∧ (∀ y0 y1, LeO (spec_PageUsed.j2 k y0 y1) (spec_PageUsed.j2 (k + 1) y0 y1))
 | 0 => ⟨fun _ _ _ r h => by simp [spec_PageUsed.j0] at h, fun _ _ _ _ r h => by simp [spec_PageUsed.l0] at h, fun _ _ r h => by simp [spec_PageUsed.j2] at h⟩
 | k + 1 => by
  obtain ⟨ih0, ih1, ih2⟩ := spec_PageUsed.mono_l k
  refine ⟨?_, ?_, ?_⟩
  ·intro y0 y1 y2
   unfold spec_PageUsed.j0
   repeat' with_reducible first | exact ih0 _ _ _ | exact ih1 _ _ _ _ | exact ih2 _ _ | exact LeO.refl _ | exact LeO.none _ | refine LeO.ite ?_ ?_ | refine LeO.bind ?_ (fun _ => ?_)
  ·intro y0 y1 y2 y3
   unfold spec_PageUsed.l0
   repeat' with_reducible first | exact ih0 _ _ _ | exact ih1 _ _ _ _ | exact ih2 _ _ | exact LeO.refl _ | exact LeO.none _ | refine LeO.ite ?_ ?_ | refine LeO.bind ?_ (fun _ => ?_)
  ·intro y0 y1
   unfold spec_PageUsed.j2
   repeat' with_reducible first | exact ih0 _ _ _ | exact ih1 _ _ _ _ | exact ih2 _ _ | exact LeO.refl _ | exact LeO.none _ | refine LeO.ite ?_ ?_ | refine LeO.bind ?_ (fun _ => ?_)
theorem spec_PageUsed.mono : ∀ a0 a1 k, LeO (spec_PageUsed.f k a0 a1) (spec_PageUsed.f (k + 1) a0 a1) := by
 intro a0 a1 k
 obtain ⟨ih0, ih1, ih2⟩ := spec_PageUsed.mono_l k
 unfold spec_PageUsed.f
 repeat' with_reducible first | exact ih0 _ _ _ | exact ih1 _ _ _ _ | exact ih2 _ _ | exact LeO.refl _ | exact LeO.none _ | refine LeO.ite ?_ ?_ | refine LeO.bind ?_ (fun _ => ?_)
set_option maxHeartbeats 8000000 in
set_option maxRecDepth 100000 in
theorem spec_PageUsed.calls (k : Nat) (a0_0 : Int) (A0_1 : Option Addr) (c0_1 : Nat) (l0_1 : List (List Int)) (r : Int) (w : World) (hr0_1 : Kd.C (Kd.slice 5 (Kd.int .u8)) w A0_1 l0_1.length l0_1) (hc0_1 : l0_1.length ≤ c0_1) (h : spec_PageUsed.f k a0_0 l0_1 = some r) :
  Calls Try.prog 12 #[.agg #[.int .i64 a0_0, .slice A0_1 l0_1.length c0_1]] w fun e w' => e = .returned (.int .i64 r) ∧ Below w.heap.size w w' := by
 have hu27 := Try.underlying27
 have HR0_1 := ZA hr0_1
 have HC0_1 := ZA hc0_1
 clear hr0_1 hc0_1
 have HB := ZA (Below.refl w.heap.size w)
 have H := h
 clear h
 unfold spec_PageUsed.f at H
 have HC2 := ZA H
 clear H
 go_enter Try.func12, Try.ntmps12
 go_upto_region 1 with (first | ((with_reducible refine gate_dst (N := 1) rfl ?_); (try (refine gate_guard Z94 ?_; dsimp only)); refine box_event ?hg (N := 1) ?hd (cs := #[.int .i64 a0_0, .slice A0_1 l0_1.length c0_1]) (t := 27) ?hr ?_; (case hd => rfl); (case hg => rfl); (case hr => first | (go_simp; done) | (go_simp; rfl)); intro gb101 hg w3 hbox hb; have n0_ := ZA (below_step (hup HB.out) hb); have n1_ := ZA (hbox); have n2_ := Geq.mk ((Z28 : w.heap.size ≤ gb101)); have n3_ := Geq.mk ((Z28 : w.heap.size ≤ gb101)); clear HB; have HB := n0_; have BK101 := n1_; have GW101 := n2_; have GE101 := n3_; clear n0_ n1_ n2_ n3_ hb hbox hg))
 (try simp only [Act.put, List.setIfInBounds_toArray, List.set_cons_zero, List.set_cons_succ])
 go_cut [14] (fun v14 wc => ∃ (kq : Nat) (x14_1 : Bool), v14 = .bool x14_1 ∧ Aside0 (spec_PageUsed.j0 kq x14_1 a0_0 l0_1 = some r) ∧ Aside0 (kq ≤ k) ∧ Aside0 (wc.heap[gb101]? = some (.cells #[.int .i64 a0_0, (.slice A0_1 l0_1.length c0_1)] 27 (0, 0))) ∧ Aside0 (Below w.heap.size w wc))
 case first =>
  have H := HC2.out
  clear HC2
  replace H := Option.bind_eq_some_iff.mp H
  obtain ⟨t102, A40, H⟩ := H
  (try dsimp only at H)
  have A4 := ZA A40
  clear A40
  obtain ⟨hcz6_0, hcz6_1⟩ := blk_cells2 BK101.out
  obtain ⟨hfz6_0, hfz6_1⟩ := blk_frozens2 BK101.out
  repeat (first | ((fail_if_success (with_reducible refine gate_callee (f := 37) rfl ?_)); first | go_values | go_skip | go_guarded | go_step | go_upon | go_back | (simp only [Int.not_lt, Int.not_le] at *; go_simp)))
  (with_reducible refine gate_callee (f := 37) rfl ?_); refine goesL_ (some 7) rfl rfl Try.func37 Z12 rfl #[.int .i64 a0_0, .int .i64 0, .int .i64 1000000] rfl Z1 ?_; (with_reducible refine (spec_l5in.calls a0_0 0 1000000 t102 _ A4.out).mono ?_); rintro e w' ⟨rfl, ⟨nd, rfl⟩⟩; refine ⟨_, rfl, ?_⟩
  by_cases c5 : t102 = true
  ·subst c5
   rw [if_pos rfl] at H
   (try dsimp only at H)
   have H' := ZA H
   clear H
   try go_wp2
   go_meet
   case rel => exact ⟨_, (decide ((l0_1.length : Int) > 16)), Z7, H', ⟨by first | omega | exact Nat.le_refl _⟩, ⟨by exact bup BK101.out⟩, ⟨hset HB.out⟩⟩
  ·replace c5 := Bool.eq_false_iff.mpr c5
   subst c5
   rw [if_neg (show ¬ (false = true) by decide)] at H
   (try dsimp only at H)
   have H' := ZA H
   clear H
   try go_wp2
   go_meet
   case rel => exact ⟨_, (true), Z7, H', ⟨by first | omega | exact Nat.le_refl _⟩, ⟨by exact bup BK101.out⟩, ⟨hset HB.out⟩⟩
 case rest =>
  clear HC2
  try clear c1
  try clear p2
  try clear c3
  try clear c5
  try clear hcz6_0
  try clear hcz6_1
  try clear hcz7_0
  try clear hcz7_1
  try clear hfz6_0
  try clear hfz6_1
  try clear hfz7_0
  try clear hfz7_1
  obtain ⟨kq, x14_1, rfl, HA, HJ1, BK101, HB⟩ := hcut
  cases kq with
  | zero => exact absurd HA.out (by simp [spec_PageUsed.j0])
  | succ kj1 =>
   have H := HA.out
   clear HA
   simp only [spec_PageUsed.j0] at H
   by_cases c8 : x14_1 = true
   ·subst c8
    rw [if_pos rfl] at H
    (try dsimp only at H)
    obtain rfl := Option.some.inj H
    go_wp2
    go_ret
    exact ⟨by first | rfl | (simp [errW_none, errW_some] <;> rfl) | (simp [*, errW_none, errW_some] <;> rfl), hset HB.out⟩
   ·replace c8 := Bool.eq_false_iff.mpr c8
    subst c8
    rw [if_neg (show ¬ (false = true) by decide)] at H
    (try dsimp only at H)
    have H' := ZA H
    clear H
    obtain ⟨hcz9_0, hcz9_1⟩ := blk_cells2 BK101.out
    obtain ⟨hfz9_0, hfz9_1⟩ := blk_frozens2 BK101.out
    go_wp2
    go_loopg [3, 4] kj1 (fun kq v3 v4 w' => ∃ (x3_2 : Int) (x4_2 : Int), v3 = .int .i64 x3_2 ∧ v4 = .int .i64 x4_2 ∧ Aside0 (spec_PageUsed.l0 kq x3_2 x4_2 a0_0 l0_1 = some r) ∧ Aside0 (kq ≤ kj1) ∧ Aside0 (w'.heap[gb101]? = some (.cells #[.int .i64 a0_0, (.slice A0_1 l0_1.length c0_1)] 27 (0, 0))) ∧ Aside0 (Below w.heap.size w w'))
    case atStart => exact ⟨(wrap64 (1 + (l0_1.length : Int))), (0), Z7, Z7, H', ⟨Nat.le_refl _⟩, ⟨by exact bup BK101.out⟩, ⟨hset HB.out⟩⟩
    case round =>
     clear H'
     try clear c1
     try clear p2
     try clear c3
     try clear c5
     try clear p6
     try clear c8
     try clear hcz6_0
     try clear hcz6_1
     try clear hcz7_0
     try clear hcz7_1
     try clear hcz9_0
     try clear hcz9_1
     try clear hfz6_0
     try clear hfz6_1
     try clear hfz7_0
     try clear hfz7_1
     try clear hfz9_0
     try clear hfz9_1
     try clear p2
     obtain ⟨x3_2, x4_2, rfl, rfl, HA, HK2, BK101, HB⟩ := hrel
     cases gk with
     | zero => exact absurd HA.out (by simp [spec_PageUsed.l0])
     | succ k2 =>
      have H := HA.out
      clear HA
      simp only [spec_PageUsed.l0] at H
      by_cases c10 : x4_2 < (l0_1.length : Int)
      ·rw [if_pos c10] at H
       have c10b0 : decide (x4_2 < (l0_1.length : Int)) = true := decide_eq_true c10
       clear c10
       by_cases c11 : 0 ≤ x4_2
       ·rw [if_pos c11] at H
        have c11b0 : decide (0 ≤ x4_2) = true := decide_eq_true c11
        clear c11
        by_cases c12 : ((rd_L1 l0_1 x4_2).length : Int) > 92
        ·rw [if_pos c12] at H
         have c12b0 : decide (92 < ((rd_L1 l0_1 x4_2).length : Int)) = true := decide_eq_true c12
         have c12b1 : decide (92 < (rd_L1 l0_1 x4_2).length) = true := decide_eq_true Z8
         clear c12
         obtain rfl := Option.some.inj H
         obtain ⟨hcz13_0, hcz13_1⟩ := blk_cells2 BK101.out
         obtain ⟨hfz13_0, hfz13_1⟩ := blk_frozens2 BK101.out
         have p103 : 0 ≤ (x4_2 : Int) := of_decide_eq_true Z10
         have q103 : x4_2 < (l0_1.length : Int) := of_decide_eq_true Z10
         obtain ⟨ad103, A103_0, c103_0, e103, hx103_0, hl103_0, hi103_0⟩ := at_L1 HR0_1.out x4_2 p103 q103
         cases e103
         replace hx103_0 := (HB.out.cell (World.block_lt_of_cell? w _ hx103_0)).trans hx103_0
         have HR103_0 := ZA hi103_0
         have HC103_0 := ZA hl103_0
         clear hi103_0 hl103_0
         replace p103 := eq_true p103
         replace q103 := eq_true q103
         go_wp2
         go_ret
         exact ⟨by first | rfl | (simp [errW_none, errW_some] <;> rfl) | (simp [*, errW_none, errW_some] <;> rfl), hset HB.out⟩
        ·rw [if_neg c12] at H
         have c12b0 : decide (92 < ((rd_L1 l0_1 x4_2).length : Int)) = false := decide_eq_false c12
         have c12b1 : decide (92 < (rd_L1 l0_1 x4_2).length) = false := decide_eq_false Z8
         clear c12
         have H' := ZA H
         clear H
         obtain ⟨hcz14_0, hcz14_1⟩ := blk_cells2 BK101.out
         obtain ⟨hfz14_0, hfz14_1⟩ := blk_frozens2 BK101.out
         have p103 : 0 ≤ (x4_2 : Int) := of_decide_eq_true Z10
         have q103 : x4_2 < (l0_1.length : Int) := of_decide_eq_true Z10
         obtain ⟨ad103, A103_0, c103_0, e103, hx103_0, hl103_0, hi103_0⟩ := at_L1 HR0_1.out x4_2 p103 q103
         cases e103
         replace hx103_0 := (HB.out.cell (World.block_lt_of_cell? w _ hx103_0)).trans hx103_0
         have HR103_0 := ZA hi103_0
         have HC103_0 := ZA hl103_0
         clear hi103_0 hl103_0
         replace p103 := eq_true p103
         replace q103 := eq_true q103
         have p104 : 0 ≤ (x4_2 : Int) := of_decide_eq_true Z10
         have q104 : x4_2 < (l0_1.length : Int) := of_decide_eq_true Z10
         obtain ⟨ad104, A104_0, c104_0, e104, hx104_0, hl104_0, hi104_0⟩ := at_L1 HR0_1.out x4_2 p104 q104
         obtain rfl : ad103 = ad104 := (by injection e104)
         replace hx104_0 := (HB.out.cell (World.block_lt_of_cell? w _ hx104_0)).trans hx104_0
         have HR104_0 := ZA hi104_0
         have HC104_0 := ZA hl104_0
         clear hi104_0 hl104_0
         replace p104 := eq_true p104
         replace q104 := eq_true q104
         have ea_ := Option.some.inj (hx103_0.symm.trans hx104_0)
         injection ea_ with ea_ en_ ec_
         subst ea_
         subst ec_
         clear en_
         go_wp2
         go_roundg k2
         case measure => have := HJ1.out; have := HK2.out; omega
         case rel => exact ⟨(wrap64 (x3_2 + ((rd_L1 l0_1 x4_2).length : Int))), (wrap64 (x4_2 + 1)), Z7, Z7, H', ⟨by have := HJ1.out; have := HK2.out; omega⟩, ⟨by exact bup BK101.out⟩, ⟨hset HB.out⟩⟩
       ·rw [if_neg c11] at H
        exact absurd H Z44
      ·rw [if_neg c10] at H
       have c10b0 : decide (x4_2 < (l0_1.length : Int)) = false := decide_eq_false c10
       clear c10
       have HC15 := ZA H
       clear H
       obtain ⟨hcz16_0, hcz16_1⟩ := blk_cells2 BK101.out
       obtain ⟨hfz16_0, hfz16_1⟩ := blk_frozens2 BK101.out
       go_upto_region 10 with (fail)
       go_cut [56] (fun v56 wc => ∃ (kq : Nat) (x56_14 : Bool), v56 = .bool x56_14 ∧ Aside0 (spec_PageUsed.j2 kq x3_2 x56_14 = some r) ∧ Aside0 (kq ≤ k2) ∧ Aside0 (wc.heap[gb101]? = some (.cells #[.int .i64 a0_0, (.slice A0_1 l0_1.length c0_1)] 27 (0, 0))) ∧ Aside0 (Below w.heap.size w wc))
       case first =>
        have H := HC15.out
        clear HC15
        by_cases c17 : (l0_1.length : Int) > 0
        ·rw [if_pos c17] at H
         have c17b0 : decide (0 < (l0_1.length : Int)) = true := decide_eq_true c17
         have c17b1 : decide (0 < l0_1.length) = true := decide_eq_true Z8
         clear c17
         (first | rw [c17b0] | (simp only [i64_w, i32_w]; rw [c17b0]) | skip)
         obtain ⟨ji18, hji18⟩ : ∃ j_ : Int, (wrap64 ((l0_1.length : Int) - 1)) = j_ := ⟨_, rfl⟩
         replace H : (if 0 ≤ (ji18) then (if (ji18) < (l0_1.length : Int) then (spec_PageUsed.j2 k2 x3_2 (((rd_L1 l0_1 (ji18)).length : Int) == 0)) else (none)) else (none)) = some r := by first | (rw [hji18] at H; exact H) | (simp only [hji18] at H ⊢; exact H)
         have hji18w : (IntKind.i64.wrap ((l0_1.length : Int) - 1)) = ji18 := (i64_w _).trans hji18
         by_cases c19 : 0 ≤ (ji18)
         ·rw [if_pos c19] at H
          have c19b0 : decide (0 ≤ (ji18)) = true := decide_eq_true c19
          clear c19
          by_cases c20 : (ji18) < (l0_1.length : Int)
          ·rw [if_pos c20] at H
           have c20b0 : decide ((ji18) < (l0_1.length : Int)) = true := decide_eq_true c20
           clear c20
           have H' := ZA H
           clear H
           obtain ⟨hcz21_0, hcz21_1⟩ := blk_cells2 BK101.out
           obtain ⟨hfz21_0, hfz21_1⟩ := blk_frozens2 BK101.out
           have p105 : 0 ≤ ((ji18) : Int) := of_decide_eq_true Z10
           have q105 : (ji18) < (l0_1.length : Int) := of_decide_eq_true Z10
           obtain ⟨ad105, A105_0, c105_0, e105, hx105_0, hl105_0, hi105_0⟩ := at_L1 HR0_1.out (ji18) p105 q105
           cases e105
           replace hx105_0 := (HB.out.cell (World.block_lt_of_cell? w _ hx105_0)).trans hx105_0
           have HR105_0 := ZA hi105_0
           have HC105_0 := ZA hl105_0
           clear hi105_0 hl105_0
           replace p105 := eq_true p105
           replace q105 := eq_true q105
           go_wp2
           go_meet
           case rel => exact ⟨_, ((((rd_L1 l0_1 (ji18)).length : Int) == 0)), (by first | rfl | (simp; done) | (simp only [← hji18] <;> (first | rfl | simp)) | (simp [*]; done)), H', ⟨by have := HJ1.out; have := HK2.out; first | omega | exact Nat.le_refl _⟩, ⟨by exact bup BK101.out⟩, ⟨hset HB.out⟩⟩
          ·rw [if_neg c20] at H
           exact absurd H Z44
         ·rw [if_neg c19] at H
          exact absurd H Z44
        ·rw [if_neg c17] at H
         have c17b0 : decide (0 < (l0_1.length : Int)) = false := decide_eq_false c17
         have c17b1 : decide (0 < l0_1.length) = false := decide_eq_false Z8
         clear c17
         (first | rw [c17b0] | (simp only [i64_w, i32_w]; rw [c17b0]) | skip)
         have H' := ZA H
         clear H
         obtain ⟨hcz22_0, hcz22_1⟩ := blk_cells2 BK101.out
         obtain ⟨hfz22_0, hfz22_1⟩ := blk_frozens2 BK101.out
         go_wp2
         go_meet
         case rel => exact ⟨_, (false), Z7, H', ⟨by have := HJ1.out; have := HK2.out; first | omega | exact Nat.le_refl _⟩, ⟨by exact bup BK101.out⟩, ⟨hset HB.out⟩⟩
       case rest =>
        clear HC15
        try clear c1
        try clear p1
        try clear q1
        try clear hx1
        try clear c2
        try clear p2
        try clear c3
        try clear c5
        try clear p6
        try clear c8
        try clear c10
        try clear c10b0
        try clear p10
        try clear q10
        try clear hx10
        try clear c11
        try clear c11b0
        try clear c12
        try clear c12b0
        try clear c12b1
        try clear c17
        try clear c17b0
        try clear c17b1
        try clear c19
        try clear c19b0
        try clear c20
        try clear c20b0
        try clear hcz13_0
        try clear hcz13_1
        try clear hcz14_0
        try clear hcz14_1
        try clear hcz16_0
        try clear hcz16_1
        try clear hcz21_0
        try clear hcz21_1
        try clear hcz22_0
        try clear hcz22_1
        try clear hcz6_0
        try clear hcz6_1
        try clear hcz7_0
        try clear hcz7_1
        try clear hcz9_0
        try clear hcz9_1
        try clear hfz13_0
        try clear hfz13_1
        try clear hfz14_0
        try clear hfz14_1
        try clear hfz16_0
        try clear hfz16_1
        try clear hfz21_0
        try clear hfz21_1
        try clear hfz22_0
        try clear hfz22_1
        try clear hfz6_0
        try clear hfz6_1
        try clear hfz7_0
        try clear hfz7_1
        try clear hfz9_0
        try clear hfz9_1
        try clear hx103_0
        try clear hx104_0
        try clear hx105_0
        try clear p103
        try clear p104
        try clear p105
        try clear p2
        try clear p6
        try clear q103
        try clear q104
        try clear q105
        obtain ⟨kq, x56_14, rfl, HA, HJ14, BK101, HB⟩ := hcut
        cases kq with
        | zero => exact absurd HA.out (by simp [spec_PageUsed.j2])
        | succ kj14 =>
         have H := HA.out
         clear HA
         simp only [spec_PageUsed.j2] at H
         by_cases c23 : x56_14 = true
         ·subst c23
          rw [if_pos rfl] at H
          (try dsimp only at H)
          obtain rfl := Option.some.inj H
          go_wp2
          go_ret
          exact ⟨by first | rfl | (simp [errW_none, errW_some] <;> rfl) | (simp [*, errW_none, errW_some] <;> rfl), hset HB.out⟩
         ·replace c23 := Bool.eq_false_iff.mpr c23
          subst c23
          rw [if_neg (show ¬ (false = true) by decide)] at H
          (try dsimp only at H)
          by_cases c24 : x3_2 > 240
          ·rw [if_pos c24] at H
           have c24b0 : decide (240 < x3_2) = true := decide_eq_true c24
           clear c24
           obtain rfl := Option.some.inj H
           go_wp2
           go_ret
           exact ⟨by first | rfl | (simp [errW_none, errW_some] <;> rfl) | (simp [*, errW_none, errW_some] <;> rfl), hset HB.out⟩
          ·rw [if_neg c24] at H
           have c24b0 : decide (240 < x3_2) = false := decide_eq_false c24
           clear c24
           obtain rfl := Option.some.inj H
           go_wp2
           go_ret
           exact ⟨by first | rfl | (simp [errW_none, errW_some] <;> rfl) | (simp [*, errW_none, errW_some] <;> rfl), hset HB.out⟩
def impl_within.f (a0 : Int) (a1 : Int) (a2 : Int) : Option (Bool) := if a1 ≤ a0 then (some (decide (a0 ≤ a2))) else (some false)
set_option maxHeartbeats 8000000 in
set_option maxRecDepth 100000 in
theorem impl_within.calls (a0 : Int) (a1 : Int) (a2 : Int) (r : Bool) (w : World) (h : impl_within.f a0 a1 a2 = some r) :
    Calls Try.prog 39 #[.int .i64 a0, .int .i64 a1, .int .i64 a2] w fun e w' => e = .returned (.bool r) ∧ Drawn0 w w' := by
  have H := h
  clear h
  unfold impl_within.f at H
  by_cases c4 : a1 ≤ a0
  · rw [if_pos c4] at H
    have c4b0 : decide (a1 ≤ a0) = true := decide_eq_true c4
    clear c4
    obtain rfl := Option.some.inj H
    go_enter Try.func39, Try.ntmps39
    go_wp2
    go_ret
    exact ⟨by first | rfl | (simp; done) | (simp [*]; done), Z24⟩
  · rw [if_neg c4] at H
    have c4b0 : decide (a1 ≤ a0) = false := decide_eq_false c4
    clear c4
    obtain rfl := Option.some.inj H
    go_enter Try.func39, Try.ntmps39
    go_wp2
    go_ret
    exact ⟨by first | rfl | (simp; done) | (simp [*]; done), Z24⟩
mutual
def impl_PageUsed.j0 : Nat → Bool → Int → List (List Int) → Option (Int)
 | 0, _, _, _ => none
 | k + 1, x15, x107000, x107001 => if x15 = true then (some (-1)) else (impl_PageUsed.l0 k (wrap64 (1 + (x107001.length : Int))) x107001 (x107001.length : Int) 0 x107000 x107001)
def impl_PageUsed.l0 : Nat → Int → List (List Int) → Int → Int → Int → List (List Int) → Option (Int)
 | 0, _, _, _, _, _, _ => none
 | k + 1, x3, x21, x22, x23, x107000, x107001 => if x23 < x22 then (if 0 ≤ x23 then (if x23 < (x21.length : Int) then (if ((rd_L1 x21 x23).length : Int) > 92 then (some (-1)) else (impl_PageUsed.l0 k (wrap64 (x3 + ((rd_L1 x21 x23).length : Int))) x21 x22 (wrap64 (x23 + 1)) x107000 x107001)) else (none)) else (none)) else (if x3 > 240 then (some (-1)) else (if (x107001.length : Int) > 0 then (if 0 ≤ (wrap64 ((x107001.length : Int) - 1)) then (if (wrap64 ((x107001.length : Int) - 1)) < (x107001.length : Int) then (if ((rd_L1 x107001 (wrap64 ((x107001.length : Int) - 1))).length : Int) = 0 then (some (-1)) else (some x3)) else (none)) else (none)) else (some x3)))
end
def impl_PageUsed.f (k : Nat) (a0_0 : Int) (l0_1 : List (List Int)) : Option (Int) := (impl_within.f a0_0 0 1000000).bind fun t107 => (if t107 = true then (impl_PageUsed.j0 k (decide ((l0_1.length : Int) > 16)) a0_0 l0_1) else (impl_PageUsed.j0 k true a0_0 l0_1))
theorem impl_PageUsed.mono_l : ∀ k, (∀ y0 y1 y2, LeO (impl_PageUsed.j0 k y0 y1 y2) (impl_PageUsed.j0 (k + 1) y0 y1 y2)) ∧ (∀ y0 y1 y2 y3 y4 y5, LeO (impl_PageUsed.l0 k y0 y1 y2 y3 y4 y5) (impl_PageUsed.l0 (k + 1) y0 y1 y2 y3 y4 y5))
 | 0 => ⟨fun _ _ _ r h => by simp [impl_PageUsed.j0] at h, fun _ _ _ _ _ _ r h => by simp [impl_PageUsed.l0] at h⟩
 | k + 1 => by
  obtain ⟨ih0, ih1⟩ := impl_PageUsed.mono_l k
  refine ⟨?_, ?_⟩
  ·intro y0 y1 y2
   unfold impl_PageUsed.j0
   repeat' with_reducible first | exact ih0 _ _ _ | exact ih1 _ _ _ _ _ _ | exact LeO.refl _ | exact LeO.none _ | refine LeO.ite ?_ ?_ | refine LeO.bind ?_ (fun _ => ?_)
  ·intro y0 y1 y2 y3 y4 y5
   unfold impl_PageUsed.l0
   repeat' with_reducible first | exact ih0 _ _ _ | exact ih1 _ _ _ _ _ _ | exact LeO.refl _ | exact LeO.none _ | refine LeO.ite ?_ ?_ | refine LeO.bind ?_ (fun _ => ?_)
theorem impl_PageUsed.mono : ∀ a0 a1 k, LeO (impl_PageUsed.f k a0 a1) (impl_PageUsed.f (k + 1) a0 a1) := by
 intro a0 a1 k
 obtain ⟨ih0, ih1⟩ := impl_PageUsed.mono_l k
 unfold impl_PageUsed.f
 repeat' with_reducible first | exact ih0 _ _ _ | exact ih1 _ _ _ _ _ _ | exact LeO.refl _ | exact LeO.none _ | refine LeO.ite ?_ ?_ | refine LeO.bind ?_ (fun _ => ?_)
set_option maxHeartbeats 8000000 in
set_option maxRecDepth 100000 in
theorem impl_PageUsed.calls (k : Nat) (a0_0 : Int) (A0_1 : Option Addr) (c0_1 : Nat) (l0_1 : List (List Int)) (r : Int) (w : World) (hr0_1 : Kd.C (Kd.slice 5 (Kd.int .u8)) w A0_1 l0_1.length l0_1) (hc0_1 : l0_1.length ≤ c0_1) (h : impl_PageUsed.f k a0_0 l0_1 = some r) :
  Calls Try.prog 14 #[.agg #[.int .i64 a0_0, .slice A0_1 l0_1.length c0_1]] w fun e w' => e = .returned (.int .i64 r) ∧ Below w.heap.size w w' := by
 have hu27 := Try.underlying27
 have HR0_1 := ZA hr0_1
 have HC0_1 := ZA hc0_1
 clear hr0_1 hc0_1
 have HB := ZA (Below.refl w.heap.size w)
 have H := h
 clear h
 unfold impl_PageUsed.f at H
 have HC2 := ZA H
 clear H
 go_enter Try.func14, Try.ntmps14
 go_upto_region 1 with (first | ((with_reducible refine gate_dst (N := 1) rfl ?_); (try (refine gate_guard Z94 ?_; dsimp only)); refine box_event ?hg (N := 1) ?hd (cs := #[.int .i64 a0_0, .slice A0_1 l0_1.length c0_1]) (t := 27) ?hr ?_; (case hd => rfl); (case hg => rfl); (case hr => first | (go_simp; done) | (go_simp; rfl)); intro gb106 hg w3 hbox hb; have n0_ := ZA (below_step (hup HB.out) hb); have n1_ := ZA (hbox); have n2_ := Geq.mk ((Z28 : w.heap.size ≤ gb106)); have n3_ := Geq.mk ((Z28 : w.heap.size ≤ gb106)); clear HB; have HB := n0_; have BK106 := n1_; have GW106 := n2_; have GE106 := n3_; clear n0_ n1_ n2_ n3_ hb hbox hg))
 (try simp only [Act.put, List.setIfInBounds_toArray, List.set_cons_zero, List.set_cons_succ])
 go_cut [15] (fun v15 wc => ∃ (kq : Nat) (x15_1 : Bool), v15 = .bool x15_1 ∧ Aside0 (impl_PageUsed.j0 kq x15_1 a0_0 l0_1 = some r) ∧ Aside0 (kq ≤ k) ∧ Aside0 (wc.heap[gb106]? = some (.cells #[.int .i64 a0_0, (.slice A0_1 l0_1.length c0_1)] 27 (0, 0))) ∧ Aside0 (Below w.heap.size w wc))
 case first =>
  have H := HC2.out
  clear HC2
  replace H := Option.bind_eq_some_iff.mp H
  obtain ⟨t107, A40, H⟩ := H
  (try dsimp only at H)
  have A4 := ZA A40
  clear A40
  obtain ⟨hcz6_0, hcz6_1⟩ := blk_cells2 BK106.out
  obtain ⟨hfz6_0, hfz6_1⟩ := blk_frozens2 BK106.out
  repeat (first | ((fail_if_success (with_reducible refine gate_callee (f := 39) rfl ?_)); first | go_values | go_skip | go_guarded | go_step | go_upon | go_back | (simp only [Int.not_lt, Int.not_le] at *; go_simp)))
  (with_reducible refine gate_callee (f := 39) rfl ?_); refine goesL_ (some 8) rfl rfl Try.func39 Z12 rfl #[.int .i64 a0_0, .int .i64 0, .int .i64 1000000] rfl Z1 ?_; (with_reducible refine (impl_within.calls a0_0 0 1000000 t107 _ A4.out).mono ?_); rintro e w' ⟨rfl, ⟨nd, rfl⟩⟩; refine ⟨_, rfl, ?_⟩
  by_cases c5 : t107 = true
  ·subst c5
   rw [if_pos rfl] at H
   (try dsimp only at H)
   have H' := ZA H
   clear H
   try go_wp2
   go_meet
   case rel => exact ⟨_, (decide ((l0_1.length : Int) > 16)), Z7, H', ⟨by first | omega | exact Nat.le_refl _⟩, ⟨by exact bup BK106.out⟩, ⟨hset HB.out⟩⟩
  ·replace c5 := Bool.eq_false_iff.mpr c5
   subst c5
   rw [if_neg (show ¬ (false = true) by decide)] at H
   (try dsimp only at H)
   have H' := ZA H
   clear H
   try go_wp2
   go_meet
   case rel => exact ⟨_, (true), Z7, H', ⟨by first | omega | exact Nat.le_refl _⟩, ⟨by exact bup BK106.out⟩, ⟨hset HB.out⟩⟩
 case rest =>
  clear HC2
  try clear c1
  try clear p2
  try clear c3
  try clear c5
  try clear hcz6_0
  try clear hcz6_1
  try clear hcz7_0
  try clear hcz7_1
  try clear hfz6_0
  try clear hfz6_1
  try clear hfz7_0
  try clear hfz7_1
  obtain ⟨kq, x15_1, rfl, HA, HJ1, BK106, HB⟩ := hcut
  cases kq with
  | zero => exact absurd HA.out (by simp [impl_PageUsed.j0])
  | succ kj1 =>
   have H := HA.out
   clear HA
   simp only [impl_PageUsed.j0] at H
   by_cases c8 : x15_1 = true
   ·subst c8
    rw [if_pos rfl] at H
    (try dsimp only at H)
    obtain rfl := Option.some.inj H
    go_wp2
    go_ret
    exact ⟨by first | rfl | (simp [errW_none, errW_some] <;> rfl) | (simp [*, errW_none, errW_some] <;> rfl), hset HB.out⟩
   ·replace c8 := Bool.eq_false_iff.mpr c8
    subst c8
    rw [if_neg (show ¬ (false = true) by decide)] at H
    (try dsimp only at H)
    have H' := ZA H
    clear H
    obtain ⟨hcz9_0, hcz9_1⟩ := blk_cells2 BK106.out
    obtain ⟨hfz9_0, hfz9_1⟩ := blk_frozens2 BK106.out
    go_wp2
    go_loopg [3, 23] kj1 (fun kq v3 v23 w' => ∃ (x3_2 : Int) (x23_2 : Int), v3 = .int .i64 x3_2 ∧ v23 = .int .i64 x23_2 ∧ Aside0 (impl_PageUsed.l0 kq x3_2 l0_1 (l0_1.length : Int) x23_2 a0_0 l0_1 = some r) ∧ Aside0 (kq ≤ kj1) ∧ Aside0 (w'.heap[gb106]? = some (.cells #[.int .i64 a0_0, (.slice A0_1 l0_1.length c0_1)] 27 (0, 0))) ∧ Aside0 (Below w.heap.size w w'))
    case atStart => exact ⟨(wrap64 (1 + (l0_1.length : Int))), (0), Z7, Z7, H', ⟨Nat.le_refl _⟩, ⟨by exact bup BK106.out⟩, ⟨hset HB.out⟩⟩
    case round =>
     clear H'
     try clear c1
     try clear p2
     try clear c3
     try clear c5
     try clear p6
     try clear c8
     try clear hcz6_0
     try clear hcz6_1
     try clear hcz7_0
     try clear hcz7_1
     try clear hcz9_0
     try clear hcz9_1
     try clear hfz6_0
     try clear hfz6_1
     try clear hfz7_0
     try clear hfz7_1
     try clear hfz9_0
     try clear hfz9_1
     try clear p2
     obtain ⟨x3_2, x23_2, rfl, rfl, HA, HK2, BK106, HB⟩ := hrel
     cases gk with
     | zero => exact absurd HA.out (by simp [impl_PageUsed.l0])
     | succ k2 =>
      have H := HA.out
      clear HA
      simp only [impl_PageUsed.l0] at H
      by_cases c10 : x23_2 < (l0_1.length : Int)
      ·rw [if_pos c10] at H
       have c10b0 : decide (x23_2 < (l0_1.length : Int)) = true := decide_eq_true c10
       clear c10
       by_cases c11 : 0 ≤ x23_2
       ·rw [if_pos c11] at H
        have c11b0 : decide (0 ≤ x23_2) = true := decide_eq_true c11
        clear c11
        by_cases c12 : x23_2 < (l0_1.length : Int)
        ·rw [if_pos c12] at H
         have c12b0 : decide (x23_2 < (l0_1.length : Int)) = true := decide_eq_true c12
         clear c12
         by_cases c13 : ((rd_L1 l0_1 x23_2).length : Int) > 92
         ·rw [if_pos c13] at H
          have c13b0 : decide (92 < ((rd_L1 l0_1 x23_2).length : Int)) = true := decide_eq_true c13
          have c13b1 : decide (92 < (rd_L1 l0_1 x23_2).length) = true := decide_eq_true Z8
          clear c13
          obtain rfl := Option.some.inj H
          have p108 : 0 ≤ (x23_2 : Int) := of_decide_eq_true Z10
          have q108 : x23_2 < (l0_1.length : Int) := of_decide_eq_true Z10
          obtain ⟨ad108, A108_0, c108_0, e108, hx108_0, hl108_0, hi108_0⟩ := at_L1 HR0_1.out x23_2 p108 q108
          cases e108
          replace hx108_0 := (HB.out.cell (World.block_lt_of_cell? w _ hx108_0)).trans hx108_0
          have HR108_0 := ZA hi108_0
          have HC108_0 := ZA hl108_0
          clear hi108_0 hl108_0
          replace p108 := eq_true p108
          replace q108 := eq_true q108
          go_wp2
          go_ret
          exact ⟨by first | rfl | (simp [errW_none, errW_some] <;> rfl) | (simp [*, errW_none, errW_some] <;> rfl), hset HB.out⟩
         ·rw [if_neg c13] at H
          have c13b0 : decide (92 < ((rd_L1 l0_1 x23_2).length : Int)) = false := decide_eq_false c13
          have c13b1 : decide (92 < (rd_L1 l0_1 x23_2).length) = false := decide_eq_false Z8
          clear c13
          have H' := ZA H
          clear H
          have p108 : 0 ≤ (x23_2 : Int) := of_decide_eq_true Z10
          have q108 : x23_2 < (l0_1.length : Int) := of_decide_eq_true Z10
          obtain ⟨ad108, A108_0, c108_0, e108, hx108_0, hl108_0, hi108_0⟩ := at_L1 HR0_1.out x23_2 p108 q108
          cases e108
          replace hx108_0 := (HB.out.cell (World.block_lt_of_cell? w _ hx108_0)).trans hx108_0
          have HR108_0 := ZA hi108_0
          have HC108_0 := ZA hl108_0
          clear hi108_0 hl108_0
          replace p108 := eq_true p108
          replace q108 := eq_true q108
          go_wp2
          go_roundg k2
          case measure => have := HJ1.out; have := HK2.out; omega
          case rel => exact ⟨(wrap64 (x3_2 + ((rd_L1 l0_1 x23_2).length : Int))), (wrap64 (x23_2 + 1)), Z7, Z7, H', ⟨by have := HJ1.out; have := HK2.out; omega⟩, ⟨by exact bup BK106.out⟩, ⟨hset HB.out⟩⟩
        ·rw [if_neg c12] at H
         exact absurd H Z44
       ·rw [if_neg c11] at H
        exact absurd H Z44
      ·rw [if_neg c10] at H
       have c10b0 : decide (x23_2 < (l0_1.length : Int)) = false := decide_eq_false c10
       clear c10
       by_cases c14 : x3_2 > 240
       ·rw [if_pos c14] at H
        have c14b0 : decide (240 < x3_2) = true := decide_eq_true c14
        clear c14
        obtain rfl := Option.some.inj H
        go_wp2
        go_ret
        exact ⟨by first | rfl | (simp [errW_none, errW_some] <;> rfl) | (simp [*, errW_none, errW_some] <;> rfl), hset HB.out⟩
       ·rw [if_neg c14] at H
        have c14b0 : decide (240 < x3_2) = false := decide_eq_false c14
        clear c14
        by_cases c15 : (l0_1.length : Int) > 0
        ·rw [if_pos c15] at H
         have c15b0 : decide (0 < (l0_1.length : Int)) = true := decide_eq_true c15
         have c15b1 : decide (0 < l0_1.length) = true := decide_eq_true Z8
         clear c15
         obtain ⟨ji16, hji16⟩ : ∃ j_ : Int, (wrap64 ((l0_1.length : Int) - 1)) = j_ := ⟨_, rfl⟩
         replace H : (if 0 ≤ (ji16) then (if (ji16) < (l0_1.length : Int) then (if ((rd_L1 l0_1 (ji16)).length : Int) = 0 then (some (-1)) else (some x3_2)) else (none)) else (none)) = some r := by first | (rw [hji16] at H; exact H) | (simp only [hji16] at H ⊢; exact H)
         have hji16w : (IntKind.i64.wrap ((l0_1.length : Int) - 1)) = ji16 := (i64_w _).trans hji16
         by_cases c17 : 0 ≤ (ji16)
         ·rw [if_pos c17] at H
          have c17b0 : decide (0 ≤ (ji16)) = true := decide_eq_true c17
          clear c17
          by_cases c18 : (ji16) < (l0_1.length : Int)
          ·rw [if_pos c18] at H
           have c18b0 : decide ((ji16) < (l0_1.length : Int)) = true := decide_eq_true c18
           clear c18
           by_cases c19 : ((rd_L1 l0_1 (ji16)).length : Int) = 0
           ·rw [if_pos c19] at H
            have c19b0 : (((rd_L1 l0_1 (ji16)).length : Int) == 0) = true := beq_iff_eq.mpr c19
            have c19b1 : (((rd_L1 l0_1 (ji16)).length : Int) != 0) = false := bne_eq_false_iff_eq.mpr c19
            clear c19
            obtain rfl := Option.some.inj H
            obtain ⟨hcz20_0, hcz20_1⟩ := blk_cells2 BK106.out
            obtain ⟨hfz20_0, hfz20_1⟩ := blk_frozens2 BK106.out
            have p109 : 0 ≤ ((ji16) : Int) := of_decide_eq_true Z10
            have q109 : (ji16) < (l0_1.length : Int) := of_decide_eq_true Z10
            obtain ⟨ad109, A109_0, c109_0, e109, hx109_0, hl109_0, hi109_0⟩ := at_L1 HR0_1.out (ji16) p109 q109
            cases e109
            replace hx109_0 := (HB.out.cell (World.block_lt_of_cell? w _ hx109_0)).trans hx109_0
            have HR109_0 := ZA hi109_0
            have HC109_0 := ZA hl109_0
            clear hi109_0 hl109_0
            replace p109 := eq_true p109
            replace q109 := eq_true q109
            go_wp2
            go_ret
            exact ⟨by first | rfl | (simp [errW_none, errW_some] <;> rfl) | (simp only [← hji16]; first | rfl | (simp [errW_none, errW_some] <;> rfl)) | (simp [*, errW_none, errW_some] <;> rfl), hset HB.out⟩
           ·rw [if_neg c19] at H
            have c19b0 : (((rd_L1 l0_1 (ji16)).length : Int) == 0) = false := beq_eq_false_iff_ne.mpr c19
            have c19b1 : (((rd_L1 l0_1 (ji16)).length : Int) != 0) = true := bne_iff_ne.mpr c19
            have c19b2 : ¬ ((rd_L1 l0_1 (ji16)) = []) := fun h_ => c19 (by rw [h_]; rfl)
            obtain rfl := Option.some.inj H
            obtain ⟨hcz21_0, hcz21_1⟩ := blk_cells2 BK106.out
            obtain ⟨hfz21_0, hfz21_1⟩ := blk_frozens2 BK106.out
            have p109 : 0 ≤ ((ji16) : Int) := of_decide_eq_true Z10
            have q109 : (ji16) < (l0_1.length : Int) := of_decide_eq_true Z10
            obtain ⟨ad109, A109_0, c109_0, e109, hx109_0, hl109_0, hi109_0⟩ := at_L1 HR0_1.out (ji16) p109 q109
            cases e109
            replace hx109_0 := (HB.out.cell (World.block_lt_of_cell? w _ hx109_0)).trans hx109_0
            have HR109_0 := ZA hi109_0
            have HC109_0 := ZA hl109_0
            clear hi109_0 hl109_0
            replace p109 := eq_true p109
            replace q109 := eq_true q109
            go_wp2
            go_ret
            exact ⟨by first | rfl | (simp [errW_none, errW_some] <;> rfl) | (simp only [← hji16]; first | rfl | (simp [errW_none, errW_some] <;> rfl)) | (simp [*, errW_none, errW_some] <;> rfl), hset HB.out⟩
          ·rw [if_neg c18] at H
           exact absurd H Z44
         ·rw [if_neg c17] at H
          exact absurd H Z44
        ·rw [if_neg c15] at H
         have c15b0 : decide (0 < (l0_1.length : Int)) = false := decide_eq_false c15
         have c15b1 : decide (0 < l0_1.length) = false := decide_eq_false Z8
         clear c15
         obtain rfl := Option.some.inj H
         obtain ⟨hcz22_0, hcz22_1⟩ := blk_cells2 BK106.out
         obtain ⟨hfz22_0, hfz22_1⟩ := blk_frozens2 BK106.out
         go_wp2
         go_ret
         exact ⟨by first | rfl | (simp [errW_none, errW_some] <;> rfl) | (simp [*, errW_none, errW_some] <;> rfl), hset HB.out⟩
def impl_PagePlace_1.f (l0 : List Int) : Option (Bool) := some ((l0.length : Int) == 0)
set_option maxHeartbeats 8000000 in
set_option maxRecDepth 100000 in
theorem impl_PagePlace_1.calls (A0 : Option Addr) (c0 : Nat) (l0 : List Int) (r : Bool) (w : World) (hr0 : Kd.C (Kd.int .u8) w A0 l0.length l0) (hc0 : l0.length ≤ c0) (h : impl_PagePlace_1.f l0 = some r) :
    Calls Try.prog 42 #[.slice A0 l0.length c0] w fun e w' => e = .returned (.bool r) ∧ Drawn0 w w' := by
  have HR0 := ZA hr0
  have HC0 := ZA hc0
  clear hr0 hc0
  have H := h
  clear h
  unfold impl_PagePlace_1.f at H
  obtain rfl := Option.some.inj H
  go_enter Try.func42, Try.ntmps42
  go_wp2
  go_ret
  exact ⟨by first | rfl | (simp; done) | (simp [*]; done), Z24⟩
def slices_IndexFunc_byte_byte.l0 : Nat → List (List Int) → Int → Int → Option (Int)
  | 0, _, _, _ => none
  | k + 1, x0, x7, x8 => if x8 < x7 then (if 0 ≤ x8 then (if x8 < (x0.length : Int) then ((impl_PagePlace_1.f (rd_L1 x0 x8)).bind fun t111 => (if t111 = true then (some x8) else (slices_IndexFunc_byte_byte.l0 k x0 x7 (wrap64 (x8 + 1))))) else (none)) else (none)) else (some (-1))
def slices_IndexFunc_byte_byte.f (k : Nat) (l0 : List (List Int)) : Option (Int) := slices_IndexFunc_byte_byte.l0 k l0 (l0.length : Int) 0
theorem slices_IndexFunc_byte_byte.mono_l : ∀ k, (∀ y0 y1 y2, LeO (slices_IndexFunc_byte_byte.l0 k y0 y1 y2) (slices_IndexFunc_byte_byte.l0 (k + 1) y0 y1 y2))
  | 0 => fun _ _ _ r h => by simp [slices_IndexFunc_byte_byte.l0] at h
  | k + 1 => by
    have ih0 := slices_IndexFunc_byte_byte.mono_l k
    · intro y0 y1 y2
      unfold slices_IndexFunc_byte_byte.l0
      repeat' with_reducible first | exact ih0 _ _ _ | exact LeO.refl _ | exact LeO.none _ | refine LeO.ite ?_ ?_ | refine LeO.bind ?_ (fun _ => ?_)
theorem slices_IndexFunc_byte_byte.mono : ∀ a0 k, LeO (slices_IndexFunc_byte_byte.f k a0) (slices_IndexFunc_byte_byte.f (k + 1) a0) := by
  intro a0 k
  have ih0 := slices_IndexFunc_byte_byte.mono_l k
  unfold slices_IndexFunc_byte_byte.f
  repeat' with_reducible first | exact ih0 _ _ _ | exact LeO.refl _ | exact LeO.none _ | refine LeO.ite ?_ ?_ | refine LeO.bind ?_ (fun _ => ?_)
set_option maxHeartbeats 8000000 in
set_option maxRecDepth 100000 in
theorem slices_IndexFunc_byte_byte.calls (k : Nat) (A0 : Option Addr) (c0 : Nat) (l0 : List (List Int)) (r : Int) (w : World) (hr0 : Kd.C (Kd.slice 5 (Kd.int .u8)) w A0 l0.length l0) (hc0 : l0.length ≤ c0) (h : slices_IndexFunc_byte_byte.f k l0 = some r) :
    Calls Try.prog 41 #[.slice A0 l0.length c0, .func (.func 42) #[] #[]] w fun e w' => e = .returned (.int .i64 r) ∧ Drawn0 w w' := by
  have HR0 := ZA hr0
  have HC0 := ZA hc0
  clear hr0 hc0
  have H := h
  clear h
  unfold slices_IndexFunc_byte_byte.f at H
  have H' := ZA H
  clear H
  go_enter Try.func41, Try.ntmps41
  go_wp2
  go_loopg [8] k (fun kq v8 w' => ∃ (x8_1 : Int), v8 = .int .i64 x8_1 ∧ Aside0 (slices_IndexFunc_byte_byte.l0 kq l0 (l0.length : Int) x8_1 = some r) ∧ Aside0 (kq ≤ k) ∧ Drawn0 w w')
  case atStart => exact ⟨(0), Z7, H', ⟨Nat.le_refl _⟩, Z24⟩
  case round =>
    clear H'
    obtain ⟨x8_1, rfl, HA, HK1, ⟨m1, rfl⟩⟩ := hrel
    cases gk with
    | zero => exact absurd HA.out (by simp [slices_IndexFunc_byte_byte.l0])
    | succ k1 =>
      have H := HA.out
      clear HA
      simp only [slices_IndexFunc_byte_byte.l0] at H
      by_cases c2 : x8_1 < (l0.length : Int)
      · rw [if_pos c2] at H
        have c2b0 : decide (x8_1 < (l0.length : Int)) = true := decide_eq_true c2
        clear c2
        by_cases c3 : 0 ≤ x8_1
        · rw [if_pos c3] at H
          have c3b0 : decide (0 ≤ x8_1) = true := decide_eq_true c3
          clear c3
          by_cases c4 : x8_1 < (l0.length : Int)
          · rw [if_pos c4] at H
            have c4b0 : decide (x8_1 < (l0.length : Int)) = true := decide_eq_true c4
            clear c4
            replace H := Option.bind_eq_some_iff.mp H
            obtain ⟨t111, A50, H⟩ := H
            (try dsimp only at H)
            have A5 := ZA A50
            clear A50
            have p110 : 0 ≤ (x8_1 : Int) := of_decide_eq_true Z10
            have q110 : x8_1 < (l0.length : Int) := of_decide_eq_true Z10
            obtain ⟨ad110, A110_0, c110_0, e110, hx110_0, hl110_0, hi110_0⟩ := at_L1 HR0.out x8_1 p110 q110
            cases e110
            have HR110_0 := ZA hi110_0
            have HC110_0 := ZA hl110_0
            clear hi110_0 hl110_0
            replace p110 := eq_true p110
            replace q110 := eq_true q110
            try go_wp2_with (fail)
            go_at_call 42; (with_reducible refine (impl_PagePlace_1.calls _ _ (rd_L1 l0 x8_1) t111 _ ?side1 ?side2 A5.out).mono ?_); (case side1 => repeat (first | exact HR110_0.out | (with_reducible refine Kd.C_alloc ?_ _) | (with_reducible refine Kd.C_drewN ?_ _) | (with_reducible refine Kd.C_drew ?_))); (case side2 => exact HC110_0.out); rintro e w' ⟨rfl, ⟨nd, rfl⟩⟩
            by_cases c6 : t111 = true
            · subst c6
              rw [if_pos rfl] at H
              (try dsimp only at H)
              obtain rfl := Option.some.inj H
              try go_wp2
              go_ret
              exact ⟨by first | rfl | (simp; done) | (simp [*]; done), Z24⟩
            · replace c6 := Bool.eq_false_iff.mpr c6
              subst c6
              rw [if_neg (show ¬ (false = true) by decide)] at H
              (try dsimp only at H)
              have H' := ZA H
              clear H
              try go_wp2
              go_roundg k1
              case measure => have := HK1.out; omega
              case rel => exact ⟨(wrap64 (x8_1 + 1)), Z7, H', ⟨by have := HK1.out; omega⟩, Z24⟩
          · rw [if_neg c4] at H
            exact absurd H Z44
        · rw [if_neg c3] at H
          exact absurd H Z44
      · rw [if_neg c2] at H
        have c2b0 : decide (x8_1 < (l0.length : Int)) = false := decide_eq_false c2
        clear c2
        obtain rfl := Option.some.inj H
        go_wp2
        go_ret
        exact ⟨by first | rfl | (simp; done) | (simp [*]; done), Z24⟩
end Go.Proofs.Ytokpniagnbaflaa.PFnPlaces
