import Derived.Test.YtokpniagnbaflaaZFnPlaces29
import Derived.Test.YtokpniagnbaflaaZFnPlacesA
import Derived.Test.YtokpniagnbaflaaZFnPlaces30
namespace Go.Proofs.Ytokpniagnbaflaa.PFnPlaces
open Go.RowKit Go.Proofs.YtokpniagnbaflaaW.PrintWords Go.Proofs.YtokpniagnbaflaaW.PrintLast Go.Proofs.YtokpniagnbaflaaW.PrintMore
attribute [local go_sem] max2_int min2_int max_two min_two max_three min_three max_four min_four   -- for this text's walks alone
attribute [local go_sem high] fl_eql fl_neq fl_lss fl_leq fl_gtr fl_geq fl_add fl_sub fl_mul fl_quo fl_neg fl_ofInt fl_toInt fl_store sub_sign fl_nan_quo fl_nan_add fl_nan_mul fl_nan_sub
open Go.Proofs.YtokpniagnbaflaaW.PrintWords renaming below_alloc → h1, pw_below_drewN → h2, below_drew1 → h3, below_set → h4, blk_drewN → b1, blk_drew → b2, blk_alloc → b3
set_option linter.unusedVariables false
set_option linter.unusedSimpArgs false
mutual
def impl_PagePlace.j0 : Nat → Int → Int → Bool → Int → List (List Int) → Option (Int)
 | 0, _, _, _, _, _ => none
 | k + 1, x1, x5, x15, x113000, x113001 => if x15 = true then (some (-1)) else ((slices_IndexFunc_byte_byte.f k x113001).bind fun t115 => (if t115 ≥ 0 then (impl_PagePlace.j1 k x1 x5 t115 (decide ((wrap64 (x5 + x1)) ≤ 240)) x113000 x113001) else (impl_PagePlace.j1 k x1 x5 t115 false x113000 x113001)))
def impl_PagePlace.j1 : Nat → Int → Int → Int → Bool → Int → List (List Int) → Option (Int)
 | 0, _, _, _, _, _, _ => none
 | k + 1, x1, x5, x6, x19, x113000, x113001 => if x19 = true then (some x6) else (if (x113001.length : Int) < 16 then (if (wrap64 ((wrap64 (x5 + 1)) + x1)) ≤ 240 then (some (x113001.length : Int)) else (some (-1))) else (some (-1)))
end
def impl_PagePlace.f (k : Nat) (a0_0 : Int) (l0_1 : List (List Int)) (a1 : Int) : Option (Int) := (impl_PageUsed.f k a0_0 l0_1).bind fun t113 => (if t113 < 0 then (impl_PagePlace.j0 k a1 t113 true a0_0 l0_1) else ((impl_within.f a1 1 92).bind fun t114 => (impl_PagePlace.j0 k a1 t113 (!t114) a0_0 l0_1)))
theorem impl_PagePlace.mono_l : ∀ k, (∀ y0 y1 y2 y3 y4, LeO (impl_PagePlace.j0 k y0 y1 y2 y3 y4) (impl_PagePlace.j0 (k + 1) y0 y1 y2 y3 y4)) ∧ (∀ y0 y1 y2 y3 y4 y5, LeO (impl_PagePlace.j1 k y0 y1 y2 y3 y4 y5) (impl_PagePlace.j1 (k + 1) y0 y1 y2 y3 y4 y5))
 | 0 => ⟨fun _ _ _ _ _ r h => by simp [impl_PagePlace.j0] at h, fun _ _ _ _ _ _ r h => by simp [impl_PagePlace.j1] at h⟩
 | k + 1 => by
  obtain ⟨ih0, ih1⟩ := impl_PagePlace.mono_l k
  refine ⟨?_, ?_⟩
  ·intro y0 y1 y2 y3 y4
   unfold impl_PagePlace.j0
   repeat' with_reducible first | exact ih0 _ _ _ _ _ | exact ih1 _ _ _ _ _ _ | exact impl_PageUsed.mono _ _ _ | exact slices_IndexFunc_byte_byte.mono _ _ | exact LeO.refl _ | exact LeO.none _ | refine LeO.ite ?_ ?_ | refine LeO.bind ?_ (fun _ => ?_)
  ·intro y0 y1 y2 y3 y4 y5
   unfold impl_PagePlace.j1
   repeat' with_reducible first | exact ih0 _ _ _ _ _ | exact ih1 _ _ _ _ _ _ | exact impl_PageUsed.mono _ _ _ | exact slices_IndexFunc_byte_byte.mono _ _ | exact LeO.refl _ | exact LeO.none _ | refine LeO.ite ?_ ?_ | refine LeO.bind ?_ (fun _ => ?_)
theorem impl_PagePlace.mono : ∀ a0 a1 a2 k, LeO (impl_PagePlace.f k a0 a1 a2) (impl_PagePlace.f (k + 1) a0 a1 a2) := by
 intro a0 a1 a2 k
 obtain ⟨ih0, ih1⟩ := impl_PagePlace.mono_l k
 unfold impl_PagePlace.f
 repeat' with_reducible first | exact ih0 _ _ _ _ _ | exact ih1 _ _ _ _ _ _ | exact impl_PageUsed.mono _ _ _ | exact slices_IndexFunc_byte_byte.mono _ _ | exact LeO.refl _ | exact LeO.none _ | refine LeO.ite ?_ ?_ | refine LeO.bind ?_ (fun _ => ?_)
set_option maxHeartbeats 8000000 in
set_option maxRecDepth 100000 in
theorem impl_PagePlace.calls (k : Nat) (a0_0 : Int) (A0_1 : Option Addr) (c0_1 : Nat) (l0_1 : List (List Int)) (a1 : Int) (r : Int) (w : World) (hr0_1 : Kd.C (Kd.slice 5 (Kd.int .u8)) w A0_1 l0_1.length l0_1) (hc0_1 : l0_1.length ≤ c0_1) (h : impl_PagePlace.f k a0_0 l0_1 a1 = some r) :
  Calls Try.prog 17 #[.agg #[.int .i64 a0_0, .slice A0_1 l0_1.length c0_1], .int .i64 a1] w fun e w' => e = .returned (.int .i64 r) ∧ Below w.heap.size w w' := by
 have hu27 := Try.underlying27
 have HR0_1 := ZA hr0_1
 have HC0_1 := ZA hc0_1
 clear hr0_1 hc0_1
 have HB := ZA (Below.refl w.heap.size w)
 have H := h
 clear h
 unfold impl_PagePlace.f at H
 replace H := Option.bind_eq_some_iff.mp H
 obtain ⟨t113, A30, H⟩ := H
 (try dsimp only at H)
 have A3 := ZA A30
 clear A30
 have HC4 := ZA H
 clear H
 go_enter Try.func17, Try.ntmps17
 go_upto_region 2 with (first | ((with_reducible refine gate_dst (N := 2) rfl ?_); refine box_event ?hg (N := 2) ?hd (cs := #[.int .i64 a0_0, .slice A0_1 l0_1.length c0_1]) (t := 27) ?hr ?_; (case hd => rfl); (case hg => rfl); (case hr => first | (go_simp; done) | (go_simp; rfl)); intro gb112 hg w5 hbox hb; have n0_ := ZA (below_step (hup HB.out) hb); have n1_ := ZA (hbox); have n2_ := Geq.mk ((Z28 : w.heap.size ≤ gb112)); have n3_ := Geq.mk ((Z28 : w.heap.size ≤ gb112)); clear HB; have HB := n0_; have BK112 := n1_; have GW112 := n2_; have GE112 := n3_; clear n0_ n1_ n2_ n3_ hb hbox hg; obtain ⟨hcz6_0, hcz6_1⟩ := blk_cells2 BK112.out; obtain ⟨hfz6_0, hfz6_1⟩ := blk_frozens2 BK112.out) | ((with_reducible refine gate_callee (f := 14) rfl ?_); refine goesL_ (some 8) rfl rfl Try.func14 Z12 rfl #[.agg #[.int .i64 a0_0, .slice A0_1 l0_1.length c0_1]] rfl Z1 ?_; (with_reducible refine (impl_PageUsed.calls k a0_0 _ _ l0_1 t113 _ ?side1 ?side2 A3.out).mono ?_); (case side1 => repeat (first | exact (Kd.C_below HR0_1.out HB.out) | (with_reducible refine Kd.C_alloc ?_ _) | (with_reducible refine Kd.C_drewN ?_ _) | (with_reducible refine Kd.C_drew ?_))); (case side2 => exact HC0_1.out); rintro e w7 ⟨rfl, hb⟩; refine ⟨_, rfl, ?_⟩; have n0_ := ZA (blk_below (bup BK112.out) hb); have n1_ := ZA (below_step (hset HB.out) hb); clear BK112 HB; have BK112 := n0_; have HB := n1_; clear n0_ n1_; (try clear hb); (try clear hb2); (try clear hk); (try clear hi)))
 (try simp only [Act.put, List.setIfInBounds_toArray, List.set_cons_zero, List.set_cons_succ])
 go_cut [15] (fun v15 wc => ∃ (kq : Nat) (x15_3 : Bool), v15 = .bool x15_3 ∧ Aside0 (impl_PagePlace.j0 kq a1 t113 x15_3 a0_0 l0_1 = some r) ∧ Aside0 (kq ≤ k) ∧ Aside0 (wc.heap[gb112]? = some (.cells #[.int .i64 a0_0, (.slice A0_1 l0_1.length c0_1)] 27 (0, 0))) ∧ Aside0 (Below w.heap.size w wc))
 case first =>
  have H := HC4.out
  clear HC4
  by_cases c8 : t113 < 0
  ·rw [if_pos c8] at H
   have c8b0 : decide (t113 < 0) = true := decide_eq_true c8
   clear c8
   (first | rw [c8b0] | (simp only [i64_w, i32_w]; rw [c8b0]) | skip)
   have H' := ZA H
   clear H
   go_wp2
   go_meet
   case rel => exact ⟨_, (true), Z7, H', ⟨by first | omega | exact Nat.le_refl _⟩, ⟨by exact bup BK112.out⟩, ⟨hset HB.out⟩⟩
  ·rw [if_neg c8] at H
   have c8b0 : decide (t113 < 0) = false := decide_eq_false c8
   clear c8
   (first | rw [c8b0] | (simp only [i64_w, i32_w]; rw [c8b0]) | skip)
   replace H := Option.bind_eq_some_iff.mp H
   obtain ⟨t114, A90, H⟩ := H
   (try dsimp only at H)
   have A9 := ZA A90
   clear A90
   have H' := ZA H
   clear H
   go_wp2_with (first | (go_at_call 39; (with_reducible refine (impl_within.calls a1 1 92 t114 _ A9.out).mono ?_); rintro e w' ⟨rfl, ⟨nd, rfl⟩⟩))
   go_meet
   case rel => exact ⟨_, (!t114), Z7, H', ⟨by first | omega | exact Nat.le_refl _⟩, ⟨by exact bup BK112.out⟩, ⟨hset HB.out⟩⟩
 case rest =>
  clear HC4
  try clear c1
  try clear p2
  try clear c8
  try clear c8b0
  try clear hcz6_0
  try clear hcz6_1
  try clear hfz6_0
  try clear hfz6_1
  obtain ⟨kq, x15_3, rfl, HA, HJ3, BK112, HB⟩ := hcut
  cases kq with
  | zero => exact absurd HA.out (by simp [impl_PagePlace.j0])
  | succ kj3 =>
   have H := HA.out
   clear HA
   simp only [impl_PagePlace.j0] at H
   by_cases c10 : x15_3 = true
   ·subst c10
    rw [if_pos rfl] at H
    (try dsimp only at H)
    obtain rfl := Option.some.inj H
    go_wp2
    go_ret
    exact ⟨by first | rfl | (simp [errW_none, errW_some] <;> rfl) | (simp [*, errW_none, errW_some] <;> rfl), hset HB.out⟩
   ·replace c10 := Bool.eq_false_iff.mpr c10
    subst c10
    rw [if_neg (show ¬ (false = true) by decide)] at H
    (try dsimp only at H)
    replace H := Option.bind_eq_some_iff.mp H
    obtain ⟨t115, A110, H⟩ := H
    (try dsimp only at H)
    have A11 := ZA A110
    clear A110
    have HC12 := ZA H
    clear H
    obtain ⟨hcz13_0, hcz13_1⟩ := blk_cells2 BK112.out
    obtain ⟨hfz13_0, hfz13_1⟩ := blk_frozens2 BK112.out
    go_upto_region 5 with (first | ((with_reducible refine gate_callee (f := 41) rfl ?_); refine goesL_ (some 18) rfl rfl Try.func41 Z12 rfl #[.slice A0_1 l0_1.length c0_1, .func (.func 42) #[] #[]] rfl Z1 ?_; (with_reducible refine (slices_IndexFunc_byte_byte.calls kj3 _ _ l0_1 t115 _ ?side1 ?side2 A11.out).mono ?_); (case side1 => repeat (first | exact (Kd.C_below HR0_1.out HB.out) | (with_reducible refine Kd.C_alloc ?_ _) | (with_reducible refine Kd.C_drewN ?_ _) | (with_reducible refine Kd.C_drew ?_))); (case side2 => exact HC0_1.out); rintro e w' ⟨rfl, ⟨nd, rfl⟩⟩; refine ⟨_, rfl, ?_⟩))
    (try simp only [Act.put, List.setIfInBounds_toArray, List.set_cons_zero, List.set_cons_succ])
    go_cut [19] (fun v19 wc => ∃ (kq : Nat) (x19_11 : Bool), v19 = .bool x19_11 ∧ Aside0 (impl_PagePlace.j1 kq a1 t113 t115 x19_11 a0_0 l0_1 = some r) ∧ Aside0 (kq ≤ kj3) ∧ Aside0 (wc.heap[gb112]? = some (.cells #[.int .i64 a0_0, (.slice A0_1 l0_1.length c0_1)] 27 (0, 0))) ∧ Aside0 (Below w.heap.size w wc))
    case first =>
     have H := HC12.out
     clear HC12
     by_cases c14 : t115 ≥ 0
     ·rw [if_pos c14] at H
      have c14b0 : decide (0 ≤ t115) = true := decide_eq_true c14
      clear c14
      (first | rw [c14b0] | (simp only [i64_w, i32_w]; rw [c14b0]) | skip)
      have H' := ZA H
      clear H
      go_wp2
      go_meet
      case rel => exact ⟨_, (decide ((wrap64 (t113 + a1)) ≤ 240)), Z7, H', ⟨by have := HJ3.out; first | omega | exact Nat.le_refl _⟩, ⟨by exact bup BK112.out⟩, ⟨hset HB.out⟩⟩
     ·rw [if_neg c14] at H
      have c14b0 : decide (0 ≤ t115) = false := decide_eq_false c14
      clear c14
      (first | rw [c14b0] | (simp only [i64_w, i32_w]; rw [c14b0]) | skip)
      have H' := ZA H
      clear H
      go_wp2
      go_meet
      case rel => exact ⟨_, (false), Z7, H', ⟨by have := HJ3.out; first | omega | exact Nat.le_refl _⟩, ⟨by exact bup BK112.out⟩, ⟨hset HB.out⟩⟩
    case rest =>
     clear HC12
     try clear c1
     try clear p2
     try clear c4
     try clear p6
     try clear c8
     try clear c8b0
     try clear c10
     try clear c14
     try clear c14b0
     try clear hcz13_0
     try clear hcz13_1
     try clear hcz6_0
     try clear hcz6_1
     try clear hfz13_0
     try clear hfz13_1
     try clear hfz6_0
     try clear hfz6_1
     try clear p2
     obtain ⟨kq, x19_11, rfl, HA, HJ11, BK112, HB⟩ := hcut
     cases kq with
     | zero => exact absurd HA.out (by simp [impl_PagePlace.j1])
     | succ kj11 =>
      have H := HA.out
      clear HA
      simp only [impl_PagePlace.j1] at H
      by_cases c15 : x19_11 = true
      ·subst c15
       rw [if_pos rfl] at H
       (try dsimp only at H)
       obtain rfl := Option.some.inj H
       go_wp2
       go_ret
       exact ⟨by first | rfl | (simp [errW_none, errW_some] <;> rfl) | (simp [*, errW_none, errW_some] <;> rfl), hset HB.out⟩
      ·replace c15 := Bool.eq_false_iff.mpr c15
       subst c15
       rw [if_neg (show ¬ (false = true) by decide)] at H
       (try dsimp only at H)
       by_cases c16 : (l0_1.length : Int) < 16
       ·rw [if_pos c16] at H
        have c16b0 : decide ((l0_1.length : Int) < 16) = true := decide_eq_true c16
        have c16b1 : decide (l0_1.length < 16) = true := decide_eq_true Z8
        clear c16
        by_cases c17 : (wrap64 ((wrap64 (t113 + 1)) + a1)) ≤ 240
        ·rw [if_pos c17] at H
         have c17b0 : decide ((wrap64 ((wrap64 (t113 + 1)) + a1)) ≤ 240) = true := decide_eq_true c17
         clear c17
         obtain rfl := Option.some.inj H
         obtain ⟨hcz18_0, hcz18_1⟩ := blk_cells2 BK112.out
         obtain ⟨hfz18_0, hfz18_1⟩ := blk_frozens2 BK112.out
         go_wp2
         go_ret
         exact ⟨by first | rfl | (simp [errW_none, errW_some] <;> rfl) | (simp [*, errW_none, errW_some] <;> rfl), hset HB.out⟩
        ·rw [if_neg c17] at H
         have c17b0 : decide ((wrap64 ((wrap64 (t113 + 1)) + a1)) ≤ 240) = false := decide_eq_false c17
         clear c17
         obtain rfl := Option.some.inj H
         obtain ⟨hcz19_0, hcz19_1⟩ := blk_cells2 BK112.out
         obtain ⟨hfz19_0, hfz19_1⟩ := blk_frozens2 BK112.out
         go_wp2
         go_ret
         exact ⟨by first | rfl | (simp [errW_none, errW_some] <;> rfl) | (simp [*, errW_none, errW_some] <;> rfl), hset HB.out⟩
       ·rw [if_neg c16] at H
        have c16b0 : decide ((l0_1.length : Int) < 16) = false := decide_eq_false c16
        have c16b1 : decide (l0_1.length < 16) = false := decide_eq_false Z8
        clear c16
        obtain rfl := Option.some.inj H
        obtain ⟨hcz20_0, hcz20_1⟩ := blk_cells2 BK112.out
        obtain ⟨hfz20_0, hfz20_1⟩ := blk_frozens2 BK112.out
        go_wp2
        go_ret
        exact ⟨by first | rfl | (simp [errW_none, errW_some] <;> rfl) | (simp [*, errW_none, errW_some] <;> rfl), hset HB.out⟩
def impl_isLsn.f (a0 : Int) : Option (Bool) := (impl_within.f a0 1 1000000).bind fun t116 => (some t116)
set_option maxHeartbeats 8000000 in
set_option maxRecDepth 100000 in
theorem impl_isLsn.calls (a0 : Int) (r : Bool) (w : World) (h : impl_isLsn.f a0 = some r) :
    Calls Try.prog 44 #[.int .i64 a0] w fun e w' => e = .returned (.bool r) ∧ Drawn0 w w' := by
  have H := h
  clear h
  unfold impl_isLsn.f at H
  replace H := Option.bind_eq_some_iff.mp H
  obtain ⟨t116, A20, H⟩ := H
  (try dsimp only at H)
  have A2 := ZA A20
  clear A20
  obtain rfl := Option.some.inj H
  go_enter Try.func44, Try.ntmps44
  go_wp2_with (first | ((with_reducible refine gate_callee (f := 39) rfl ?_); refine goesL_ (some 4) rfl rfl Try.func39 Z12 rfl #[.int .i64 a0, .int .i64 1, .int .i64 1000000] rfl Z1 ?_; (with_reducible refine (impl_within.calls a0 1 1000000 t116 _ A2.out).mono ?_); rintro e w' ⟨rfl, ⟨nd, rfl⟩⟩; refine ⟨_, rfl, ?_⟩))
  go_ret
  exact ⟨by first | rfl | (simp; done) | (simp [*]; done), Z24⟩
def slices_Clone_byte_byte.f (l0 : List Int) : Option (List Int) := (some (([] : List Int) : List Int)).bind fun y117 => (if y117.length + l0.length < 140737488355328 then (some (y117 ++ l0)) else (none))
set_option maxHeartbeats 8000000 in
set_option maxRecDepth 100000 in
theorem slices_Clone_byte_byte.calls (A0 : Option Addr) (c0 : Nat) (l0 : List Int) (r : List Int) (w : World) (hr0 : Kd.C (Kd.int .u8) w A0 l0.length l0) (hc0 : l0.length ≤ c0) (h : slices_Clone_byte_byte.f l0 = some r) :
    Calls Try.prog 49 #[.slice A0 l0.length c0] w fun e w' => ∃ v0_ : Value, e = .returned (v0_) ∧ Kd.R (Kd.int .u8) 5 w' w.heap.size (fun _ => True) v0_ r ∧ Below w.heap.size w w' := by
  rcases A0 with _ | ad0
  · have hl0 : l0 = [] := by
      rcases Nat.eq_zero_or_pos l0.length with hz | hz
      · exact List.eq_nil_of_length_eq_zero hz
      · obtain ⟨ad, e, _⟩ := hr0.2.2 hz
        cases e
    subst hl0
    have hr : r = [] := by simpa [slices_Clone_byte_byte.f] using h.symm
    subst hr
    have hq := fun (w : World) (a : Option Addr) (n c : Nat) => Lib.run_eql_slice_nil (P := Try.prog) w 36 5 a n c 0 0 Try.underlying36
    go_enter Try.func49, Try.ntmps49
    go_wp2
    go_ret
    exact ⟨_, rfl, Kd.R_nil _ _ _ _ _, by repeat (first | exact Below.refl _ _ | apply h1 | apply h2 | apply h3)⟩
  · have HR0 := ZA hr0
    have HC0 := ZA hc0
    clear hr0 hc0
    have HB := ZA (Below.refl w.heap.size w)
    have H := h
    clear h
    unfold slices_Clone_byte_byte.f at H
    obtain ⟨y117, hy117⟩ : ∃ y_ : List Int, y_ = (([] : List Int)) := ⟨_, rfl⟩
    replace H : (if y117.length + l0.length < 140737488355328 then (some (y117 ++ l0)) else (none)) = some r := by first | (rw [hy117]; with_reducible exact H) | (have H2_ := (Option.bind_some _ _).symm.trans H; rw [hy117]; with_reducible exact H2_) | (have H2_ := (Option.bind_some _ _).symm.trans H; with_reducible exact H2_) | with_reducible exact H | (rw [hy117]; exact H) | exact H
    have Ny117 := ZA hy117
    clear hy117
    by_cases c2 : y117.length + l0.length < 140737488355328
    · rw [if_pos c2] at H
      have LMc2 := ZA c2
      clear c2
      obtain ⟨y120, hy120⟩ : ∃ y_ : List Int, y_ = (y117 ++ l0) := ⟨_, rfl⟩
      replace H : (some y120) = some r := by first | (rw [hy120]; with_reducible exact H) | (have H2_ := (Option.bind_some _ _).symm.trans H; rw [hy120]; with_reducible exact H2_) | (have H2_ := (Option.bind_some _ _).symm.trans H; with_reducible exact H2_) | with_reducible exact H | (rw [hy120]; exact H) | exact H
      have Ny120 := ZA hy120
      clear hy120
      obtain rfl := Option.some.inj H
      have hq := fun (w : World) (a : Option Addr) (n c : Nat) => Lib.run_eql_slice_nil (P := Try.prog) w 36 5 a n c 0 0 Try.underlying36
      go_enter Try.func49, Try.ntmps49
      go_wp2_with (first | ((with_reducible refine gate_dst (N := 5) rfl ?_); refine Kd.R_lit (Kd.int .u8) _ 5 ?hg (N := 5) ?hd (xs := ([] : List Int)) (inner := []) (ok := fun _ => True) (okp := fun _ => True) ?hr ?hp (fun _ hk => hk) trivial (Below.refl _ _) (Nat.le_refl _) Z44 ?_; (case hd => rfl); (case hg => rfl); (case hr => first | (go_simp; done) | (go_simp; rfl)); (case hp => exact (Reps.none _ _)); intro v118 w3 ho4 hb hg_ hnew_; clear hg_ hnew_; (first | rw [← Ny117.out] at ho4 | (simp only [Int.reduceToNat] at ho4; rw [← Ny117.out] at ho4)); have n0_ := ZA (Kd.R_lower ho4 (below_size (hup HB.out))); have n1_ := ZA (below_step (hup HB.out) hb); clear HB; have HO119 := n0_; have HB := n1_; clear n0_ n1_ hb ho4) | ((with_reducible refine gate_builtin (b := .append) (xs := #[.tmp 5, .tmp 6]) rfl ?_); at_builtin; refine Kd.R_append_rows (Kd.int .u8) (w0 := w) w.heap.size rfl (.tmp 5) (.tmp 6) 36 5 (.int .u8 0) 1 rfl Try.underlying36 info5 rfl Z25 Z8 v118 y117 l0 _ _ _ (fun _ => True) (fun _ => False) rfl rfl ?aO ?aR (fun _ _ h => h) (fun _ h => h.elim) ?aF ?aB ?aS ?aL ?_; (case aR => repeat (first | exact (Kd.C_below HR0.out HB.out) | (with_reducible refine Kd.C_alloc ?_ _) | (with_reducible refine Kd.C_drewN ?_ _) | (with_reducible refine Kd.C_drew ?_))); (case aB => exact (hup HB.out)); (case aF => exact (fun _ _ => trivial)); (case aO => exact (Kd.rup HO119.out)); (case aS => exact (below_size (hup HB.out))); (case aL => have := LMc2.out; omega); intro v121 w5 ho hb hg hat; rw [← Ny120.out] at ho; have n0_ := ZA (hb); have n1_ := ZA (ho); clear HB HO119; have HB := n0_; have HO122 := n1_; clear n0_ n1_ ho hb hg hat))
      go_ret
      exact ⟨_, by first | rfl | (simp [errW_none, errW_some] <;> rfl) | (simp [*, errW_none, errW_some] <;> rfl), by exact Kd.rup HO122.out, Z45⟩
    · rw [if_neg c2] at H
      exact absurd H Z44
  
def impl_Page_slots.l0 : Nat → List (List Int) → List (List Int) → Int → Int → Option ((List (List Int)))
  | 0, _, _, _, _ => none
  | k + 1, x3, x7, x8, x9 => if x9 < x8 then (if 0 ≤ x9 then (if x9 < (x7.length : Int) then ((slices_Clone_byte_byte.f (rd_L1 x7 x9)).bind fun t125 => (if x3.length < 5864062014805 then (impl_Page_slots.l0 k (x3 ++ [t125]) x7 x8 (wrap64 (x9 + 1))) else (none))) else (none)) else (none)) else (some x3)
def impl_Page_slots.f (k : Nat) (a0_0 : Int) (l0_1 : List (List Int)) : Option ((List (List Int))) := impl_Page_slots.l0 k ([] : List (List Int)) l0_1 (l0_1.length : Int) 0
theorem impl_Page_slots.mono_l : ∀ k, (∀ y0 y1 y2 y3, LeO (impl_Page_slots.l0 k y0 y1 y2 y3) (impl_Page_slots.l0 (k + 1) y0 y1 y2 y3))
  | 0 => fun _ _ _ _ r h => by simp [impl_Page_slots.l0] at h
  | k + 1 => by
    have ih0 := impl_Page_slots.mono_l k
    · intro y0 y1 y2 y3
      unfold impl_Page_slots.l0
      repeat' with_reducible first | exact ih0 _ _ _ _ | exact LeO.refl _ | exact LeO.none _ | refine LeO.ite ?_ ?_ | refine LeO.bind ?_ (fun _ => ?_)
theorem impl_Page_slots.mono : ∀ a0 a1 k, LeO (impl_Page_slots.f k a0 a1) (impl_Page_slots.f (k + 1) a0 a1) := by
  intro a0 a1 k
  have ih0 := impl_Page_slots.mono_l k
  unfold impl_Page_slots.f
  repeat' with_reducible first | exact ih0 _ _ _ _ | exact LeO.refl _ | exact LeO.none _ | refine LeO.ite ?_ ?_ | refine LeO.bind ?_ (fun _ => ?_)
set_option maxHeartbeats 8000000 in
set_option maxRecDepth 100000 in
theorem impl_Page_slots.calls (k : Nat) (a0_0 : Int) (A0_1 : Option Addr) (c0_1 : Nat) (l0_1 : List (List Int)) (r : List (List Int)) (w : World) (hr0_1 : Kd.C (Kd.slice 5 (Kd.int .u8)) w A0_1 l0_1.length l0_1) (hc0_1 : l0_1.length ≤ c0_1) (h : impl_Page_slots.f k a0_0 l0_1 = some r) :
    Calls Try.prog 45 #[.agg #[.int .i64 a0_0, .slice A0_1 l0_1.length c0_1]] w fun e w' => ∃ v0_ : Value, e = .returned (v0_) ∧ Kd.S (Kd.slice 5 (Kd.int .u8)) 36 w' w.heap.size (fun _ => True) v0_ r ∧ Below w.heap.size w w' := by
  have hu27 := Try.underlying27
  have HR0_1 := ZA hr0_1
  have HC0_1 := ZA hc0_1
  clear hr0_1 hc0_1
  have HB := ZA (Below.refl w.heap.size w)
  have H := h
  clear h
  unfold impl_Page_slots.f at H
  have H' := ZA H
  clear H
  go_enter Try.func45, Try.ntmps45
  go_wp2_with (first | ((with_reducible refine gate_dst (N := 1) rfl ?_); refine box_event ?hg (N := 1) ?hd (cs := #[.int .i64 a0_0, .slice A0_1 l0_1.length c0_1]) (t := 27) ?hr ?_; (case hd => rfl); (case hg => rfl); (case hr => first | (go_simp; done) | (go_simp; rfl)); intro gb123 hg w2 hbox hb; have n0_ := ZA (below_step (hup HB.out) hb); have n1_ := ZA (hbox); have n2_ := Geq.mk ((Z28 : w.heap.size ≤ gb123)); have n3_ := Geq.mk ((Z28 : w.heap.size ≤ gb123)); clear HB; have HB := n0_; have BK123 := n1_; have GW123 := n2_; have GE123 := n3_; clear n0_ n1_ n2_ n3_ hb hbox hg; obtain ⟨hcz3_0, hcz3_1⟩ := blk_cells2 BK123.out; obtain ⟨hfz3_0, hfz3_1⟩ := blk_frozens2 BK123.out))
  go_loopg [3, 9] k (fun kq v3 v9 w' => ∃ (x3_1 : List (List Int)) (x9_1 : Int), v9 = .int .i64 x9_1 ∧ Aside0 (impl_Page_slots.l0 kq x3_1 l0_1 (l0_1.length : Int) x9_1 = some r) ∧ Aside0 (kq ≤ k) ∧ Aside0 (Kd.S (Kd.slice 5 (Kd.int .u8)) 36 w' w.heap.size (fun _ => True) v3 x3_1) ∧ Aside0 (w'.heap[gb123]? = some (.cells #[.int .i64 a0_0, (.slice A0_1 l0_1.length c0_1)] 27 (0, 0))) ∧ Aside0 (Below w.heap.size w w'))
  case atStart => exact ⟨(([] : List (List Int))), (0), Z7, H', ⟨Nat.le_refl _⟩, ⟨by first | exact Kd.S_nil _ _ _ _ _ | exact Kd.N_nil _ _ _ _ _ | exact Kd.V_nil _ _ _ _ _ | exact Kd.Q_nil _ _ _ _ _ | exact Kd.R_nil _ _ _ _ _⟩, ⟨by exact bup BK123.out⟩, ⟨hset HB.out⟩⟩
  case round =>
    clear H'
    try clear p2
    try clear hcz3_0
    try clear hcz3_1
    try clear hfz3_0
    try clear hfz3_1
    obtain ⟨x3_1, x9_1, rfl, HA, HK1, HO_3, BK123, HB⟩ := hrel
    cases gk with
    | zero => exact absurd HA.out (by simp [impl_Page_slots.l0])
    | succ k1 =>
      have H := HA.out
      clear HA
      simp only [impl_Page_slots.l0] at H
      by_cases c4 : x9_1 < (l0_1.length : Int)
      · rw [if_pos c4] at H
        have c4b0 : decide (x9_1 < (l0_1.length : Int)) = true := decide_eq_true c4
        clear c4
        by_cases c5 : 0 ≤ x9_1
        · rw [if_pos c5] at H
          have c5b0 : decide (0 ≤ x9_1) = true := decide_eq_true c5
          clear c5
          by_cases c6 : x9_1 < (l0_1.length : Int)
          · rw [if_pos c6] at H
            have c6b0 : decide (x9_1 < (l0_1.length : Int)) = true := decide_eq_true c6
            clear c6
            replace H := Option.bind_eq_some_iff.mp H
            obtain ⟨t125, A70, H⟩ := H
            (try dsimp only at H)
            have A7 := ZA A70
            clear A70
            by_cases c8 : x3_1.length < 5864062014805
            · rw [if_pos c8] at H
              have LMc8 := ZA c8
              clear c8
              obtain ⟨y128, hy128⟩ : ∃ y_ : List (List Int), y_ = (x3_1 ++ [t125]) := ⟨_, rfl⟩
              replace H : (impl_Page_slots.l0 k1 y128 l0_1 (l0_1.length : Int) (wrap64 (x9_1 + 1))) = some r := by first | (rw [hy128]; with_reducible exact H) | (have H2_ := (Option.bind_some _ _).symm.trans H; rw [hy128]; with_reducible exact H2_) | (have H2_ := (Option.bind_some _ _).symm.trans H; with_reducible exact H2_) | with_reducible exact H | (rw [hy128]; exact H) | exact H
              have Ny128 := ZA hy128
              clear hy128
              have H' := ZA H
              clear H
              have p124 : 0 ≤ (x9_1 : Int) := of_decide_eq_true Z10
              have q124 : x9_1 < (l0_1.length : Int) := of_decide_eq_true Z10
              obtain ⟨ad124, A124_0, c124_0, e124, hx124_0, hl124_0, hi124_0⟩ := at_L1 HR0_1.out x9_1 p124 q124
              cases e124
              replace hx124_0 := (HB.out.cell (World.block_lt_of_cell? w _ hx124_0)).trans hx124_0
              have HR124_0 := ZA hi124_0
              have HC124_0 := ZA hl124_0
              clear hi124_0 hl124_0
              replace p124 := eq_true p124
              replace q124 := eq_true q124
              go_wp2_with (first | ((with_reducible refine gate_callee (f := 49) rfl ?_); refine goesL_ (some 15) rfl rfl Try.func49 Z12 rfl #[.slice A124_0 (rd_L1 l0_1 x9_1).length c124_0] rfl Z1 ?_; (with_reducible refine (slices_Clone_byte_byte.calls _ _ (rd_L1 l0_1 x9_1) t125 _ ?side1 ?side2 A7.out).mono ?_); (case side1 => repeat (first | exact (Kd.C_below HR124_0.out HB.out) | (with_reducible refine Kd.C_alloc ?_ _) | (with_reducible refine Kd.C_drewN ?_ _) | (with_reducible refine Kd.C_drew ?_))); (case side2 => exact HC124_0.out); rintro e w9 ⟨v126, rfl, ho0, hb⟩; refine ⟨_, rfl, ?_⟩; have n0_ := ZA (Kd.S_elder' (by (with_reducible repeat (first | apply Kd.S_alloc | apply Kd.S_drewN | apply Kd.S_drew)); exact HO_3.out) (Kd.R_base ho0) hb); have n1_ := ZA (Kd.R_lower ho0 (below_size (hset HB.out))); have n2_ := ZA (blk_below (bup BK123.out) hb); have n3_ := ZA (below_step (hset HB.out) hb); clear HO_3 BK123 HB; have HO_3 := n0_; have HO127 := n1_; have BK123 := n2_; have HB := n3_; clear n0_ n1_ n2_ n3_; (try clear hb); (try clear hb2); (try clear hk); (try clear hi); (try clear ho0); obtain ⟨Ao11, co11, eo11⟩ := Kd.R_slice HO127.out; subst eo11) | ((with_reducible refine gate_builtin (b := .append) (xs := #[.tmp 13, .tmp 16]) rfl ?_); at_builtin; refine Kd.S_append (Kd.slice 5 (Kd.int .u8)) (w0 := w) w.heap.size rfl (.tmp 13) (.tmp 16) 22 36 (.slice none 0 0) 24 rfl Try.underlying22 info36 rfl Z25 Z8 u3 x3_1 t125 [.slice Ao11 t125.length co11] (fun _ => True) (fun k_ => some k_ = (.slice Ao11 t125.length co11 : Value).ownBlock) rfl rfl ?aP (fun k_ hk_ => ((Kd.R_mono (ok' := fun k_ => ((fun _ => True)) k_ ∧ some k_ ≠ (u3 : Value).ownBlock) (Kd.R_apart' (HO127.out) (Kd.S_typed HO_3.out) Z25) (fun k_ hk => ⟨trivial, hk.2⟩))).1 k_ hk_.symm) ?aF ?aO ?aB ?aS ?aL ?_; (case aP => exact Kd.M_row (Kd.R_mono (Kd.R_tight rfl (Kd.R_mono (ok' := fun k_ => ((fun _ => True)) k_ ∧ some k_ ≠ (u3 : Value).ownBlock) (Kd.R_apart' (HO127.out) (Kd.S_typed HO_3.out) Z25) (fun k_ hk => ⟨trivial, hk.2⟩))) (fun _ h_ => h_))); (case aB => exact (hset HB.out)); (case aF => exact (fun _ _ => trivial)); (case aO => exact (by (with_reducible repeat (first | apply Kd.S_alloc | apply Kd.S_drewN | apply Kd.S_drew)); exact Kd.S_mono HO_3.out (fun k_ hk => ⟨trivial, fun e_ => hk.2 e_⟩))); (case aS => exact (below_size (hset HB.out))); (case aL => have := LMc8.out; omega); intro v129 w10 ho hb hg hat; rw [← Ny128.out] at ho; have n0_ := ZA (blk_grown (g := gb123) (o := .cells #[.int .i64 a0_0, .slice (some ad124) l0_1.length c0_1] 27 (0, 0)) (bup BK123.out) hg (Kd.S_ne HO_3.out BK123.out Z25)); have n1_ := ZA (hb); have n2_ := ZA (ho); clear BK123 HB HO_3 HO127; have BK123 := n0_; have HB := n1_; have HO130 := n2_; clear n0_ n1_ n2_ ho hb hg hat))
              go_roundg k1
              case measure => have := HK1.out; omega
              case rel => exact ⟨(y128), (wrap64 (x9_1 + 1)), Z7, H', ⟨by have := HK1.out; omega⟩, ⟨by (with_reducible repeat (first | apply Kd.S_alloc | apply Kd.S_drewN | apply Kd.S_drew)); exact HO130.out⟩, ⟨by exact bup BK123.out⟩, ⟨hset HB.out⟩⟩
            · rw [if_neg c8] at H
              exact absurd H Z44
          · rw [if_neg c6] at H
            exact absurd H Z44
        · rw [if_neg c5] at H
          exact absurd H Z44
      · rw [if_neg c4] at H
        have c4b0 : decide (x9_1 < (l0_1.length : Int)) = false := decide_eq_false c4
        clear c4
        obtain rfl := Option.some.inj H
        go_wp2
        go_ret
        exact ⟨_, by first | rfl | (simp [errW_none, errW_some] <;> rfl) | (simp [*, errW_none, errW_some] <;> rfl), by (with_reducible repeat (first | apply Kd.S_alloc | apply Kd.S_drewN | apply Kd.S_drew)); exact HO_3.out, hset HB.out⟩
def impl_isSlot.f (a0 : Int) : Option (Bool) := (impl_within.f a0 0 15).bind fun t131 => (some t131)
set_option maxHeartbeats 8000000 in
set_option maxRecDepth 100000 in
theorem impl_isSlot.calls (a0 : Int) (r : Bool) (w : World) (h : impl_isSlot.f a0 = some r) :
    Calls Try.prog 48 #[.int .i64 a0] w fun e w' => e = .returned (.bool r) ∧ Drawn0 w w' := by
  have H := h
  clear h
  unfold impl_isSlot.f at H
  replace H := Option.bind_eq_some_iff.mp H
  obtain ⟨t131, A20, H⟩ := H
  (try dsimp only at H)
  have A2 := ZA A20
  clear A20
  obtain rfl := Option.some.inj H
  go_enter Try.func48, Try.ntmps48
  go_wp2_with (first | ((with_reducible refine gate_callee (f := 39) rfl ?_); refine goesL_ (some 4) rfl rfl Try.func39 Z12 rfl #[.int .i64 a0, .int .i64 0, .int .i64 15] rfl Z1 ?_; (with_reducible refine (impl_within.calls a0 0 15 t131 _ A2.out).mono ?_); rintro e w' ⟨rfl, ⟨nd, rfl⟩⟩; refine ⟨_, rfl, ?_⟩))
  go_ret
  exact ⟨by first | rfl | (simp; done) | (simp [*]; done), Z24⟩
end Go.Proofs.Ytokpniagnbaflaa.PFnPlaces
