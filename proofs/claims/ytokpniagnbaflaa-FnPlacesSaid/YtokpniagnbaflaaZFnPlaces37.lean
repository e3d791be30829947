import Derived.Test.YtokpniagnbaflaaZFnPlaces29
import Derived.Test.YtokpniagnbaflaaZFnPlacesA
import Derived.Test.YtokpniagnbaflaaZFnPlaces30
import Derived.Test.YtokpniagnbaflaaZFnPlaces35
namespace Go.Proofs.Ytokpniagnbaflaa.PFnPlaces
open Go.RowKit Go.Proofs.YtokpniagnbaflaaW.PrintWords Go.Proofs.YtokpniagnbaflaaW.PrintLast Go.Proofs.YtokpniagnbaflaaW.PrintMore
attribute [local go_sem] max2_int min2_int max_two min_two max_three min_three max_four min_four   -- for this text's walks alone
attribute [local go_sem high] fl_eql fl_neq fl_lss fl_leq fl_gtr fl_geq fl_add fl_sub fl_mul fl_quo fl_neg fl_ofInt fl_toInt fl_store sub_sign fl_nan_quo fl_nan_add fl_nan_mul fl_nan_sub
open Go.Proofs.YtokpniagnbaflaaW.PrintWords renaming below_alloc → h1, pw_below_drewN → h2, below_drew1 → h3, below_set → h4, blk_drewN → b1, blk_drew → b2, blk_alloc → b3
set_option linter.unusedVariables false
set_option linter.unusedSimpArgs false
mutual
def spec_ItemOk.j0 : Nat → Bool → Int → Int → Nat → List Int → Option (Bool)
 | 0, _, _, _, _, _ => none
 | k + 1, x16, x228000, x228001, x228002, x228003 => if x16 = true then (some false) else (if x228000 = 1 then (spec_ItemOk.j1 k false x228000 x228001 x228002 x228003) else (spec_ItemOk.j1 k (x228001 != 0) x228000 x228001 x228002 x228003))
def spec_ItemOk.j1 : Nat → Bool → Int → Int → Nat → List Int → Option (Bool)
 | 0, _, _, _, _, _ => none
 | k + 1, x24, x228000, x228001, x228002, x228003 => if x24 = true then (some false) else (if x228000 = 2 then (if x228000 = 3 then (some true) else (some ((x228003.length : Int) == 0))) else ((spec_FloatBits.f k x228002).bind fun t228 => (if t228 = 0 then (if x228000 = 3 then (some true) else (some ((x228003.length : Int) == 0))) else (some false))))
end
def spec_ItemOk.f (k : Nat) (a0_0 : Int) (a0_1 : Int) (a0_2 : Nat) (l0_3 : List Int) : Option (Bool) := if a0_0 < 0 then (spec_ItemOk.j0 k true a0_0 a0_1 a0_2 l0_3) else (if a0_0 > 3 then (spec_ItemOk.j0 k true a0_0 a0_1 a0_2 l0_3) else (spec_ItemOk.j0 k (decide ((l0_3.length : Int) > 40)) a0_0 a0_1 a0_2 l0_3))
theorem spec_ItemOk.mono_l : ∀ k, (∀ y0 y1 y2 y3 y4, LeO (spec_ItemOk.j0 k y0 y1 y2 y3 y4) (spec_ItemOk.j0 (k + 1) y0 y1 y2 y3 y4)) ∧ (∀ y0 y1 y2 y3 y4, LeO (spec_ItemOk.j1 k y0 y1 y2 y3 y4) (spec_ItemOk.j1 (k + 1) y0 y1 y2 y3 y4))
 | 0 => ⟨fun _ _ _ _ _ r h => by simp [spec_ItemOk.j0] at h, fun _ _ _ _ _ r h => by simp [spec_ItemOk.j1] at h⟩
 | k + 1 => by
  obtain ⟨ih0, ih1⟩ := spec_ItemOk.mono_l k
  refine ⟨?_, ?_⟩
  ·intro y0 y1 y2 y3 y4
   unfold spec_ItemOk.j0
   repeat' with_reducible first | exact ih0 _ _ _ _ _ | exact ih1 _ _ _ _ _ | exact spec_FloatBits.mono _ _ | exact LeO.refl _ | exact LeO.none _ | refine LeO.ite ?_ ?_ | refine LeO.bind ?_ (fun _ => ?_)
  ·intro y0 y1 y2 y3 y4
   unfold spec_ItemOk.j1
   repeat' with_reducible first | exact ih0 _ _ _ _ _ | exact ih1 _ _ _ _ _ | exact spec_FloatBits.mono _ _ | exact LeO.refl _ | exact LeO.none _ | refine LeO.ite ?_ ?_ | refine LeO.bind ?_ (fun _ => ?_)
theorem spec_ItemOk.mono : ∀ a0 a1 a2 a3 k, LeO (spec_ItemOk.f k a0 a1 a2 a3) (spec_ItemOk.f (k + 1) a0 a1 a2 a3) := by
 intro a0 a1 a2 a3 k
 obtain ⟨ih0, ih1⟩ := spec_ItemOk.mono_l k
 unfold spec_ItemOk.f
 repeat' with_reducible first | exact ih0 _ _ _ _ _ | exact ih1 _ _ _ _ _ | exact spec_FloatBits.mono _ _ | exact LeO.refl _ | exact LeO.none _ | refine LeO.ite ?_ ?_ | refine LeO.bind ?_ (fun _ => ?_)
set_option maxHeartbeats 8000000 in
set_option maxRecDepth 100000 in
theorem spec_ItemOk.calls (k : Nat) (a0_0 : Int) (a0_1 : Int) (a0_2 : Nat) (A0_3 : Option Addr) (c0_3 : Nat) (l0_3 : List Int) (r : Bool) (w : World) (hr0_3 : Kd.C (Kd.int .u8) w A0_3 l0_3.length l0_3) (hc0_3 : l0_3.length ≤ c0_3) (h : spec_ItemOk.f k a0_0 a0_1 a0_2 l0_3 = some r) :
  Calls Try.prog 75 #[.agg #[.int .i64 a0_0, .int .i64 a0_1, .float .f64 a0_2, .slice A0_3 l0_3.length c0_3]] w fun e w' => e = .returned (.bool r) ∧ Below w.heap.size w w' := by
 have hu72 := Try.underlying72
 have HR0_3 := ZA hr0_3
 have HC0_3 := ZA hc0_3
 clear hr0_3 hc0_3
 have HB := ZA (Below.refl w.heap.size w)
 have H := h
 clear h
 unfold spec_ItemOk.f at H
 have HC2 := ZA H
 clear H
 go_enter Try.func75, Try.ntmps75
 go_upto_region 1 with (first | ((with_reducible refine gate_dst (N := 1) rfl ?_); (try (refine gate_guard Z94 ?_; dsimp only)); refine box_event ?hg (N := 1) ?hd (cs := #[.int .i64 a0_0, .int .i64 a0_1, .float .f64 a0_2, .slice A0_3 l0_3.length c0_3]) (t := 72) ?hr ?_; (case hd => rfl); (case hg => rfl); (case hr => first | (go_simp; done) | (go_simp; rfl)); intro gb227 hg w3 hbox hb; have n0_ := ZA (below_step (hup HB.out) hb); have n1_ := ZA (hbox); have n2_ := Geq.mk ((Z28 : w.heap.size ≤ gb227)); have n3_ := Geq.mk ((Z28 : w.heap.size ≤ gb227)); clear HB; have HB := n0_; have BK227 := n1_; have GW227 := n2_; have GE227 := n3_; clear n0_ n1_ n2_ n3_ hb hbox hg))
 (try simp only [Act.put, List.setIfInBounds_toArray, List.set_cons_zero, List.set_cons_succ])
 go_cut [16] (fun v16 wc => ∃ (kq : Nat) (x16_1 : Bool), v16 = .bool x16_1 ∧ Aside0 (spec_ItemOk.j0 kq x16_1 a0_0 a0_1 a0_2 l0_3 = some r) ∧ Aside0 (kq ≤ k) ∧ Aside0 (wc.heap[gb227]? = some (.cells #[.int .i64 a0_0, .int .i64 a0_1, .float .f64 a0_2, (.slice A0_3 l0_3.length c0_3)] 72 (0, 0))) ∧ Aside0 (Below w.heap.size w wc))
 case first =>
  have H := HC2.out
  clear HC2
  by_cases c4 : a0_0 < 0
  ·rw [if_pos c4] at H
   have c4b0 : decide (a0_0 < 0) = true := decide_eq_true c4
   clear c4
   (first | rw [c4b0] | (simp only [i64_w, i32_w]; rw [c4b0]) | skip)
   have H' := ZA H
   clear H
   obtain ⟨hcz5_0, hcz5_1, hcz5_2, hcz5_3⟩ := blk_cells4 BK227.out
   obtain ⟨hfz5_0, hfz5_1, hfz5_2, hfz5_3⟩ := blk_frozens4 BK227.out
   go_wp2
   go_meet
   case rel => exact ⟨_, (true), Z7, H', ⟨by first | omega | exact Nat.le_refl _⟩, ⟨by exact bup BK227.out⟩, ⟨hset HB.out⟩⟩
  ·rw [if_neg c4] at H
   have c4b0 : decide (a0_0 < 0) = false := decide_eq_false c4
   clear c4
   (first | rw [c4b0] | (simp only [i64_w, i32_w]; rw [c4b0]) | skip)
   by_cases c6 : a0_0 > 3
   ·rw [if_pos c6] at H
    have c6b0 : decide (3 < a0_0) = true := decide_eq_true c6
    clear c6
    have H' := ZA H
    clear H
    obtain ⟨hcz7_0, hcz7_1, hcz7_2, hcz7_3⟩ := blk_cells4 BK227.out
    obtain ⟨hfz7_0, hfz7_1, hfz7_2, hfz7_3⟩ := blk_frozens4 BK227.out
    go_wp2
    go_meet
    case rel => exact ⟨_, (true), Z7, H', ⟨by first | omega | exact Nat.le_refl _⟩, ⟨by exact bup BK227.out⟩, ⟨hset HB.out⟩⟩
   ·rw [if_neg c6] at H
    have c6b0 : decide (3 < a0_0) = false := decide_eq_false c6
    clear c6
    have H' := ZA H
    clear H
    obtain ⟨hcz8_0, hcz8_1, hcz8_2, hcz8_3⟩ := blk_cells4 BK227.out
    obtain ⟨hfz8_0, hfz8_1, hfz8_2, hfz8_3⟩ := blk_frozens4 BK227.out
    go_wp2
    go_meet
    case rel => exact ⟨_, (decide ((l0_3.length : Int) > 40)), Z7, H', ⟨by first | omega | exact Nat.le_refl _⟩, ⟨by exact bup BK227.out⟩, ⟨hset HB.out⟩⟩
 case rest =>
  clear HC2
  try clear p2
  try clear c4
  try clear c4b0
  try clear c6
  try clear c6b0
  try clear c7
  try clear hcz5_0
  try clear hcz5_1
  try clear hcz5_2
  try clear hcz5_3
  try clear hcz7_0
  try clear hcz7_1
  try clear hcz7_2
  try clear hcz7_3
  try clear hcz8_0
  try clear hcz8_1
  try clear hcz8_2
  try clear hcz8_3
  try clear hfz5_0
  try clear hfz5_1
  try clear hfz5_2
  try clear hfz5_3
  try clear hfz7_0
  try clear hfz7_1
  try clear hfz7_2
  try clear hfz7_3
  try clear hfz8_0
  try clear hfz8_1
  try clear hfz8_2
  try clear hfz8_3
  obtain ⟨kq, x16_1, rfl, HA, HJ1, BK227, HB⟩ := hcut
  cases kq with
  | zero => exact absurd HA.out (by simp [spec_ItemOk.j0])
  | succ kj1 =>
   have H := HA.out
   clear HA
   simp only [spec_ItemOk.j0] at H
   by_cases c9 : x16_1 = true
   ·subst c9
    rw [if_pos rfl] at H
    (try dsimp only at H)
    obtain rfl := Option.some.inj H
    go_wp2
    go_ret
    exact ⟨by first | rfl | (simp [errW_none, errW_some] <;> rfl) | (simp [*, errW_none, errW_some] <;> rfl), hset HB.out⟩
   ·replace c9 := Bool.eq_false_iff.mpr c9
    subst c9
    rw [if_neg (show ¬ (false = true) by decide)] at H
    (try dsimp only at H)
    have HC10 := ZA H
    clear H
    go_upto_region 3 with (fail)
    go_cut [24] (fun v24 wc => ∃ (kq : Nat) (x24_9 : Bool), v24 = .bool x24_9 ∧ Aside0 (spec_ItemOk.j1 kq x24_9 a0_0 a0_1 a0_2 l0_3 = some r) ∧ Aside0 (kq ≤ kj1) ∧ Aside0 (wc.heap[gb227]? = some (.cells #[.int .i64 a0_0, .int .i64 a0_1, .float .f64 a0_2, (.slice A0_3 l0_3.length c0_3)] 72 (0, 0))) ∧ Aside0 (Below w.heap.size w wc))
    case first =>
     have H := HC10.out
     clear HC10
     by_cases c11 : a0_0 = 1
     ·rw [if_pos c11] at H
      have c11b0 : (a0_0 == 1) = true := beq_iff_eq.mpr c11
      have c11b1 : (a0_0 != 1) = false := bne_eq_false_iff_eq.mpr c11
      clear c11
      (first | rw [c11b0] | (simp only [i64_w, i32_w]; rw [c11b0]) | skip)
      have H' := ZA H
      clear H
      obtain ⟨hcz12_0, hcz12_1, hcz12_2, hcz12_3⟩ := blk_cells4 BK227.out
      obtain ⟨hfz12_0, hfz12_1, hfz12_2, hfz12_3⟩ := blk_frozens4 BK227.out
      go_wp2
      go_meet
      case rel => exact ⟨_, (false), Z7, H', ⟨by have := HJ1.out; first | omega | exact Nat.le_refl _⟩, ⟨by exact bup BK227.out⟩, ⟨hset HB.out⟩⟩
     ·rw [if_neg c11] at H
      have c11b0 : (a0_0 == 1) = false := beq_eq_false_iff_ne.mpr c11
      have c11b1 : (a0_0 != 1) = true := bne_iff_ne.mpr c11
      (first | rw [c11b0] | (simp only [i64_w, i32_w]; rw [c11b0]) | skip)
      have H' := ZA H
      clear H
      obtain ⟨hcz13_0, hcz13_1, hcz13_2, hcz13_3⟩ := blk_cells4 BK227.out
      obtain ⟨hfz13_0, hfz13_1, hfz13_2, hfz13_3⟩ := blk_frozens4 BK227.out
      go_wp2
      go_meet
      case rel => exact ⟨_, ((a0_1 != 0)), Z7, H', ⟨by have := HJ1.out; first | omega | exact Nat.le_refl _⟩, ⟨by exact bup BK227.out⟩, ⟨hset HB.out⟩⟩
    case rest =>
     clear HC10
     try clear c1
     try clear p2
     try clear c4
     try clear c4b0
     try clear c6
     try clear c6b0
     try clear c7
     try clear c9
     try clear c11
     try clear c11b0
     try clear c11b1
     try clear hcz12_0
     try clear hcz12_1
     try clear hcz12_2
     try clear hcz12_3
     try clear hcz13_0
     try clear hcz13_1
     try clear hcz13_2
     try clear hcz13_3
     try clear hcz5_0
     try clear hcz5_1
     try clear hcz5_2
     try clear hcz5_3
     try clear hcz7_0
     try clear hcz7_1
     try clear hcz7_2
     try clear hcz7_3
     try clear hcz8_0
     try clear hcz8_1
     try clear hcz8_2
     try clear hcz8_3
     try clear hfz12_0
     try clear hfz12_1
     try clear hfz12_2
     try clear hfz12_3
     try clear hfz13_0
     try clear hfz13_1
     try clear hfz13_2
     try clear hfz13_3
     try clear hfz5_0
     try clear hfz5_1
     try clear hfz5_2
     try clear hfz5_3
     try clear hfz7_0
     try clear hfz7_1
     try clear hfz7_2
     try clear hfz7_3
     try clear hfz8_0
     try clear hfz8_1
     try clear hfz8_2
     try clear hfz8_3
     try clear p2
     obtain ⟨kq, x24_9, rfl, HA, HJ9, BK227, HB⟩ := hcut
     cases kq with
     | zero => exact absurd HA.out (by simp [spec_ItemOk.j1])
     | succ kj9 =>
      have H := HA.out
      clear HA
      simp only [spec_ItemOk.j1] at H
      by_cases c14 : x24_9 = true
      ·subst c14
       rw [if_pos rfl] at H
       (try dsimp only at H)
       obtain rfl := Option.some.inj H
       go_wp2
       go_ret
       exact ⟨by first | rfl | (simp [errW_none, errW_some] <;> rfl) | (simp [*, errW_none, errW_some] <;> rfl), hset HB.out⟩
      ·replace c14 := Bool.eq_false_iff.mpr c14
       subst c14
       rw [if_neg (show ¬ (false = true) by decide)] at H
       (try dsimp only at H)
       by_cases c15 : a0_0 = 2
       ·rw [if_pos c15] at H
        have c15b0 : (a0_0 == 2) = true := beq_iff_eq.mpr c15
        have c15b1 : (a0_0 != 2) = false := bne_eq_false_iff_eq.mpr c15
        clear c15
        by_cases c16 : a0_0 = 3
        ·rw [if_pos c16] at H
         have c16b0 : (a0_0 == 3) = true := beq_iff_eq.mpr c16
         have c16b1 : (a0_0 != 3) = false := bne_eq_false_iff_eq.mpr c16
         clear c16
         obtain rfl := Option.some.inj H
         obtain ⟨hcz17_0, hcz17_1, hcz17_2, hcz17_3⟩ := blk_cells4 BK227.out
         obtain ⟨hfz17_0, hfz17_1, hfz17_2, hfz17_3⟩ := blk_frozens4 BK227.out
         go_wp2
         go_ret
         exact ⟨by first | rfl | (simp [errW_none, errW_some] <;> rfl) | (simp [*, errW_none, errW_some] <;> rfl), hset HB.out⟩
        ·rw [if_neg c16] at H
         have c16b0 : (a0_0 == 3) = false := beq_eq_false_iff_ne.mpr c16
         have c16b1 : (a0_0 != 3) = true := bne_iff_ne.mpr c16
         obtain rfl := Option.some.inj H
         obtain ⟨hcz18_0, hcz18_1, hcz18_2, hcz18_3⟩ := blk_cells4 BK227.out
         obtain ⟨hfz18_0, hfz18_1, hfz18_2, hfz18_3⟩ := blk_frozens4 BK227.out
         go_wp2
         go_ret
         exact ⟨by first | rfl | (simp [errW_none, errW_some] <;> rfl) | (simp [*, errW_none, errW_some] <;> rfl), hset HB.out⟩
       ·rw [if_neg c15] at H
        have c15b0 : (a0_0 == 2) = false := beq_eq_false_iff_ne.mpr c15
        have c15b1 : (a0_0 != 2) = true := bne_iff_ne.mpr c15
        replace H := Option.bind_eq_some_iff.mp H
        obtain ⟨t228, A190, H⟩ := H
        (try dsimp only at H)
        have A19 := ZA A190
        clear A190
        obtain ⟨hcz22_0, hcz22_1, hcz22_2, hcz22_3⟩ := blk_cells4 BK227.out
        obtain ⟨hfz22_0, hfz22_1, hfz22_2, hfz22_3⟩ := blk_frozens4 BK227.out
        try go_wp2_with (fail)
        go_at_call 78; (with_reducible refine (spec_FloatBits.calls kj9 a0_2 t228 _ A19.out).mono ?_); rintro e w' ⟨rfl, ⟨nd, rfl⟩⟩
        by_cases c20 : t228 = 0
        ·rw [if_pos c20] at H
         have c20b0 : (t228 == 0) = true := beq_iff_eq.mpr c20
         have c20b1 : (t228 != 0) = false := bne_eq_false_iff_eq.mpr c20
         (try simp only [c20b0, c20b1, Bool.not_true, Bool.not_false])
         clear c20
         by_cases c21 : a0_0 = 3
         ·rw [if_pos c21] at H
          have c21b0 : (a0_0 == 3) = true := beq_iff_eq.mpr c21
          have c21b1 : (a0_0 != 3) = false := bne_eq_false_iff_eq.mpr c21
          (try simp only [c21b0, c21b1, Bool.not_true, Bool.not_false])
          clear c21
          obtain rfl := Option.some.inj H
          try go_wp2
          go_ret
          exact ⟨by first | rfl | (simp [errW_none, errW_some] <;> rfl) | (simp [*, errW_none, errW_some] <;> rfl), hset HB.out⟩
         ·rw [if_neg c21] at H
          have c21b0 : (a0_0 == 3) = false := beq_eq_false_iff_ne.mpr c21
          have c21b1 : (a0_0 != 3) = true := bne_iff_ne.mpr c21
          (try simp only [c21b0, c21b1, Bool.not_true, Bool.not_false])
          obtain rfl := Option.some.inj H
          try go_wp2
          go_ret
          exact ⟨by first | rfl | (simp [errW_none, errW_some] <;> rfl) | (simp [*, errW_none, errW_some] <;> rfl), hset HB.out⟩
        ·rw [if_neg c20] at H
         have c20b0 : (t228 == 0) = false := beq_eq_false_iff_ne.mpr c20
         have c20b1 : (t228 != 0) = true := bne_iff_ne.mpr c20
         (try simp only [c20b0, c20b1, Bool.not_true, Bool.not_false])
         obtain rfl := Option.some.inj H
         try go_wp2
         go_ret
         exact ⟨by first | rfl | (simp [errW_none, errW_some] <;> rfl) | (simp [*, errW_none, errW_some] <;> rfl), hset HB.out⟩
theorem spec_ItemOk.j1_inv3 (k : Nat) (x0 : Bool) (x1 : Int) (x2 : Int) (x3 : Nat) (x4 : List Int) : spec_ItemOk.j1 k x0 x1 x2 (cn x3) x4 = spec_ItemOk.j1 k x0 x1 x2 x3 x4 := by
  cases k with
  | zero => rfl
  | succ k => simp only [spec_ItemOk.j1, spec_FloatBits.inv0, cn_zeroI, cn_zero, feq_cn_l, feq_cn_r, fls_cn_l, fls_cn_r, fgt_cn_l, fgt_cn_r, fle_cn_l, fle_cn_r, fge_cn_l, fge_cn_r]
theorem spec_ItemOk.j0_inv3 (k : Nat) (x0 : Bool) (x1 : Int) (x2 : Int) (x3 : Nat) (x4 : List Int) : spec_ItemOk.j0 k x0 x1 x2 (cn x3) x4 = spec_ItemOk.j0 k x0 x1 x2 x3 x4 := by
  cases k with
  | zero => rfl
  | succ k => simp only [spec_ItemOk.j0, spec_FloatBits.inv0, cn_zeroI, cn_zero, feq_cn_l, feq_cn_r, fls_cn_l, fls_cn_r, fgt_cn_l, fgt_cn_r, fle_cn_l, fle_cn_r, fge_cn_l, fge_cn_r, spec_ItemOk.j1_inv3]
theorem spec_ItemOk.inv0 (k : Nat) (a0_0 : Int) (a0_1 : Int) (a0_2 : Nat) (l0_3 : List Int) : spec_ItemOk.f k a0_0 a0_1 (cn a0_2) l0_3 = spec_ItemOk.f k a0_0 a0_1 a0_2 l0_3 := by
  by_cases h_ : nanw a0_2
  · unfold spec_ItemOk.f
    first
      | (simp only [spec_FloatBits.inv0, cn_zeroI, cn_zero, feq_cn_l, feq_cn_r, fls_cn_l, fls_cn_r, fgt_cn_l, fgt_cn_r, fle_cn_l, fle_cn_r, fge_cn_l, fge_cn_r, spec_ItemOk.j1_inv3, spec_ItemOk.j0_inv3]; done)
      | (simp only [spec_FloatBits.inv0, cn_zeroI, cn_zero, feq_cn_l, feq_cn_r, fls_cn_l, fls_cn_r, fgt_cn_l, fgt_cn_r, fle_cn_l, fle_cn_r, fge_cn_l, fge_cn_r, spec_ItemOk.j1_inv3, spec_ItemOk.j0_inv3, feq_nan_l h_, feq_nan_l (cn_nanw h_), Bool.false_eq_true, if_false]; done)
      | (simp [feq_nan_l h_, feq_nan_l (cn_nanw h_)]; done)
  · rw [cn_num h_]
def spec_KeyOk.f (k : Nat) (a0_0 : Int) (a0_1 : Int) (a0_2 : Nat) (l0_3 : List Int) : Option (Bool) := (spec_ItemOk.f k a0_0 a0_1 a0_2 l0_3).bind fun t230 => (if t230 = true then (if a0_0 = 0 then (some false) else (if (feq a0_2 0) = true then ((spec_FloatBits.f k a0_2).bind fun t231 => (some (!(t231 != 0)))) else (some (!false)))) else (some false))
theorem spec_KeyOk.mono : ∀ a0 a1 a2 a3 k, LeO (spec_KeyOk.f k a0 a1 a2 a3) (spec_KeyOk.f (k + 1) a0 a1 a2 a3) := by
  intro a0 a1 a2 a3 k
  unfold spec_KeyOk.f
  repeat' with_reducible first | exact spec_FloatBits.mono _ _ | exact spec_ItemOk.mono _ _ _ _ _ | exact LeO.refl _ | exact LeO.none _ | refine LeO.ite ?_ ?_ | refine LeO.bind ?_ (fun _ => ?_)
set_option maxHeartbeats 8000000 in
set_option maxRecDepth 100000 in
theorem spec_KeyOk.calls (k : Nat) (a0_0 : Int) (a0_1 : Int) (a0_2 : Nat) (A0_3 : Option Addr) (c0_3 : Nat) (l0_3 : List Int) (r : Bool) (w : World) (hr0_3 : Kd.C (Kd.int .u8) w A0_3 l0_3.length l0_3) (hc0_3 : l0_3.length ≤ c0_3) (h : spec_KeyOk.f k a0_0 a0_1 a0_2 l0_3 = some r) :
    Calls Try.prog 74 #[.agg #[.int .i64 a0_0, .int .i64 a0_1, .float .f64 a0_2, .slice A0_3 l0_3.length c0_3]] w fun e w' => e = .returned (.bool r) ∧ Below w.heap.size w w' := by
  have hu72 := Try.underlying72
  have HR0_3 := ZA hr0_3
  have HC0_3 := ZA hc0_3
  clear hr0_3 hc0_3
  have HB := ZA (Below.refl w.heap.size w)
  have H := h
  clear h
  unfold spec_KeyOk.f at H
  replace H := Option.bind_eq_some_iff.mp H
  obtain ⟨t230, A20, H⟩ := H
  (try dsimp only at H)
  have A2 := ZA A20
  clear A20
  go_enter Try.func74, Try.ntmps74
  repeat (first | ((with_reducible refine gate_dst (N := 1) rfl ?_); refine box_event ?hg (N := 1) ?hd (cs := #[.int .i64 a0_0, .int .i64 a0_1, .float .f64 a0_2, .slice A0_3 l0_3.length c0_3]) (t := 72) ?hr ?_; (case hd => rfl); (case hg => rfl); (case hr => first | (go_simp; done) | (go_simp; rfl)); intro gb229 hg w5 hbox hb; have n0_ := ZA (below_step (hup HB.out) hb); have n1_ := ZA (hbox); have n2_ := Geq.mk ((Z28 : w.heap.size ≤ gb229)); have n3_ := Geq.mk ((Z28 : w.heap.size ≤ gb229)); clear HB; have HB := n0_; have BK229 := n1_; have GW229 := n2_; have GE229 := n3_; clear n0_ n1_ n2_ n3_ hb hbox hg; obtain ⟨hcz6_0, hcz6_1, hcz6_2, hcz6_3⟩ := blk_cells4 BK229.out; obtain ⟨hfz6_0, hfz6_1, hfz6_2, hfz6_3⟩ := blk_frozens4 BK229.out) | ((fail_if_success (with_reducible refine gate_callee (f := 75) rfl ?_)); first | go_values | go_skip | go_guarded | go_step | go_upon | go_back | (simp only [Int.not_lt, Int.not_le] at *; go_simp)))
  (with_reducible refine gate_callee (f := 75) rfl ?_); refine goesL_ (some 4) rfl rfl Try.func75 Z12 rfl #[.agg #[.int .i64 a0_0, .int .i64 a0_1, .float .f64 a0_2, .slice A0_3 l0_3.length c0_3]] rfl Z1 ?_; (with_reducible refine (spec_ItemOk.calls k a0_0 a0_1 a0_2 _ _ l0_3 t230 _ ?side1 ?side2 A2.out).mono ?_); (case side1 => repeat (first | exact (Kd.C_below HR0_3.out HB.out) | (with_reducible refine Kd.C_alloc ?_ _) | (with_reducible refine Kd.C_drewN ?_ _) | (with_reducible refine Kd.C_drew ?_))); (case side2 => exact HC0_3.out); rintro e w7 ⟨rfl, hb⟩; refine ⟨_, rfl, ?_⟩; have n0_ := ZA (blk_below (bup BK229.out) hb); have n1_ := ZA (below_step (hset HB.out) hb); clear BK229 HB; have BK229 := n0_; have HB := n1_; clear n0_ n1_; (try clear hb); (try clear hb2); (try clear hk)
  by_cases c3 : t230 = true
  · subst c3
    rw [if_pos rfl] at H
    (try dsimp only at H)
    by_cases c4 : a0_0 = 0
    · rw [if_pos c4] at H
      have c4b0 : (a0_0 == 0) = true := beq_iff_eq.mpr c4
      have c4b1 : (a0_0 != 0) = false := bne_eq_false_iff_eq.mpr c4
      (try simp only [c4b0, c4b1, Bool.not_true, Bool.not_false])
      clear c4
      obtain rfl := Option.some.inj H
      (try clear hi); obtain ⟨hcz8_0, hcz8_1, hcz8_2, hcz8_3⟩ := blk_cells4 BK229.out; obtain ⟨hfz8_0, hfz8_1, hfz8_2, hfz8_3⟩ := blk_frozens4 BK229.out
      try go_wp2
      go_ret
      exact ⟨by first | rfl | (simp [errW_none, errW_some] <;> rfl) | (simp [*, errW_none, errW_some] <;> rfl), hset HB.out⟩
    · rw [if_neg c4] at H
      have c4b0 : (a0_0 == 0) = false := beq_eq_false_iff_ne.mpr c4
      have c4b1 : (a0_0 != 0) = true := bne_iff_ne.mpr c4
      (try simp only [c4b0, c4b1, Bool.not_true, Bool.not_false])
      by_cases c9 : (feq a0_2 0) = true
      · rw [if_pos c9] at H
        have c9b0 : (feq a0_2 0) = true := c9
        (try simp only [c9b0, Bool.not_true, Bool.not_false])
        clear c9
        replace H := Option.bind_eq_some_iff.mp H
        obtain ⟨t231, A100, H⟩ := H
        (try dsimp only at H)
        have A10 := ZA A100
        clear A100
        obtain rfl := Option.some.inj H
        (try clear hi); obtain ⟨hcz14_0, hcz14_1, hcz14_2, hcz14_3⟩ := blk_cells4 BK229.out; obtain ⟨hfz14_0, hfz14_1, hfz14_2, hfz14_3⟩ := blk_frozens4 BK229.out
        try go_wp2_with (first | (go_at_call 78; (with_reducible refine (spec_FloatBits.calls k a0_2 t231 _ A10.out).mono ?_); rintro e w' ⟨rfl, ⟨nd, rfl⟩⟩))
        go_ret
        exact ⟨by first | rfl | (simp [errW_none, errW_some] <;> rfl) | (simp [*, errW_none, errW_some] <;> rfl), hset HB.out⟩
      · rw [if_neg c9] at H
        have c9b0 : (feq a0_2 0) = false := by simpa using c9
        (try simp only [c9b0, Bool.not_true, Bool.not_false])
        clear c9
        obtain rfl := Option.some.inj H
        (try clear hi); obtain ⟨hcz18_0, hcz18_1, hcz18_2, hcz18_3⟩ := blk_cells4 BK229.out; obtain ⟨hfz18_0, hfz18_1, hfz18_2, hfz18_3⟩ := blk_frozens4 BK229.out
        try go_wp2
        go_ret
        exact ⟨by first | rfl | (simp [errW_none, errW_some] <;> rfl) | (simp [*, errW_none, errW_some] <;> rfl), hset HB.out⟩
  · replace c3 := Bool.eq_false_iff.mpr c3
    subst c3
    rw [if_neg (show ¬ (false = true) by decide)] at H
    (try dsimp only at H)
    obtain rfl := Option.some.inj H
    (try clear hi)
    try go_wp2
    go_ret
    exact ⟨by first | rfl | (simp [errW_none, errW_some] <;> rfl) | (simp [*, errW_none, errW_some] <;> rfl), hset HB.out⟩
theorem spec_KeyOk.inv0 (k : Nat) (a0_0 : Int) (a0_1 : Int) (a0_2 : Nat) (l0_3 : List Int) : spec_KeyOk.f k a0_0 a0_1 (cn a0_2) l0_3 = spec_KeyOk.f k a0_0 a0_1 a0_2 l0_3 := by
  by_cases h_ : nanw a0_2
  · unfold spec_KeyOk.f
    first
      | (simp only [spec_FloatBits.inv0, spec_ItemOk.inv0, cn_zeroI, cn_zero, feq_cn_l, feq_cn_r, fls_cn_l, fls_cn_r, fgt_cn_l, fgt_cn_r, fle_cn_l, fle_cn_r, fge_cn_l, fge_cn_r]; done)
      | (simp only [spec_FloatBits.inv0, spec_ItemOk.inv0, cn_zeroI, cn_zero, feq_cn_l, feq_cn_r, fls_cn_l, fls_cn_r, fgt_cn_l, fgt_cn_r, fle_cn_l, fle_cn_r, fge_cn_l, fge_cn_r, feq_nan_l h_, feq_nan_l (cn_nanw h_), Bool.false_eq_true, if_false]; done)
      | (simp [feq_nan_l h_, feq_nan_l (cn_nanw h_)]; done)
  · rw [cn_num h_]
def spec_TupleOk.f (k : Nat) (a0_0 : Int) (a0_1 : Int) (a0_2 : Int) (a0_3 : Int) (a0_4 : Nat) (l0_5 : List Int) (a0_6 : Int) (a0_7 : Int) (a0_8 : Nat) (l0_9 : List Int) : Option (Bool) := (spec_l5in.f a0_0 1 400).bind fun t233 => (if t233 = true then ((spec_l5in.f a0_1 0 400).bind fun t234 => (if t234 = true then ((spec_KeyOk.f k a0_2 a0_3 a0_4 l0_5).bind fun t235 => (if t235 = true then ((spec_ItemOk.f k a0_6 a0_7 a0_8 l0_9).bind fun t236 => (if t236 = true then (some (a0_6 != 0)) else (some false))) else (some false))) else (some false))) else (some false))
theorem spec_TupleOk.mono : ∀ a0 a1 a2 a3 a4 a5 a6 a7 a8 a9 k, LeO (spec_TupleOk.f k a0 a1 a2 a3 a4 a5 a6 a7 a8 a9) (spec_TupleOk.f (k + 1) a0 a1 a2 a3 a4 a5 a6 a7 a8 a9) := by
 intro a0 a1 a2 a3 a4 a5 a6 a7 a8 a9 k
 unfold spec_TupleOk.f
 repeat' with_reducible first | exact spec_ItemOk.mono _ _ _ _ _ | exact spec_KeyOk.mono _ _ _ _ _ | exact LeO.refl _ | exact LeO.none _ | refine LeO.ite ?_ ?_ | refine LeO.bind ?_ (fun _ => ?_)
set_option maxHeartbeats 8000000 in
set_option maxRecDepth 100000 in
theorem spec_TupleOk.calls (k : Nat) (a0_0 : Int) (a0_1 : Int) (a0_2 : Int) (a0_3 : Int) (a0_4 : Nat) (A0_5 : Option Addr) (c0_5 : Nat) (l0_5 : List Int) (a0_6 : Int) (a0_7 : Int) (a0_8 : Nat) (A0_9 : Option Addr) (c0_9 : Nat) (l0_9 : List Int) (r : Bool) (w : World) (hr0_5 : Kd.C (Kd.int .u8) w A0_5 l0_5.length l0_5) (hc0_5 : l0_5.length ≤ c0_5) (hr0_9 : Kd.C (Kd.int .u8) w A0_9 l0_9.length l0_9) (hc0_9 : l0_9.length ≤ c0_9) (h : spec_TupleOk.f k a0_0 a0_1 a0_2 a0_3 a0_4 l0_5 a0_6 a0_7 a0_8 l0_9 = some r) :
  Calls Try.prog 68 #[.agg #[.int .i64 a0_0, .int .i64 a0_1, .int .i64 a0_2, .int .i64 a0_3, .float .f64 a0_4, .slice A0_5 l0_5.length c0_5, .int .i64 a0_6, .int .i64 a0_7, .float .f64 a0_8, .slice A0_9 l0_9.length c0_9]] w fun e w' => e = .returned (.bool r) ∧ Below w.heap.size w w' := by
 have hu74 := Try.underlying74
 have hu72 := Try.underlying72
 have HR0_5 := ZA hr0_5
 have HC0_5 := ZA hc0_5
 clear hr0_5 hc0_5
 have HR0_9 := ZA hr0_9
 have HC0_9 := ZA hc0_9
 clear hr0_9 hc0_9
 have HB := ZA (Below.refl w.heap.size w)
 have H := h
 clear h
 unfold spec_TupleOk.f at H
 replace H := Option.bind_eq_some_iff.mp H
 obtain ⟨t233, A20, H⟩ := H
 (try dsimp only at H)
 have A2 := ZA A20
 clear A20
 go_enter Try.func68, Try.ntmps68
 repeat (first | ((with_reducible refine gate_dst (N := 1) rfl ?_); refine box_event ?hg (N := 1) ?hd (cs := #[.int .i64 a0_0, .int .i64 a0_1, .int .i64 a0_2, .int .i64 a0_3, .float .f64 a0_4, .slice A0_5 l0_5.length c0_5, .int .i64 a0_6, .int .i64 a0_7, .float .f64 a0_8, .slice A0_9 l0_9.length c0_9]) (t := 74) ?hr ?_; (case hd => rfl); (case hg => rfl); (case hr => first | (go_simp; done) | (go_simp; rfl)); intro gb232 hg w10 hbox hb; have n0_ := ZA (below_step (hup HB.out) hb); have n1_ := ZA (hbox); have n2_ := Geq.mk ((Z28 : w.heap.size ≤ gb232)); have n3_ := Geq.mk ((Z28 : w.heap.size ≤ gb232)); clear HB; have HB := n0_; have BK232 := n1_; have GW232 := n2_; have GE232 := n3_; clear n0_ n1_ n2_ n3_ hb hbox hg; obtain ⟨hcz11_0, hcz11_1, hcz11_2, hcz11_3, hcz11_4, hcz11_5, hcz11_6, hcz11_7, hcz11_8, hcz11_9⟩ := blk_cells10 BK232.out; obtain ⟨hfz11_0, hfz11_1, hfz11_2, hfz11_3, hfz11_4, hfz11_5, hfz11_6, hfz11_7, hfz11_8, hfz11_9⟩ := blk_frozens10 BK232.out) | ((fail_if_success (with_reducible refine gate_callee (f := 37) rfl ?_)); first | go_values | go_skip | go_guarded | go_step | go_upon | go_back | (simp only [Int.not_lt, Int.not_le] at *; go_simp)))
 (with_reducible refine gate_callee (f := 37) rfl ?_); refine goesL_ (some 5) rfl rfl Try.func37 Z12 rfl #[.int .i64 a0_0, .int .i64 1, .int .i64 400] rfl Z1 ?_; (with_reducible refine (spec_l5in.calls a0_0 1 400 t233 _ A2.out).mono ?_); rintro e w' ⟨rfl, ⟨nd, rfl⟩⟩; refine ⟨_, rfl, ?_⟩
 by_cases c3 : t233 = true
 ·subst c3
  rw [if_pos rfl] at H
  (try dsimp only at H)
  replace H := Option.bind_eq_some_iff.mp H
  obtain ⟨t234, A40, H⟩ := H
  (try dsimp only at H)
  have A4 := ZA A40
  clear A40
  try go_wp2_with (fail)
  go_at_call 37; (with_reducible refine (spec_l5in.calls a0_1 0 400 t234 _ A4.out).mono ?_); rintro e w' ⟨rfl, ⟨nd, rfl⟩⟩
  by_cases c5 : t234 = true
  ·subst c5
   rw [if_pos rfl] at H
   (try dsimp only at H)
   replace H := Option.bind_eq_some_iff.mp H
   obtain ⟨t235, A60, H⟩ := H
   (try dsimp only at H)
   have A6 := ZA A60
   clear A60
   try go_wp2_with (fail)
   go_at_call 74; (with_reducible refine (spec_KeyOk.calls k a0_2 a0_3 a0_4 _ _ l0_5 t235 _ ?side1 ?side2 A6.out).mono ?_); (case side1 => repeat (first | exact (Kd.C_below HR0_5.out (hset HB.out)) | (with_reducible refine Kd.C_alloc ?_ _) | (with_reducible refine Kd.C_drewN ?_ _) | (with_reducible refine Kd.C_drew ?_))); (case side2 => exact HC0_5.out); rintro e w12 ⟨rfl, hb⟩; have n0_ := ZA (blk_below (bup BK232.out) hb); have n1_ := ZA (below_step (hset HB.out) hb); clear BK232 HB; have BK232 := n0_; have HB := n1_; clear n0_ n1_; (try clear hb); (try clear hb2); (try clear hk)
   by_cases c7 : t235 = true
   ·subst c7
    rw [if_pos rfl] at H
    (try dsimp only at H)
    replace H := Option.bind_eq_some_iff.mp H
    obtain ⟨t236, A80, H⟩ := H
    (try dsimp only at H)
    have A8 := ZA A80
    clear A80
    (try clear hi); obtain ⟨hcz13_0, hcz13_1, hcz13_2, hcz13_3, hcz13_4, hcz13_5, hcz13_6, hcz13_7, hcz13_8, hcz13_9⟩ := blk_cells10 BK232.out; obtain ⟨hfz13_0, hfz13_1, hfz13_2, hfz13_3, hfz13_4, hfz13_5, hfz13_6, hfz13_7, hfz13_8, hfz13_9⟩ := blk_frozens10 BK232.out
    try go_wp2_with (fail)
    go_at_call 75; (with_reducible refine (spec_ItemOk.calls k a0_6 a0_7 a0_8 _ _ l0_9 t236 _ ?side1 ?side2 A8.out).mono ?_); (case side1 => repeat (first | exact (Kd.C_below HR0_9.out HB.out) | (with_reducible refine Kd.C_alloc ?_ _) | (with_reducible refine Kd.C_drewN ?_ _) | (with_reducible refine Kd.C_drew ?_))); (case side2 => exact HC0_9.out); rintro e w14 ⟨rfl, hb⟩; have n0_ := ZA (blk_below (bup BK232.out) hb); have n1_ := ZA (below_step (hset HB.out) hb); clear BK232 HB; have BK232 := n0_; have HB := n1_; clear n0_ n1_; (try clear hb); (try clear hb2); (try clear hk)
    by_cases c9 : t236 = true
    ·subst c9
     rw [if_pos rfl] at H
     (try dsimp only at H)
     obtain rfl := Option.some.inj H
     (try clear hi); obtain ⟨hcz15_0, hcz15_1, hcz15_2, hcz15_3, hcz15_4, hcz15_5, hcz15_6, hcz15_7, hcz15_8, hcz15_9⟩ := blk_cells10 BK232.out; obtain ⟨hfz15_0, hfz15_1, hfz15_2, hfz15_3, hfz15_4, hfz15_5, hfz15_6, hfz15_7, hfz15_8, hfz15_9⟩ := blk_frozens10 BK232.out
     try go_wp2
     go_ret
     exact ⟨by first | rfl | (simp [errW_none, errW_some] <;> rfl) | (simp [*, errW_none, errW_some] <;> rfl), hset HB.out⟩
    ·replace c9 := Bool.eq_false_iff.mpr c9
     subst c9
     rw [if_neg (show ¬ (false = true) by decide)] at H
     (try dsimp only at H)
     obtain rfl := Option.some.inj H
     (try clear hi)
     try go_wp2
     go_ret
     exact ⟨by first | rfl | (simp [errW_none, errW_some] <;> rfl) | (simp [*, errW_none, errW_some] <;> rfl), hset HB.out⟩
   ·replace c7 := Bool.eq_false_iff.mpr c7
    subst c7
    rw [if_neg (show ¬ (false = true) by decide)] at H
    (try dsimp only at H)
    obtain rfl := Option.some.inj H
    (try clear hi)
    try go_wp2
    go_ret
    exact ⟨by first | rfl | (simp [errW_none, errW_some] <;> rfl) | (simp [*, errW_none, errW_some] <;> rfl), hset HB.out⟩
  ·replace c5 := Bool.eq_false_iff.mpr c5
   subst c5
   rw [if_neg (show ¬ (false = true) by decide)] at H
   (try dsimp only at H)
   obtain rfl := Option.some.inj H
   try go_wp2
   go_ret
   exact ⟨by first | rfl | (simp [errW_none, errW_some] <;> rfl) | (simp [*, errW_none, errW_some] <;> rfl), hset HB.out⟩
 ·replace c3 := Bool.eq_false_iff.mpr c3
  subst c3
  rw [if_neg (show ¬ (false = true) by decide)] at H
  (try dsimp only at H)
  obtain rfl := Option.some.inj H
  try go_wp2
  go_ret
  exact ⟨by first | rfl | (simp [errW_none, errW_some] <;> rfl) | (simp [*, errW_none, errW_some] <;> rfl), hset HB.out⟩
theorem spec_TupleOk.inv0 (k : Nat) (a0_0 : Int) (a0_1 : Int) (a0_2 : Int) (a0_3 : Int) (a0_4 : Nat) (l0_5 : List Int) (a0_6 : Int) (a0_7 : Int) (a0_8 : Nat) (l0_9 : List Int) : spec_TupleOk.f k a0_0 a0_1 a0_2 a0_3 (cn a0_4) l0_5 a0_6 a0_7 a0_8 l0_9 = spec_TupleOk.f k a0_0 a0_1 a0_2 a0_3 a0_4 l0_5 a0_6 a0_7 a0_8 l0_9 := by
  by_cases h_ : nanw a0_4
  · unfold spec_TupleOk.f
    first
      | (simp only [spec_ItemOk.inv0, spec_KeyOk.inv0, cn_zeroI, cn_zero, feq_cn_l, feq_cn_r, fls_cn_l, fls_cn_r, fgt_cn_l, fgt_cn_r, fle_cn_l, fle_cn_r, fge_cn_l, fge_cn_r]; done)
      | (simp only [spec_ItemOk.inv0, spec_KeyOk.inv0, cn_zeroI, cn_zero, feq_cn_l, feq_cn_r, fls_cn_l, fls_cn_r, fgt_cn_l, fgt_cn_r, fle_cn_l, fle_cn_r, fge_cn_l, fge_cn_r, feq_nan_l h_, feq_nan_l (cn_nanw h_), Bool.false_eq_true, if_false]; done)
      | (simp [feq_nan_l h_, feq_nan_l (cn_nanw h_)]; done)
  · rw [cn_num h_]
theorem spec_TupleOk.inv1 (k : Nat) (a0_0 : Int) (a0_1 : Int) (a0_2 : Int) (a0_3 : Int) (a0_4 : Nat) (l0_5 : List Int) (a0_6 : Int) (a0_7 : Int) (a0_8 : Nat) (l0_9 : List Int) : spec_TupleOk.f k a0_0 a0_1 a0_2 a0_3 a0_4 l0_5 a0_6 a0_7 (cn a0_8) l0_9 = spec_TupleOk.f k a0_0 a0_1 a0_2 a0_3 a0_4 l0_5 a0_6 a0_7 a0_8 l0_9 := by
  by_cases h_ : nanw a0_8
  · unfold spec_TupleOk.f
    first
      | (simp only [spec_ItemOk.inv0, spec_KeyOk.inv0, cn_zeroI, cn_zero, feq_cn_l, feq_cn_r, fls_cn_l, fls_cn_r, fgt_cn_l, fgt_cn_r, fle_cn_l, fle_cn_r, fge_cn_l, fge_cn_r]; done)
      | (simp only [spec_ItemOk.inv0, spec_KeyOk.inv0, cn_zeroI, cn_zero, feq_cn_l, feq_cn_r, fls_cn_l, fls_cn_r, fgt_cn_l, fgt_cn_r, fle_cn_l, fle_cn_r, fge_cn_l, fge_cn_r, feq_nan_l h_, feq_nan_l (cn_nanw h_), Bool.false_eq_true, if_false]; done)
      | (simp [feq_nan_l h_, feq_nan_l (cn_nanw h_)]; done)
  · rw [cn_num h_]
def spec_l3high.l0 : Nat → Int → List Int → Int → Option (List Int)
  | 0, _, _, _ => none
  | k + 1, x0, x3, x4 => if x4 ≥ 0 then (if 0 ≤ (IntKind.u64.wrap (wrap64 (8 * x4))) then (if x3.length < 140737488355328 then (spec_l3high.l0 k x0 (x3 ++ [(Go.bits .and .u64 (shr .u64 x0 (IntKind.u64.wrap (wrap64 (8 * x4)))) 255) % 256]) (wrap64 (x4 - 1))) else (none)) else (none)) else (some x3)
def spec_l3high.f (k : Nat) (a0 : Int) : Option (List Int) := spec_l3high.l0 k a0 ([] : List Int) 7
theorem spec_l3high.mono_l : ∀ k, (∀ y0 y1 y2, LeO (spec_l3high.l0 k y0 y1 y2) (spec_l3high.l0 (k + 1) y0 y1 y2))
  | 0 => fun _ _ _ r h => by simp [spec_l3high.l0] at h
  | k + 1 => by
    have ih0 := spec_l3high.mono_l k
    · intro y0 y1 y2
      unfold spec_l3high.l0
      repeat' with_reducible first | exact ih0 _ _ _ | exact LeO.refl _ | exact LeO.none _ | refine LeO.ite ?_ ?_ | refine LeO.bind ?_ (fun _ => ?_)
theorem spec_l3high.mono : ∀ a0 k, LeO (spec_l3high.f k a0) (spec_l3high.f (k + 1) a0) := by
  intro a0 k
  have ih0 := spec_l3high.mono_l k
  unfold spec_l3high.f
  repeat' with_reducible first | exact ih0 _ _ _ | exact LeO.refl _ | exact LeO.none _ | refine LeO.ite ?_ ?_ | refine LeO.bind ?_ (fun _ => ?_)
set_option maxHeartbeats 8000000 in
set_option maxRecDepth 100000 in
theorem spec_l3high.calls (k : Nat) (a0 : Int) (r : List Int) (w : World) (h : spec_l3high.f k a0 = some r) :
    Calls Try.prog 82 #[.int .u64 a0] w fun e w' => ∃ v0_ : Value, e = .returned (v0_) ∧ Kd.R (Kd.int .u8) 5 w' w.heap.size (fun _ => True) v0_ r ∧ Below w.heap.size w w' := by
  have HB := ZA (Below.refl w.heap.size w)
  have H := h
  clear h
  unfold spec_l3high.f at H
  have H' := ZA H
  clear H
  go_enter Try.func82, Try.ntmps82
  go_wp2
  go_loopg [3, 4] k (fun kq v3 v4 w' => ∃ (x3_1 : List Int) (x4_1 : Int), v4 = .int .i64 x4_1 ∧ Aside0 (spec_l3high.l0 kq a0 x3_1 x4_1 = some r) ∧ Aside0 (kq ≤ k) ∧ Aside0 (Kd.R (Kd.int .u8) 5 w' w.heap.size (fun _ => True) v3 x3_1) ∧ Aside0 (Below w.heap.size w w'))
  case atStart => exact ⟨(([] : List Int)), (7), Z7, H', ⟨Nat.le_refl _⟩, ⟨by first | exact Kd.R_nil _ _ _ _ _ | exact Kd.N_nil _ _ _ _ _ | exact Kd.V_nil _ _ _ _ _ | exact Kd.Q_nil _ _ _ _ _ | exact Kd.S_nil _ _ _ _ _⟩, ⟨Z45⟩⟩
  case round =>
    clear H'
    obtain ⟨x3_1, x4_1, rfl, HA, HK1, HO_3, HB⟩ := hrel
    cases gk with
    | zero => exact absurd HA.out (by simp [spec_l3high.l0])
    | succ k1 =>
      have H := HA.out
      clear HA
      simp only [spec_l3high.l0] at H
      by_cases c2 : x4_1 ≥ 0
      · rw [if_pos c2] at H
        have c2b0 : decide (0 ≤ x4_1) = true := decide_eq_true c2
        clear c2
        obtain ⟨ji3, hji3⟩ : ∃ j_ : Int, (IntKind.u64.wrap (wrap64 (8 * x4_1))) = j_ := ⟨_, rfl⟩
        replace H : (if 0 ≤ (ji3) then (if x3_1.length < 140737488355328 then (spec_l3high.l0 k1 a0 (x3_1 ++ [(Go.bits .and .u64 (shr .u64 a0 (ji3)) 255) % 256]) (wrap64 (x4_1 - 1))) else (none)) else (none)) = some r := by first | (rw [hji3] at H; exact H) | (simp only [hji3] at H ⊢; exact H)
        by_cases c4 : 0 ≤ (ji3)
        · rw [if_pos c4] at H
          have c4b0 := eq_true c4
          have c4b1 : decide (0 ≤ (ji3)) = true := decide_eq_true c4
          clear c4
          obtain ⟨ji5, hji5⟩ : ∃ j_ : Int, (shr .u64 a0 (ji3)) = j_ := ⟨_, rfl⟩
          replace H : (if x3_1.length < 140737488355328 then (spec_l3high.l0 k1 a0 (x3_1 ++ [(Go.bits .and .u64 (ji5) 255) % 256]) (wrap64 (x4_1 - 1))) else (none)) = some r := by first | (rw [hji5] at H; exact H) | (simp only [hji5] at H ⊢; exact H)
          have hji5_ : (a0 / 2 ^ min (ji3).toNat 64) = ji5 := hji5
          have hji5z : (ji3) ≤ 64 → (a0 / 2 ^ (ji3).toNat) = ji5 := shr_small hji5
          by_cases c6 : x3_1.length < 140737488355328
          · rw [if_pos c6] at H
            have LMc6 := ZA c6
            clear c6
            obtain ⟨y237, hy237⟩ : ∃ y_ : List Int, y_ = (x3_1 ++ [(Go.bits .and .u64 (ji5) 255) % 256]) := ⟨_, rfl⟩
            replace H : (spec_l3high.l0 k1 a0 y237 (wrap64 (x4_1 - 1))) = some r := by first | (rw [hy237]; with_reducible exact H) | (have H2_ := (Option.bind_some _ _).symm.trans H; rw [hy237]; with_reducible exact H2_) | (have H2_ := (Option.bind_some _ _).symm.trans H; with_reducible exact H2_) | with_reducible exact H | (rw [hy237]; exact H) | exact H
            have Ny237 := ZA hy237
            clear hy237
            have H' := ZA H
            clear H
            go_wp2_with (first | ((with_reducible refine gate_builtin (b := .append) (xs := #[.tmp 9, .tmp 17]) rfl ?_); at_builtin; refine Kd.R_append (Kd.int .u8) (w0 := w) w.heap.size rfl (.tmp 9) (.tmp 17) 36 5 (.int .u8 0) 1 rfl Try.underlying36 info5 rfl Z25 Z8 u3 x3_1 ((Go.bits .and .u64 (ji5) 255) % 256) [.int .u8 ((Go.bits .and .u64 (ji5) 255) % 256)] (fun _ => True) (fun _ => False) rfl rfl ?aP (fun _ hk => hk.elim) ?aF ?aO ?aB ?aS ?aL ?_; (case aP => exact rfl); (case aB => exact (hup HB.out)); (case aF => exact (fun _ _ => trivial)); (case aO => exact (Kd.rup HO_3.out)); (case aS => exact (below_size (hup HB.out))); (case aL => have := LMc6.out; omega); intro v238 w7 ho hb hg hat; rw [← Ny237.out] at ho; have n0_ := ZA (hb); have n1_ := ZA (ho); clear HB HO_3; have HB := n0_; have HO239 := n1_; clear n0_ n1_ ho hb hg hat))
            go_roundg k1
            case measure => have := HK1.out; omega
            case rel => exact ⟨(y237), (wrap64 (x4_1 - 1)), Z7, H', ⟨by have := HK1.out; omega⟩, ⟨by exact Kd.rup HO239.out⟩, ⟨Z45⟩⟩
          · rw [if_neg c6] at H
            exact absurd H Z44
        · rw [if_neg c4] at H
          exact absurd H Z44
      · rw [if_neg c2] at H
        have c2b0 : decide (0 ≤ x4_1) = false := decide_eq_false c2
        clear c2
        obtain rfl := Option.some.inj H
        go_wp2
        go_ret
        exact ⟨_, by first | rfl | (simp [errW_none, errW_some] <;> rfl) | (simp [*, errW_none, errW_some] <;> rfl), by exact Kd.rup HO_3.out, Z45⟩
def spec_l3bytes.f (k : Nat) (a0_0 : Int) (a0_1 : Int) (a0_2 : Nat) (l0_3 : List Int) (a1 : Int) : Option (List Int) := (some (([(a0_0) % 256] : List Int) : List Int)).bind fun y241 => (if a0_0 = 1 then ((spec_l3high.f k (Go.bits .xor .u64 (IntKind.u64.wrap (a0_1)) 9223372036854775808)).bind fun t244 => (if y241.length + t244.length < 140737488355328 then (some (y241 ++ t244)) else (none))) else (if a0_0 = 2 then ((spec_l3high.f k a1).bind fun t250 => (if y241.length + t250.length < 140737488355328 then (some (y241 ++ t250)) else (none))) else (if y241.length + l0_3.length < 140737488355328 then (some (y241 ++ l0_3)) else (none))))
theorem spec_l3bytes.mono : ∀ a0 a1 a2 a3 a4 k, LeO (spec_l3bytes.f k a0 a1 a2 a3 a4) (spec_l3bytes.f (k + 1) a0 a1 a2 a3 a4) := by
 intro a0 a1 a2 a3 a4 k
 unfold spec_l3bytes.f
 repeat' with_reducible first | exact spec_l3high.mono _ _ | exact LeO.refl _ | exact LeO.none _ | refine LeO.ite ?_ ?_ | refine LeO.bind ?_ (fun _ => ?_)
set_option maxHeartbeats 8000000 in
set_option maxRecDepth 100000 in
theorem spec_l3bytes.calls (k : Nat) (a0_0 : Int) (a0_1 : Int) (a0_2 : Nat) (A0_3 : Option Addr) (c0_3 : Nat) (l0_3 : List Int) (a1 : Int) (r : List Int) (w : World) (hr0_3 : Kd.C (Kd.int .u8) w A0_3 l0_3.length l0_3) (hc0_3 : l0_3.length ≤ c0_3) (h : spec_l3bytes.f k a0_0 a0_1 a0_2 l0_3 a1 = some r) :
  Calls Try.prog 76 #[.agg #[.int .i64 a0_0, .int .i64 a0_1, .float .f64 a0_2, .slice A0_3 l0_3.length c0_3], .int .u64 a1] w fun e w' => ∃ v0_ : Value, e = .returned (v0_) ∧ Kd.R (Kd.int .u8) 5 w' w.heap.size (fun _ => True) v0_ r ∧ Below w.heap.size w w' := by
 have hu72 := Try.underlying72
 have HR0_3 := ZA hr0_3
 have HC0_3 := ZA hc0_3
 clear hr0_3 hc0_3
 have HB := ZA (Below.refl w.heap.size w)
 have H := h
 clear h
 unfold spec_l3bytes.f at H
 obtain ⟨y241, hy241⟩ : ∃ y_ : List Int, y_ = (([(a0_0) % 256] : List Int)) := ⟨_, rfl⟩
 replace H : (if a0_0 = 1 then ((spec_l3high.f k (Go.bits .xor .u64 (IntKind.u64.wrap (a0_1)) 9223372036854775808)).bind fun t244 => (if y241.length + t244.length < 140737488355328 then (some (y241 ++ t244)) else (none))) else (if a0_0 = 2 then ((spec_l3high.f k a1).bind fun t250 => (if y241.length + t250.length < 140737488355328 then (some (y241 ++ t250)) else (none))) else (if y241.length + l0_3.length < 140737488355328 then (some (y241 ++ l0_3)) else (none)))) = some r := by first | (rw [hy241]; with_reducible exact H) | (have H2_ := (Option.bind_some _ _).symm.trans H; rw [hy241]; with_reducible exact H2_) | (have H2_ := (Option.bind_some _ _).symm.trans H; with_reducible exact H2_) | with_reducible exact H | (rw [hy241]; exact H) | exact H
 have Ny241 := ZA hy241
 clear hy241
 by_cases c3 : a0_0 = 1
 ·rw [if_pos c3] at H
  have c3b0 : (a0_0 == 1) = true := beq_iff_eq.mpr c3
  have c3b1 : (a0_0 != 1) = false := bne_eq_false_iff_eq.mpr c3
  clear c3
  replace H := Option.bind_eq_some_iff.mp H
  obtain ⟨t244, A40, H⟩ := H
  (try dsimp only at H)
  have A4 := ZA A40
  clear A40
  by_cases c5 : y241.length + t244.length < 140737488355328
  ·rw [if_pos c5] at H
   have LMc5 := ZA c5
   clear c5
   obtain ⟨y247, hy247⟩ : ∃ y_ : List Int, y_ = (y241 ++ t244) := ⟨_, rfl⟩
   replace H : (some y247) = some r := by first | (rw [hy247]; with_reducible exact H) | (have H2_ := (Option.bind_some _ _).symm.trans H; rw [hy247]; with_reducible exact H2_) | (have H2_ := (Option.bind_some _ _).symm.trans H; with_reducible exact H2_) | with_reducible exact H | (rw [hy247]; exact H) | exact H
   have Ny247 := ZA hy247
   clear hy247
   obtain rfl := Option.some.inj H
   go_enter Try.func76, Try.ntmps76
   go_wp2_with (first | ((with_reducible refine gate_dst (N := 2) rfl ?_); refine box_event ?hg (N := 2) ?hd (cs := #[.int .i64 a0_0, .int .i64 a0_1, .float .f64 a0_2, .slice A0_3 l0_3.length c0_3]) (t := 72) ?hr ?_; (case hd => rfl); (case hg => rfl); (case hr => first | (go_simp; done) | (go_simp; rfl)); intro gb240 hg w6 hbox hb; have n0_ := ZA (below_step (hup HB.out) hb); have n1_ := ZA (hbox); have n2_ := Geq.mk ((Z28 : w.heap.size ≤ gb240)); have n3_ := Geq.mk ((Z28 : w.heap.size ≤ gb240)); clear HB; have HB := n0_; have BK240 := n1_; have GW240 := n2_; have GE240 := n3_; clear n0_ n1_ n2_ n3_ hb hbox hg; obtain ⟨hcz7_0, hcz7_1, hcz7_2, hcz7_3⟩ := blk_cells4 BK240.out; obtain ⟨hfz7_0, hfz7_1, hfz7_2, hfz7_3⟩ := blk_frozens4 BK240.out) | ((with_reducible refine gate_dst (N := 9) rfl ?_); refine Kd.R_lit (Kd.int .u8) _ 5 ?hg (N := 9) ?hd (xs := ([(a0_0) % 256] : List Int)) (inner := [.int .u8 ((a0_0) % 256)]) (ok := fun _ => True) (okp := fun _ => True) ?hr ?hp (fun _ hk => hk) trivial (Below.refl _ _) (Nat.le_refl _) Z44 ?_; (case hd => rfl); (case hg => rfl); (case hr => first | (go_simp; done) | (go_simp; rfl)); (case hp => exact (Reps.one (show Kd.M (Kd.int .u8) _ _ _ ((a0_0) % 256) [.int .u8 ((a0_0) % 256)] from rfl) (Reps.none _ _))); intro v242 w8 ho9 hb hg_ hnew_; clear hg_ hnew_; (first | rw [← Ny241.out] at ho9 | (simp only [Int.reduceToNat] at ho9; rw [← Ny241.out] at ho9)); have n0_ := ZA (Kd.R_lower ho9 (below_size (hset HB.out))); have n1_ := ZA (blk_below (bup BK240.out) hb); have n2_ := ZA (below_step (hset HB.out) hb); clear BK240 HB; have HO243 := n0_; have BK240 := n1_; have HB := n2_; clear n0_ n1_ n2_ hb ho9; obtain ⟨hcz10_0, hcz10_1, hcz10_2, hcz10_3⟩ := blk_cells4 BK240.out; obtain ⟨hfz10_0, hfz10_1, hfz10_2, hfz10_3⟩ := blk_frozens4 BK240.out) | ((with_reducible refine gate_callee (f := 82) rfl ?_); refine goesL_ (some 19) rfl rfl Try.func82 Z12 rfl #[.int .u64 (Go.bits .xor .u64 (IntKind.u64.wrap (a0_1)) 9223372036854775808)] rfl Z1 ?_; (with_reducible refine (spec_l3high.calls k (Go.bits .xor .u64 (IntKind.u64.wrap (a0_1)) 9223372036854775808) t244 _ A4.out).mono ?_); rintro e w11 ⟨v245, rfl, ho0, hb⟩; refine ⟨_, rfl, ?_⟩; have n0_ := ZA (Kd.R_elder' (Kd.rup HO243.out) (Kd.R_base ho0) hb); have n1_ := ZA (Kd.R_lower (Kd.R_new' ho0 (Kd.R_lt (Kd.rup HO243.out))) (below_size (hset HB.out))); have n2_ := ZA (blk_below (bup BK240.out) hb); have n3_ := ZA (below_step (hset HB.out) hb); clear HO243 BK240 HB; have HO243 := n0_; have HO246 := n1_; have BK240 := n2_; have HB := n3_; clear n0_ n1_ n2_ n3_; (try clear hb); (try clear hb2); (try clear hk); (try clear hi); (try clear ho0); obtain ⟨Ao13, co13, eo13⟩ := Kd.R_slice HO246.out; subst eo13) | ((with_reducible refine gate_builtin (b := .append) (xs := #[.tmp 14, .tmp 19]) rfl ?_); at_builtin; refine Kd.R_append_rows (Kd.int .u8) (w0 := w) w.heap.size rfl (.tmp 14) (.tmp 19) 36 5 (.int .u8 0) 1 rfl Try.underlying36 info5 rfl Z25 Z8 v242 y241 t244 _ _ _ (fun k_ => some k_ ≠ (.slice Ao13 t244.length co13 : Value).ownBlock) (fun _ => False) rfl rfl ?aO ?aR (fun _ _ h => h) (fun _ h => h.elim) ?aF ?aB ?aS ?aL ?_; (case aR => repeat (first | exact (Kd.R_reads' HO246.out).2.2 | (with_reducible refine Kd.C_alloc ?_ _) | (with_reducible refine Kd.C_drewN ?_ _) | (with_reducible refine Kd.C_drew ?_))); (case aB => exact (hset HB.out)); (case aF => exact (fun k_ hk => Kd.fresh' (Kd.R_lt (Kd.rup HO246.out)) k_ hk)); (case aO => exact (by exact Kd.rup (Kd.R_mono HO243.out (fun _ hk => hk.2)))); (case aS => exact (below_size (hset HB.out))); (case aL => have := LMc5.out; omega); intro v248 w12 ho hb hg hat; rw [← Ny247.out] at ho; have n0_ := ZA (blk_grown (g := gb240) (o := .cells #[.int .i64 a0_0, .int .i64 a0_1, .float .f64 a0_2, .slice A0_3 l0_3.length c0_3] 72 (0, 0)) (bup BK240.out) hg (Kd.R_ne HO243.out BK240.out Z25)); have n1_ := ZA (Kd.R_after (ok := (fun _ => True)) (Kd.rup HO246.out) hg hat); have n2_ := ZA (hb); have n3_ := ZA (ho); clear BK240 HO246 HB HO243; have BK240 := n0_; have HO246 := n1_; have HB := n2_; have HO249 := n3_; clear n0_ n1_ n2_ n3_ ho hb hg hat))
   go_ret
   exact ⟨_, by first | rfl | (simp [errW_none, errW_some] <;> rfl) | (simp [*, errW_none, errW_some] <;> rfl), by exact Kd.rup (Kd.R_mono HO249.out (fun _ hk => trivial)), hset HB.out⟩
  ·rw [if_neg c5] at H
   exact absurd H Z44
 ·rw [if_neg c3] at H
  have c3b0 : (a0_0 == 1) = false := beq_eq_false_iff_ne.mpr c3
  have c3b1 : (a0_0 != 1) = true := bne_iff_ne.mpr c3
  by_cases c14 : a0_0 = 2
  ·rw [if_pos c14] at H
   have c14b0 : (a0_0 == 2) = true := beq_iff_eq.mpr c14
   have c14b1 : (a0_0 != 2) = false := bne_eq_false_iff_eq.mpr c14
   clear c14
   replace H := Option.bind_eq_some_iff.mp H
   obtain ⟨t250, A150, H⟩ := H
   (try dsimp only at H)
   have A15 := ZA A150
   clear A150
   by_cases c16 : y241.length + t250.length < 140737488355328
   ·rw [if_pos c16] at H
    have LMc16 := ZA c16
    clear c16
    obtain ⟨y253, hy253⟩ : ∃ y_ : List Int, y_ = (y241 ++ t250) := ⟨_, rfl⟩
    replace H : (some y253) = some r := by first | (rw [hy253]; with_reducible exact H) | (have H2_ := (Option.bind_some _ _).symm.trans H; rw [hy253]; with_reducible exact H2_) | (have H2_ := (Option.bind_some _ _).symm.trans H; with_reducible exact H2_) | with_reducible exact H | (rw [hy253]; exact H) | exact H
    have Ny253 := ZA hy253
    clear hy253
    obtain rfl := Option.some.inj H
    go_enter Try.func76, Try.ntmps76
    go_wp2_with (first | ((with_reducible refine gate_dst (N := 2) rfl ?_); refine box_event ?hg (N := 2) ?hd (cs := #[.int .i64 a0_0, .int .i64 a0_1, .float .f64 a0_2, .slice A0_3 l0_3.length c0_3]) (t := 72) ?hr ?_; (case hd => rfl); (case hg => rfl); (case hr => first | (go_simp; done) | (go_simp; rfl)); intro gb240 hg w17 hbox hb; have n0_ := ZA (below_step (hup HB.out) hb); have n1_ := ZA (hbox); have n2_ := Geq.mk ((Z28 : w.heap.size ≤ gb240)); have n3_ := Geq.mk ((Z28 : w.heap.size ≤ gb240)); clear HB; have HB := n0_; have BK240 := n1_; have GW240 := n2_; have GE240 := n3_; clear n0_ n1_ n2_ n3_ hb hbox hg; obtain ⟨hcz18_0, hcz18_1, hcz18_2, hcz18_3⟩ := blk_cells4 BK240.out; obtain ⟨hfz18_0, hfz18_1, hfz18_2, hfz18_3⟩ := blk_frozens4 BK240.out) | ((with_reducible refine gate_dst (N := 9) rfl ?_); refine Kd.R_lit (Kd.int .u8) _ 5 ?hg (N := 9) ?hd (xs := ([(a0_0) % 256] : List Int)) (inner := [.int .u8 ((a0_0) % 256)]) (ok := fun _ => True) (okp := fun _ => True) ?hr ?hp (fun _ hk => hk) trivial (Below.refl _ _) (Nat.le_refl _) Z44 ?_; (case hd => rfl); (case hg => rfl); (case hr => first | (go_simp; done) | (go_simp; rfl)); (case hp => exact (Reps.one (show Kd.M (Kd.int .u8) _ _ _ ((a0_0) % 256) [.int .u8 ((a0_0) % 256)] from rfl) (Reps.none _ _))); intro v242 w19 ho20 hb hg_ hnew_; clear hg_ hnew_; (first | rw [← Ny241.out] at ho20 | (simp only [Int.reduceToNat] at ho20; rw [← Ny241.out] at ho20)); have n0_ := ZA (Kd.R_lower ho20 (below_size (hset HB.out))); have n1_ := ZA (blk_below (bup BK240.out) hb); have n2_ := ZA (below_step (hset HB.out) hb); clear BK240 HB; have HO243 := n0_; have BK240 := n1_; have HB := n2_; clear n0_ n1_ n2_ hb ho20; obtain ⟨hcz21_0, hcz21_1, hcz21_2, hcz21_3⟩ := blk_cells4 BK240.out; obtain ⟨hfz21_0, hfz21_1, hfz21_2, hfz21_3⟩ := blk_frozens4 BK240.out) | ((with_reducible refine gate_callee (f := 82) rfl ?_); refine goesL_ (some 25) rfl rfl Try.func82 Z12 rfl #[.int .u64 a1] rfl Z1 ?_; (with_reducible refine (spec_l3high.calls k a1 t250 _ A15.out).mono ?_); rintro e w22 ⟨v251, rfl, ho0, hb⟩; refine ⟨_, rfl, ?_⟩; have n0_ := ZA (Kd.R_elder' (Kd.rup HO243.out) (Kd.R_base ho0) hb); have n1_ := ZA (Kd.R_lower (Kd.R_new' ho0 (Kd.R_lt (Kd.rup HO243.out))) (below_size (hset HB.out))); have n2_ := ZA (blk_below (bup BK240.out) hb); have n3_ := ZA (below_step (hset HB.out) hb); clear HO243 BK240 HB; have HO243 := n0_; have HO252 := n1_; have BK240 := n2_; have HB := n3_; clear n0_ n1_ n2_ n3_; (try clear hb); (try clear hb2); (try clear hk); (try clear hi); (try clear ho0); obtain ⟨Ao24, co24, eo24⟩ := Kd.R_slice HO252.out; subst eo24) | ((with_reducible refine gate_builtin (b := .append) (xs := #[.tmp 23, .tmp 25]) rfl ?_); at_builtin; refine Kd.R_append_rows (Kd.int .u8) (w0 := w) w.heap.size rfl (.tmp 23) (.tmp 25) 36 5 (.int .u8 0) 1 rfl Try.underlying36 info5 rfl Z25 Z8 v242 y241 t250 _ _ _ (fun k_ => some k_ ≠ (.slice Ao24 t250.length co24 : Value).ownBlock) (fun _ => False) rfl rfl ?aO ?aR (fun _ _ h => h) (fun _ h => h.elim) ?aF ?aB ?aS ?aL ?_; (case aR => repeat (first | exact (Kd.R_reads' HO252.out).2.2 | (with_reducible refine Kd.C_alloc ?_ _) | (with_reducible refine Kd.C_drewN ?_ _) | (with_reducible refine Kd.C_drew ?_))); (case aB => exact (hset HB.out)); (case aF => exact (fun k_ hk => Kd.fresh' (Kd.R_lt (Kd.rup HO252.out)) k_ hk)); (case aO => exact (by exact Kd.rup (Kd.R_mono HO243.out (fun _ hk => hk.2)))); (case aS => exact (below_size (hset HB.out))); (case aL => have := LMc16.out; omega); intro v254 w23 ho hb hg hat; rw [← Ny253.out] at ho; have n0_ := ZA (blk_grown (g := gb240) (o := .cells #[.int .i64 a0_0, .int .i64 a0_1, .float .f64 a0_2, .slice A0_3 l0_3.length c0_3] 72 (0, 0)) (bup BK240.out) hg (Kd.R_ne HO243.out BK240.out Z25)); have n1_ := ZA (Kd.R_after (ok := (fun _ => True)) (Kd.rup HO252.out) hg hat); have n2_ := ZA (hb); have n3_ := ZA (ho); clear BK240 HO252 HB HO243; have BK240 := n0_; have HO252 := n1_; have HB := n2_; have HO255 := n3_; clear n0_ n1_ n2_ n3_ ho hb hg hat))
    go_ret
    exact ⟨_, by first | rfl | (simp [errW_none, errW_some] <;> rfl) | (simp [*, errW_none, errW_some] <;> rfl), by exact Kd.rup (Kd.R_mono HO255.out (fun _ hk => trivial)), hset HB.out⟩
   ·rw [if_neg c16] at H
    exact absurd H Z44
  ·rw [if_neg c14] at H
   have c14b0 : (a0_0 == 2) = false := beq_eq_false_iff_ne.mpr c14
   have c14b1 : (a0_0 != 2) = true := bne_iff_ne.mpr c14
   by_cases c25 : y241.length + l0_3.length < 140737488355328
   ·rw [if_pos c25] at H
    have LMc25 := ZA c25
    clear c25
    obtain ⟨y256, hy256⟩ : ∃ y_ : List Int, y_ = (y241 ++ l0_3) := ⟨_, rfl⟩
    replace H : (some y256) = some r := by first | (rw [hy256]; with_reducible exact H) | (have H2_ := (Option.bind_some _ _).symm.trans H; rw [hy256]; with_reducible exact H2_) | (have H2_ := (Option.bind_some _ _).symm.trans H; with_reducible exact H2_) | with_reducible exact H | (rw [hy256]; exact H) | exact H
    have Ny256 := ZA hy256
    clear hy256
    obtain rfl := Option.some.inj H
    go_enter Try.func76, Try.ntmps76
    go_wp2_with (first | ((with_reducible refine gate_dst (N := 2) rfl ?_); refine box_event ?hg (N := 2) ?hd (cs := #[.int .i64 a0_0, .int .i64 a0_1, .float .f64 a0_2, .slice A0_3 l0_3.length c0_3]) (t := 72) ?hr ?_; (case hd => rfl); (case hg => rfl); (case hr => first | (go_simp; done) | (go_simp; rfl)); intro gb240 hg w26 hbox hb; have n0_ := ZA (below_step (hup HB.out) hb); have n1_ := ZA (hbox); have n2_ := Geq.mk ((Z28 : w.heap.size ≤ gb240)); have n3_ := Geq.mk ((Z28 : w.heap.size ≤ gb240)); clear HB; have HB := n0_; have BK240 := n1_; have GW240 := n2_; have GE240 := n3_; clear n0_ n1_ n2_ n3_ hb hbox hg; obtain ⟨hcz27_0, hcz27_1, hcz27_2, hcz27_3⟩ := blk_cells4 BK240.out; obtain ⟨hfz27_0, hfz27_1, hfz27_2, hfz27_3⟩ := blk_frozens4 BK240.out) | ((with_reducible refine gate_dst (N := 9) rfl ?_); refine Kd.R_lit (Kd.int .u8) _ 5 ?hg (N := 9) ?hd (xs := ([(a0_0) % 256] : List Int)) (inner := [.int .u8 ((a0_0) % 256)]) (ok := fun _ => True) (okp := fun _ => True) ?hr ?hp (fun _ hk => hk) trivial (Below.refl _ _) (Nat.le_refl _) Z44 ?_; (case hd => rfl); (case hg => rfl); (case hr => first | (go_simp; done) | (go_simp; rfl)); (case hp => exact (Reps.one (show Kd.M (Kd.int .u8) _ _ _ ((a0_0) % 256) [.int .u8 ((a0_0) % 256)] from rfl) (Reps.none _ _))); intro v242 w28 ho29 hb hg_ hnew_; clear hg_ hnew_; (first | rw [← Ny241.out] at ho29 | (simp only [Int.reduceToNat] at ho29; rw [← Ny241.out] at ho29)); have n0_ := ZA (Kd.R_lower ho29 (below_size (hset HB.out))); have n1_ := ZA (blk_below (bup BK240.out) hb); have n2_ := ZA (below_step (hset HB.out) hb); clear BK240 HB; have HO243 := n0_; have BK240 := n1_; have HB := n2_; clear n0_ n1_ n2_ hb ho29; obtain ⟨hcz30_0, hcz30_1, hcz30_2, hcz30_3⟩ := blk_cells4 BK240.out; obtain ⟨hfz30_0, hfz30_1, hfz30_2, hfz30_3⟩ := blk_frozens4 BK240.out) | ((with_reducible refine gate_builtin (b := .append) (xs := #[.tmp 27, .tmp 29]) rfl ?_); at_builtin; refine Kd.R_append_rows (Kd.int .u8) (w0 := w) w.heap.size rfl (.tmp 27) (.tmp 29) 36 5 (.int .u8 0) 1 rfl Try.underlying36 info5 rfl Z25 Z8 v242 y241 l0_3 _ _ _ (fun _ => True) (fun _ => False) rfl rfl ?aO ?aR (fun _ _ h => h) (fun _ h => h.elim) ?aF ?aB ?aS ?aL ?_; (case aR => repeat (first | exact (Kd.C_below HR0_3.out HB.out) | (with_reducible refine Kd.C_alloc ?_ _) | (with_reducible refine Kd.C_drewN ?_ _) | (with_reducible refine Kd.C_drew ?_))); (case aB => exact (hset HB.out)); (case aF => exact (fun _ _ => trivial)); (case aO => exact (Kd.rup HO243.out)); (case aS => exact (below_size (hset HB.out))); (case aL => have := LMc25.out; omega); intro v257 w31 ho hb hg hat; rw [← Ny256.out] at ho; have n0_ := ZA (blk_grown (g := gb240) (o := .cells #[.int .i64 a0_0, .int .i64 a0_1, .float .f64 a0_2, .slice A0_3 l0_3.length c0_3] 72 (0, 0)) (bup BK240.out) hg (Kd.R_ne HO243.out BK240.out Z25)); have n1_ := ZA (hb); have n2_ := ZA (ho); clear BK240 HB HO243; have BK240 := n0_; have HB := n1_; have HO258 := n2_; clear n0_ n1_ n2_ ho hb hg hat))
    go_ret
    exact ⟨_, by first | rfl | (simp [errW_none, errW_some] <;> rfl) | (simp [*, errW_none, errW_some] <;> rfl), by exact Kd.rup HO258.out, hset HB.out⟩
   ·rw [if_neg c25] at H
    exact absurd H Z44
theorem spec_l3bytes.inv0 (k : Nat) (a0_0 : Int) (a0_1 : Int) (a0_2 : Nat) (l0_3 : List Int) (a1 : Int) : spec_l3bytes.f k a0_0 a0_1 (cn a0_2) l0_3 a1 = spec_l3bytes.f k a0_0 a0_1 a0_2 l0_3 a1 := by
  by_cases h_ : nanw a0_2
  · unfold spec_l3bytes.f
    first
      | (simp only [cn_zeroI, cn_zero, feq_cn_l, feq_cn_r, fls_cn_l, fls_cn_r, fgt_cn_l, fgt_cn_r, fle_cn_l, fle_cn_r, fge_cn_l, fge_cn_r]; done)
      | (simp only [cn_zeroI, cn_zero, feq_cn_l, feq_cn_r, fls_cn_l, fls_cn_r, fgt_cn_l, fgt_cn_r, fle_cn_l, fle_cn_r, fge_cn_l, fge_cn_r, feq_nan_l h_, feq_nan_l (cn_nanw h_), Bool.false_eq_true, if_false]; done)
      | (simp [feq_nan_l h_, feq_nan_l (cn_nanw h_)]; done)
  · rw [cn_num h_]
def spec_FloatRank.f (k : Nat) (a0 : Nat) : Option (Int) := (spec_FloatBits.f k a0).bind fun t259 => (if t259 = 9221120237041090560 then (some 18446744073709551615) else (if (feq a0 0) = true then (some 9223372036854775808) else (if (t259 / 9223372036854775808) = 1 then (some (Go.bits .xor .u64 IntKind.u64.max t259)) else (some (Go.bits .or .u64 t259 9223372036854775808)))))
theorem spec_FloatRank.mono : ∀ a0 k, LeO (spec_FloatRank.f k a0) (spec_FloatRank.f (k + 1) a0) := by
  intro a0 k
  unfold spec_FloatRank.f
  repeat' with_reducible first | exact spec_FloatBits.mono _ _ | exact LeO.refl _ | exact LeO.none _ | refine LeO.ite ?_ ?_ | refine LeO.bind ?_ (fun _ => ?_)
set_option maxHeartbeats 8000000 in
set_option maxRecDepth 100000 in
theorem spec_FloatRank.calls (k : Nat) (a0 : Nat) (r : Int) (w : World) (h : spec_FloatRank.f k a0 = some r) :
    Calls Try.prog 77 #[.float .f64 a0] w fun e w' => e = .returned (.int .u64 r) ∧ Drawn0 w w' := by
  have H := h
  clear h
  unfold spec_FloatRank.f at H
  replace H := Option.bind_eq_some_iff.mp H
  obtain ⟨t259, A20, H⟩ := H
  (try dsimp only at H)
  have A2 := ZA A20
  clear A20
  go_enter Try.func77, Try.ntmps77
  repeat (first | ((fail_if_success (with_reducible refine gate_callee (f := 78) rfl ?_)); first | go_values | go_skip | go_guarded | go_step | go_upon | go_back | (simp only [Int.not_lt, Int.not_le] at *; go_simp)))
  (with_reducible refine gate_callee (f := 78) rfl ?_); refine goesL_ (some 5) rfl rfl Try.func78 Z12 rfl #[.float .f64 a0] rfl Z1 ?_; (with_reducible refine (spec_FloatBits.calls k a0 t259 _ A2.out).mono ?_); rintro e w' ⟨rfl, ⟨nd, rfl⟩⟩; refine ⟨_, rfl, ?_⟩
  by_cases c3 : t259 = 9221120237041090560
  · rw [if_pos c3] at H
    have c3b0 : (t259 == 9221120237041090560) = true := beq_iff_eq.mpr c3
    have c3b1 : (t259 != 9221120237041090560) = false := bne_eq_false_iff_eq.mpr c3
    (try simp only [c3b0, c3b1, Bool.not_true, Bool.not_false])
    clear c3
    obtain rfl := Option.some.inj H
    try go_wp2
    go_ret
    exact ⟨by first | rfl | (simp; done) | (simp [*]; done), Z24⟩
  · rw [if_neg c3] at H
    have c3b0 : (t259 == 9221120237041090560) = false := beq_eq_false_iff_ne.mpr c3
    have c3b1 : (t259 != 9221120237041090560) = true := bne_iff_ne.mpr c3
    (try simp only [c3b0, c3b1, Bool.not_true, Bool.not_false])
    by_cases c4 : (feq a0 0) = true
    · rw [if_pos c4] at H
      have c4b0 : (feq a0 0) = true := c4
      (try simp only [c4b0, Bool.not_true, Bool.not_false])
      clear c4
      obtain rfl := Option.some.inj H
      try go_wp2
      go_ret
      exact ⟨by first | rfl | (simp; done) | (simp [*]; done), Z24⟩
    · rw [if_neg c4] at H
      have c4b0 : (feq a0 0) = false := by simpa using c4
      (try simp only [c4b0, Bool.not_true, Bool.not_false])
      clear c4
      by_cases c5 : (t259 / 9223372036854775808) = 1
      · rw [if_pos c5] at H
        have c5b0 : ((t259 / 9223372036854775808) == 1) = true := beq_iff_eq.mpr c5
        have c5b1 : ((t259 / 9223372036854775808) != 1) = false := bne_eq_false_iff_eq.mpr c5
        (try simp only [c5b0, c5b1, Bool.not_true, Bool.not_false])
        clear c5
        obtain rfl := Option.some.inj H
        try go_wp2
        go_ret
        exact ⟨by first | rfl | (simp; done) | (simp [*]; done), Z24⟩
      · rw [if_neg c5] at H
        have c5b0 : ((t259 / 9223372036854775808) == 1) = false := beq_eq_false_iff_ne.mpr c5
        have c5b1 : ((t259 / 9223372036854775808) != 1) = true := bne_iff_ne.mpr c5
        (try simp only [c5b0, c5b1, Bool.not_true, Bool.not_false])
        obtain rfl := Option.some.inj H
        try go_wp2
        go_ret
        exact ⟨by first | rfl | (simp; done) | (simp [*]; done), Z24⟩
theorem spec_FloatRank.inv0 (k : Nat) (a0 : Nat) : spec_FloatRank.f k (cn a0) = spec_FloatRank.f k a0 := by
  by_cases h_ : nanw a0
  · unfold spec_FloatRank.f
    first
      | (simp only [spec_FloatBits.inv0, cn_zeroI, cn_zero, feq_cn_l, feq_cn_r, fls_cn_l, fls_cn_r, fgt_cn_l, fgt_cn_r, fle_cn_l, fle_cn_r, fge_cn_l, fge_cn_r]; done)
      | (simp only [spec_FloatBits.inv0, cn_zeroI, cn_zero, feq_cn_l, feq_cn_r, fls_cn_l, fls_cn_r, fgt_cn_l, fgt_cn_r, fle_cn_l, fle_cn_r, fge_cn_l, fge_cn_r, feq_nan_l h_, feq_nan_l (cn_nanw h_), Bool.false_eq_true, if_false]; done)
      | (simp [feq_nan_l h_, feq_nan_l (cn_nanw h_)]; done)
  · rw [cn_num h_]
end Go.Proofs.Ytokpniagnbaflaa.PFnPlaces
