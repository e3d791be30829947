import Derived.Test.YtokpniagnbaflaaZFnPlaces29
import Derived.Test.YtokpniagnbaflaaZFnPlacesA
import Derived.Test.YtokpniagnbaflaaZFnPlaces32
import Derived.Test.YtokpniagnbaflaaZFnPlaces34
import Derived.Test.YtokpniagnbaflaaZFnPlaces35
import Derived.Test.YtokpniagnbaflaaZFnPlaces38
import Derived.Test.YtokpniagnbaflaaZFnPlaces39
namespace Go.Proofs.Ytokpniagnbaflaa.PFnPlaces
open Go.RowKit Go.Proofs.YtokpniagnbaflaaW.PrintWords Go.Proofs.YtokpniagnbaflaaW.PrintLast Go.Proofs.YtokpniagnbaflaaW.PrintMore
attribute [local go_sem] max2_int min2_int max_two min_two max_three min_three max_four min_four   -- for this text's walks alone
attribute [local go_sem high] fl_eql fl_neq fl_lss fl_leq fl_gtr fl_geq fl_add fl_sub fl_mul fl_quo fl_neg fl_ofInt fl_toInt fl_store sub_sign fl_nan_quo fl_nan_add fl_nan_mul fl_nan_sub
open Go.Proofs.YtokpniagnbaflaaW.PrintWords renaming below_alloc → h1, pw_below_drewN → h2, below_drew1 → h3, below_set → h4, blk_drewN → b1, blk_drew → b2, blk_alloc → b3
set_option linter.unusedVariables false
set_option linter.unusedSimpArgs false
def spec_l1number.l0 : Nat → Int → Int → List Int → Int → Int → Option (Int × Int × Int)
 | 0, _, _, _, _, _ => none
 | k + 1, x3, x4, x1000, x1001, x1002 => if x4 > 0 then ((spec_l1Byte.f x1000 x1001 x1002).bind fun bt423 => (spec_l1number.l0 k (wrap64 ((wrap64 (x3 * 256)) + bt423.1)) (wrap64 (x4 - 1)) x1000 bt423.2.1 bt423.2.2)) else ((spec_l1Below.f x1000 x1001 x1002 12).bind fun bt426 => (if bt426.1 = 0 then (some (wrap64 (-x3), bt426.2.1, bt426.2.2)) else (if bt426.1 = 1 then ((spec_l1Below.f x1000 bt426.2.1 bt426.2.2 7).bind fun bt429 => (if 0 ≤ (wrap64 (8 * (wrap64 (1 + bt429.1)))) then ((spec_l1Below.f x1000 bt429.2.1 bt429.2.2 2).bind fun bt432 => (some (wrap64 ((shl .i64 1 (wrap64 (8 * (wrap64 (1 + bt429.1))))) - bt432.1), bt432.2.1, bt432.2.2))) else (none))) else (if bt426.1 = 2 then (some (9223372036854775807, bt426.2.1, bt426.2.2)) else (if bt426.1 = 3 then (some ((-9223372036854775808), bt426.2.1, bt426.2.2)) else (some (x3, bt426.2.1, bt426.2.2)))))))
def spec_l1number.f (k : Nat) (s0_0 : List Int) (s0_1 : Int) (s0_2 : Int) : Option (Int × Int × Int) := (spec_l1Below.f s0_0 s0_1 s0_2 1000).bind fun bt417 => ((spec_l1Below.f s0_0 bt417.2.1 bt417.2.2 6).bind fun bt420 => (spec_l1number.l0 k bt417.1 bt420.1 s0_0 bt420.2.1 bt420.2.2))
theorem spec_l1number.mono_l : ∀ k, (∀ y0 y1 y2 y3 y4, LeO (spec_l1number.l0 k y0 y1 y2 y3 y4) (spec_l1number.l0 (k + 1) y0 y1 y2 y3 y4))
 | 0 => fun _ _ _ _ _ r h => by simp [spec_l1number.l0] at h
 | k + 1 => by
  have ih0 := spec_l1number.mono_l k
  ·intro y0 y1 y2 y3 y4
   unfold spec_l1number.l0
   repeat' with_reducible first | exact ih0 _ _ _ _ _ | exact LeO.refl _ | exact LeO.none _ | refine LeO.ite ?_ ?_ | refine LeO.bind ?_ (fun _ => ?_)
theorem spec_l1number.mono : ∀ a0 a1 a2 k, LeO (spec_l1number.f k a0 a1 a2) (spec_l1number.f (k + 1) a0 a1 a2) := by
 intro a0 a1 a2 k
 have ih0 := spec_l1number.mono_l k
 unfold spec_l1number.f
 repeat' with_reducible first | exact ih0 _ _ _ _ _ | exact LeO.refl _ | exact LeO.none _ | refine LeO.ite ?_ ?_ | refine LeO.bind ?_ (fun _ => ?_)
def spec_l1number.T10 : Bool × List (List Nat × List Nat) := (true, [([], []), ([0], [0]), ([1], [1]), ([2], [2]), ([3], [3]), ([], []), ([5, 1], [5]), ([4, 6], [4, 6]), ([7, 6, 0, 1, 2, 3, 4, 5, 6, 7], [7])])
def spec_l1number.B10 : List Nat := [0, 1, 3, 7, 15, 0, 35, 127, 255]
theorem spec_l1number.tab10 : rtab .any (opsOf Try.f81 10) = spec_l1number.T10 := by kernel_rfl
theorem spec_l1number.bits10 : waitsOk spec_l1number.T10.2 spec_l1number.B10 = true := by kernel_rfl
set_option maxHeartbeats 8000000 in
set_option maxRecDepth 100000 in
theorem spec_l1number.calls (k : Nat) (g : Nat) (s0_0 : List Int) (s0_1 : Int) (s0_2 : Int) (r1 : Int) (r2 : Int) (r3 : Int) (w0 w : World) (hI : IsS82 w0 w g s0_0 s0_1 s0_2) (hB : Below w0.heap.size w0 w) (h : spec_l1number.f k s0_0 s0_1 s0_2 = some (r1, r2, r3)) :
  Calls Try.prog 81 #[.pointer (some ⟨g, 0, none⟩)] w fun e w' => e = .returned (.int .i64 r1) ∧ IsS82 w0 w' g s0_0 r2 r3 ∧ Below w0.heap.size w0 w' ∧ KeepBut w w' g none := by
 have HI0 := ZA hI
 have HK := ZA (KeepBut.refl w g none)
 have HL := ZA hB.size
 clear hI
 have HW0 := ZA hB.size
 have HB := ZA hB
 clear hB
 have H := h
 clear h
 unfold spec_l1number.f at H
 replace H := Option.bind_eq_some_iff.mp H
 obtain ⟨⟨t417, t418, t419⟩, A20, H⟩ := H
 (try dsimp only at H)
 have A2 := ZA A20
 clear A20
 replace H := Option.bind_eq_some_iff.mp H
 obtain ⟨⟨t420, t421, t422⟩, A30, H⟩ := H
 (try dsimp only at H)
 have A3 := ZA A30
 clear A30
 have H' := ZA H
 clear H
 go_enter Try.func81, Try.ntmps81
 go_wp2_with (first | ((with_reducible refine gate_callee (f := 63) rfl ?_); refine goesL_ (some 6) rfl rfl Try.func63 Z12 rfl #[.pointer (some ⟨g, 0, none⟩), .int .i64 1000] rfl Z1 ?_; (with_reducible refine (spec_l1Below.calls g s0_0 s0_1 s0_2 1000 t417 t418 t419 w0 _ ?side1 ?side2 A2.out).mono ?_); (case side1 => repeat (first | (with_reducible first | exact HI0.out | apply IsS82.alloc | apply IsS82.drewN | apply IsS82.drew | apply IsS82.set_1 | apply IsS82.set_2) | exact HI0.out)); (case side2 => repeat (first | (with_reducible first | exact HB.out | apply h1 | apply h2 | apply h3 | refine h4 ?_ (IsS82.ge HI0.out)) | exact HB.out)); rintro e w4 ⟨rfl, hi, hb, hk⟩; refine ⟨_, rfl, ?_⟩; have n0_ := ZA (KeepBut.trans Z3 hk (.inl rfl)); have n1_ := ZA (hb); have n2_ := ZA (hi); clear HK HB HI0; have HK := n0_; have HB := n1_; have HI0 := n2_; clear n0_ n1_ n2_; (try clear hb); (try clear hb2); (try clear hk); (try clear hi)) | ((with_reducible refine gate_callee (f := 63) rfl ?_); refine goesL_ (some 8) rfl rfl Try.func63 Z12 rfl #[.pointer (some ⟨g, 0, none⟩), .int .i64 6] rfl Z1 ?_; (with_reducible refine (spec_l1Below.calls g s0_0 t418 t419 6 t420 t421 t422 w0 _ ?side1 ?side2 A3.out).mono ?_); (case side1 => repeat (first | (with_reducible first | exact HI0.out | apply IsS82.alloc | apply IsS82.drewN | apply IsS82.drew | apply IsS82.set_1 | apply IsS82.set_2) | exact HI0.out)); (case side2 => repeat (first | (with_reducible first | exact HB.out | apply h1 | apply h2 | apply h3 | refine h4 ?_ (IsS82.ge HI0.out)) | exact HB.out)); rintro e w5 ⟨rfl, hi, hb, hk⟩; refine ⟨_, rfl, ?_⟩; have n0_ := ZA (KeepBut.trans Z3 hk (.inl rfl)); have n1_ := ZA (hb); have n2_ := ZA (hi); clear HK HB HI0; have HK := n0_; have HB := n1_; have HI0 := n2_; clear n0_ n1_ n2_; (try clear hb); (try clear hb2); (try clear hk); (try clear hi)))
 go_loopg [3, 4] k (fun kq v3 v4 w' => ∃ (x3_1 : Int) (x4_1 : Int) (x1001_1 : Int) (x1002_1 : Int), v3 = .int .i64 x3_1 ∧ v4 = .int .i64 x4_1 ∧ Aside0 (spec_l1number.l0 kq x3_1 x4_1 s0_0 x1001_1 x1002_1 = some (r1, r2, r3)) ∧ Aside0 (kq ≤ k) ∧ Aside0 (IsS82 w0 w' g s0_0 x1001_1 x1002_1) ∧ Aside0 (KeepBut w w' g none) ∧ Aside0 (Below w0.heap.size w0 w'))
 case atStart => exact ⟨(t417), (t420), (t421), (t422), Z7, Z7, H', ⟨Nat.le_refl _⟩, ⟨Z4⟩, ⟨Z13⟩, ⟨Z15⟩⟩
 case round =>
  clear H'
  try clear p2
  obtain ⟨x3_1, x4_1, x1001_1, x1002_1, rfl, rfl, HA, HK1, HI0, HK, HB⟩ := hrel
  cases gk with
  | zero => exact absurd HA.out (by simp [spec_l1number.l0])
  | succ k1 =>
   have H := HA.out
   clear HA
   simp only [spec_l1number.l0] at H
   by_cases c6 : x4_1 > 0
   ·rw [if_pos c6] at H
    have c6b0 : decide (0 < x4_1) = true := decide_eq_true c6
    clear c6
    replace H := Option.bind_eq_some_iff.mp H
    obtain ⟨⟨t423, t424, t425⟩, A70, H⟩ := H
    (try dsimp only at H)
    have A7 := ZA A70
    clear A70
    have H' := ZA H
    clear H
    go_wp2_with (first | ((with_reducible refine gate_callee (f := 73) rfl ?_); refine goesL_ (some 16) rfl rfl Try.func73 Z12 rfl #[.pointer (some ⟨g, 0, none⟩)] rfl Z1 ?_; (with_reducible refine (spec_l1Byte.calls g s0_0 x1001_1 x1002_1 t423 t424 t425 w0 _ ?side1 ?side2 A7.out).mono ?_); (case side1 => repeat (first | (with_reducible first | exact HI0.out | apply IsS82.alloc | apply IsS82.drewN | apply IsS82.drew | apply IsS82.set_1 | apply IsS82.set_2) | exact HI0.out)); (case side2 => repeat (first | (with_reducible first | exact HB.out | apply h1 | apply h2 | apply h3 | refine h4 ?_ (IsS82.ge HI0.out)) | exact HB.out)); rintro e w8 ⟨rfl, hi, hb, hk⟩; refine ⟨_, rfl, ?_⟩; have n0_ := ZA (KeepBut.trans Z3 hk (.inl rfl)); have n1_ := ZA (hb); have n2_ := ZA (hi); clear HK HB HI0; have HK := n0_; have HB := n1_; have HI0 := n2_; clear n0_ n1_ n2_; (try clear hb); (try clear hb2); (try clear hk); (try clear hi)))
    go_roundg k1
    case measure => have := HK1.out; omega
    case rel => exact ⟨(wrap64 ((wrap64 (x3_1 * 256)) + t423)), (wrap64 (x4_1 - 1)), (t424), (t425), Z7, Z7, H', ⟨by have := HK1.out; omega⟩, ⟨Z4⟩, ⟨Z13⟩, ⟨Z15⟩⟩
   ·rw [if_neg c6] at H
    have c6b0 : decide (0 < x4_1) = false := decide_eq_false c6
    clear c6
    replace H := Option.bind_eq_some_iff.mp H
    obtain ⟨⟨t426, t427, t428⟩, A90, H⟩ := H
    (try dsimp only at H)
    have A9 := ZA A90
    clear A90
    by_cases c10 : t426 = 0
    ·rw [if_pos c10] at H
     have c10b0 : (t426 == 0) = true := beq_iff_eq.mpr c10
     have c10b1 : (t426 != 0) = false := bne_eq_false_iff_eq.mpr c10
     clear c10
     simp only [Option.some.injEq, Prod.mk.injEq] at H
     obtain ⟨rfl, rfl, rfl⟩ := H
     go_wp2_with (first | ((with_reducible refine gate_callee (f := 63) rfl ?_); refine goesL_ (some 19) rfl rfl Try.func63 Z12 rfl #[.pointer (some ⟨g, 0, none⟩), .int .i64 12] rfl Z1 ?_; (with_reducible refine (spec_l1Below.calls g s0_0 x1001_1 x1002_1 12 t426 t427 t428 w0 _ ?side1 ?side2 A9.out).mono ?_); (case side1 => repeat (first | (with_reducible first | exact HI0.out | apply IsS82.alloc | apply IsS82.drewN | apply IsS82.drew | apply IsS82.set_1 | apply IsS82.set_2) | exact HI0.out)); (case side2 => repeat (first | (with_reducible first | exact HB.out | apply h1 | apply h2 | apply h3 | refine h4 ?_ (IsS82.ge HI0.out)) | exact HB.out)); rintro e w11 ⟨rfl, hi, hb, hk⟩; refine ⟨_, rfl, ?_⟩; have n0_ := ZA (KeepBut.trans Z3 hk (.inl rfl)); have n1_ := ZA (hb); have n2_ := ZA (hi); clear HK HB HI0; have HK := n0_; have HB := n1_; have HI0 := n2_; clear n0_ n1_ n2_; (try clear hb); (try clear hb2); (try clear hk); (try clear hi)))
     go_ret
     exact ⟨by first | rfl | (simp [errW_none, errW_some] <;> rfl) | (simp [*, errW_none, errW_some] <;> rfl), Z4, Z15, Z13⟩
    ·rw [if_neg c10] at H
     have c10b0 : (t426 == 0) = false := beq_eq_false_iff_ne.mpr c10
     have c10b1 : (t426 != 0) = true := bne_iff_ne.mpr c10
     by_cases c12 : t426 = 1
     ·rw [if_pos c12] at H
      have c12b0 : (t426 == 1) = true := beq_iff_eq.mpr c12
      have c12b1 : (t426 != 1) = false := bne_eq_false_iff_eq.mpr c12
      clear c12
      replace H := Option.bind_eq_some_iff.mp H
      obtain ⟨⟨t429, t430, t431⟩, A130, H⟩ := H
      (try dsimp only at H)
      have A13 := ZA A130
      clear A130
      obtain ⟨ji14, hji14⟩ : ∃ j_ : Int, (wrap64 (8 * (wrap64 (1 + t429)))) = j_ := ⟨_, rfl⟩
      replace H : (if 0 ≤ (ji14) then ((spec_l1Below.f s0_0 t430 t431 2).bind fun bt432 => (some (wrap64 ((shl .i64 1 (ji14)) - bt432.1), bt432.2.1, bt432.2.2))) else (none)) = some (r1, r2, r3) := by first | (rw [hji14] at H; exact H) | (simp only [hji14] at H ⊢; exact H)
      (try rw [hji14] at A9)
      (try rw [hji14] at A13)
      have hji14w : (IntKind.i64.wrap (8 * (wrap64 (1 + t429)))) = ji14 := (i64_w _).trans hji14
      by_cases c15 : 0 ≤ (ji14)
      ·rw [if_pos c15] at H
       have c15b0 := eq_true c15
       have c15b1 : decide (0 ≤ (ji14)) = true := decide_eq_true c15
       clear c15
       obtain ⟨ji16, hji16⟩ : ∃ j_ : Int, (shl .i64 1 (ji14)) = j_ := ⟨_, rfl⟩
       replace H : ((spec_l1Below.f s0_0 t430 t431 2).bind fun bt432 => (some (wrap64 ((ji16) - bt432.1), bt432.2.1, bt432.2.2))) = some (r1, r2, r3) := by first | (rw [hji16] at H; exact H) | (simp only [hji16] at H ⊢; exact H)
       (try rw [hji16] at A9)
       (try rw [hji16] at A13)
       have hji16_ : (IntKind.i64.wrap (1 * 2 ^ min (ji14).toNat 64)) = ji16 := hji16
       have hji16z : (ji14) ≤ 64 → (IntKind.i64.wrap (1 * 2 ^ (ji14).toNat)) = ji16 := shl_small hji16
       have hji16u : (IntKind.i64.wrap (2 ^ min (ji14).toNat 64)) = ji16 := by have h_ := hji16_; rw [Int.one_mul] at h_; exact h_
       have hji16v : (ji14) ≤ 64 → (IntKind.i64.wrap (2 ^ (ji14).toNat)) = ji16 := fun hle_ => by have h_ := hji16z hle_; rw [Int.one_mul] at h_; exact h_
       have hji16y : (wrap64 (1 * 2 ^ min (ji14).toNat 64)) = ji16 := (i64_w _).symm.trans hji16_
       have hji16x : (ji14) ≤ 64 → (wrap64 (1 * 2 ^ (ji14).toNat)) = ji16 := fun h_ => (i64_w _).symm.trans (hji16z h_)
       replace H := Option.bind_eq_some_iff.mp H
       obtain ⟨⟨t432, t433, t434⟩, A170, H⟩ := H
       (try dsimp only at H)
       have A17 := ZA A170
       clear A170
       simp only [Option.some.injEq, Prod.mk.injEq] at H
       obtain ⟨rfl, rfl, rfl⟩ := H
       try go_wp2_with (first | ((with_reducible refine gate_callee (f := 63) rfl ?_); refine goesL_ (some 19) rfl rfl Try.func63 Z12 rfl #[.pointer (some ⟨g, 0, none⟩), .int .i64 12] rfl Z1 ?_; (with_reducible refine (spec_l1Below.calls g s0_0 x1001_1 x1002_1 12 t426 t427 t428 w0 _ ?side1 ?side2 A9.out).mono ?_); (case side1 => repeat (first | (with_reducible first | exact HI0.out | apply IsS82.alloc | apply IsS82.drewN | apply IsS82.drew | apply IsS82.set_1 | apply IsS82.set_2) | exact HI0.out)); (case side2 => repeat (first | (with_reducible first | exact HB.out | apply h1 | apply h2 | apply h3 | refine h4 ?_ (IsS82.ge HI0.out)) | exact HB.out)); rintro e w18 ⟨rfl, hi, hb, hk⟩; refine ⟨_, rfl, ?_⟩; have n0_ := ZA (KeepBut.trans Z3 hk (.inl rfl)); have n1_ := ZA (hb); have n2_ := ZA (hi); clear HK HB HI0; have HK := n0_; have HB := n1_; have HI0 := n2_; clear n0_ n1_ n2_; (try clear hb); (try clear hb2); (try clear hk); (try clear hi)))
       have n0_ := ZA (IsS82.drew HI0.out)
       have n1_ := ZA (keep_drew HK.out)
       have n2_ := ZA (below_drew1 HB.out)
       clear HI0
       clear HK
       clear HB
       have HI0 := n0_
       have HK := n1_
       have HB := n2_
       clear n0_ n1_ n2_
       refine start_ (n := 9) (S := fun w' => True) (ds := []) #[false, false, false, false, false, false, false, false, false] Z12 rfl rfl trivial (fun hHeld => ?_); refine with_tabW spec_l1number.tab10 spec_l1number.bits10 (fun HT_ HW_ => ?_)
       generalize w18.drew = w19 at HI0 HK HB hHeld ⊢
       refine pure_ (i := 0) (N := some 26) (v := ?_) (a' := ?_) #[true, false, false, false, false, false, false, false, false] rfl rfl (any_of HT_.out Z12) (fun _ _ _ h => h) (Or.inl ⟨by rfl, ?_⟩) ?_ ?_
       rotate_left
       ·intro w'
        go_simp
        with_reducible rfl
       rotate_left
       ·simp only [Act.put, List.setIfInBounds_toArray, List.set_cons_zero, List.set_cons_succ, i64_w, i32_w]
        rfl
       refine pure_ (i := 5) (N := some 31) (v := ?_) (a' := ?_) #[true, false, false, false, false, true, false, false, false] rfl rfl (any_of HT_.out Z12) (fun _ _ _ h => h) (Or.inl ⟨by rfl, ?_⟩) ?_ ?_
       rotate_left
       ·intro w'
        go_simp
        with_reducible rfl
       rotate_left
       ·simp only [Act.put, List.setIfInBounds_toArray, List.set_cons_zero, List.set_cons_succ, i64_w, i32_w]
        rfl
       refine one_ (i := 1) (N := some 27) #[true, true, false, false, false, true, false, false, false] rfl rfl (one_of HT_.out Z12) Z25 (fun K hK => ?_)
       refine goes_ Try.func63 Z12 rfl #[.pointer (some ⟨g, 0, none⟩), .int .i64 7] Z94 rfl rfl Z1 ?_
       with_reducible refine (spec_l1Below.calls g s0_0 t427 t428 7 t429 t430 t431 w0 _ ?side1 ?side2 A13.out).mono ?_
       (case side1 => repeat (first | (with_reducible first | exact HI0.out | apply IsS82.alloc | apply IsS82.drewN | apply IsS82.drew | apply IsS82.set_1 | apply IsS82.set_2) | exact HI0.out))
       (case side2 => repeat (first | (with_reducible first | exact HB.out | apply h1 | apply h2 | apply h3 | refine h4 ?_ (IsS82.ge HI0.out)) | exact HB.out))
       rintro e w20 ⟨rfl, hi, hb, hk⟩
       refine ⟨_, rfl, ?_⟩
       have n0_ := ZA (KeepBut.trans Z3 hk (.inl rfl))
       have n1_ := ZA (hb)
       have n2_ := ZA (hi)
       clear HK
       clear HB
       clear HI0
       have HK := n0_
       have HB := n1_
       have HI0 := n2_
       clear n0_ n1_ n2_
       (try clear hb)
       (try clear hb2)
       (try clear hk)
       (try clear hi)
       refine hK.out _ _ trivial (fun hHeld => ?_)
       clear hK K
       refine norm_ (a' := ?_) ?_ ?_
       rotate_left
       ·show Act.put _ (some 27) _ = _
        simp only [Act.put, List.setIfInBounds_toArray, List.set_cons_zero, List.set_cons_succ, i64_w, i32_w]
        rfl
       refine pure_ (i := 2) (N := some 28) (v := ?_) (a' := ?_) #[true, true, true, false, false, true, false, false, false] rfl rfl (any_of HT_.out Z12) (fun _ _ _ h => h) (Or.inl ⟨by rfl, ?_⟩) ?_ ?_
       rotate_left
       ·intro w'
        go_simp
        with_reducible rfl
       rotate_left
       ·simp only [Act.put, List.setIfInBounds_toArray, List.set_cons_zero, List.set_cons_succ, i64_w, i32_w]
        rfl
       refine pure_ (i := 3) (N := some 29) (v := ?_) (a' := ?_) #[true, true, true, true, false, true, false, false, false] rfl rfl (any_of HT_.out Z12) (fun _ _ _ h => h) (Or.inl ⟨by rfl, ?_⟩) ?_ ?_
       rotate_left
       ·intro w'
        go_simp
        with_reducible rfl
       rotate_left
       ·simp only [Act.put, List.setIfInBounds_toArray, List.set_cons_zero, List.set_cons_succ, i64_w, i32_w]
        rfl
       refine pure_ (i := 4) (N := some 30) (v := ?_) (a' := ?_) #[true, true, true, true, true, true, false, false, false] rfl rfl (any_of HT_.out Z12) (fun _ _ _ h => h) (Or.inl ⟨by rfl, ?_⟩) ?_ ?_
       rotate_left
       ·intro w'
        go_simp
        with_reducible rfl
       rotate_left
       ·simp only [Act.put, List.setIfInBounds_toArray, List.set_cons_zero, List.set_cons_succ, i64_w, i32_w]
        rfl
       refine one_ (i := 6) (N := some 32) #[true, true, true, true, true, true, true, false, false] rfl rfl (one_of HT_.out Z12) Z25 (fun K hK => ?_)
       refine goes_ Try.func63 Z12 rfl #[.pointer (some ⟨g, 0, none⟩), .int .i64 2] Z94 rfl rfl Z1 ?_
       with_reducible refine (spec_l1Below.calls g s0_0 t430 t431 2 t432 t433 t434 w0 _ ?side1 ?side2 A17.out).mono ?_
       (case side1 => repeat (first | (with_reducible first | exact HI0.out | apply IsS82.alloc | apply IsS82.drewN | apply IsS82.drew | apply IsS82.set_1 | apply IsS82.set_2) | exact HI0.out))
       (case side2 => repeat (first | (with_reducible first | exact HB.out | apply h1 | apply h2 | apply h3 | refine h4 ?_ (IsS82.ge HI0.out)) | exact HB.out))
       rintro e w21 ⟨rfl, hi, hb, hk⟩
       refine ⟨_, rfl, ?_⟩
       have n0_ := ZA (KeepBut.trans Z3 hk (.inl rfl))
       have n1_ := ZA (hb)
       have n2_ := ZA (hi)
       clear HK
       clear HB
       clear HI0
       have HK := n0_
       have HB := n1_
       have HI0 := n2_
       clear n0_ n1_ n2_
       (try clear hb)
       (try clear hb2)
       (try clear hk)
       (try clear hi)
       refine hK.out _ _ trivial (fun hHeld => ?_)
       clear hK K
       refine norm_ (a' := ?_) ?_ ?_
       rotate_left
       ·show Act.put _ (some 32) _ = _
        simp only [Act.put, List.setIfInBounds_toArray, List.set_cons_zero, List.set_cons_succ, i64_w, i32_w]
        rfl
       refine pure_ (i := 7) (N := some 33) (v := ?_) (a' := ?_) #[true, true, true, true, true, true, true, true, false] rfl rfl (any_of HT_.out Z12) (fun _ _ _ h => h) (Or.inl ⟨by rfl, ?_⟩) ?_ ?_
       rotate_left
       ·intro w'
        go_simp
        with_reducible rfl
       rotate_left
       ·simp only [Act.put, List.setIfInBounds_toArray, List.set_cons_zero, List.set_cons_succ, i64_w, i32_w]
        rfl
       refine pure_ (i := 8) (N := some 2) (v := ?_) (a' := ?_) #[true, true, true, true, true, true, true, true, true] rfl rfl (any_of HT_.out Z12) (fun _ _ _ h => h) (Or.inl ⟨by rfl, ?_⟩) ?_ ?_
       rotate_left
       ·intro w'
        go_simp
        with_reducible rfl
       rotate_left
       ·simp only [Act.put, List.setIfInBounds_toArray, List.set_cons_zero, List.set_cons_succ, i64_w, i32_w]
        rfl
       refine done_ (done_of HT_.out Z12) ?_
       try go_wp2
       go_ret
       exact ⟨by first | rfl | (simp [errW_none, errW_some] <;> rfl) | (simp only [← hji14, ← hji16]; first | rfl | (simp [errW_none, errW_some] <;> rfl)) | (simp [*, errW_none, errW_some] <;> rfl), Z4, Z15, Z13⟩
      ·rw [if_neg c15] at H
       exact absurd H Z44
     ·rw [if_neg c12] at H
      have c12b0 : (t426 == 1) = false := beq_eq_false_iff_ne.mpr c12
      have c12b1 : (t426 != 1) = true := bne_iff_ne.mpr c12
      repeat (first | ((fail_if_success (with_reducible refine gate_callee (f := 63) rfl ?_)); first | go_values | go_skip | go_guarded | go_step | go_upon | go_back | (simp only [Int.not_lt, Int.not_le] at *; go_simp)))
      (with_reducible refine gate_callee (f := 63) rfl ?_); refine goesL_ (some 19) rfl rfl Try.func63 Z12 rfl #[.pointer (some ⟨g, 0, none⟩), .int .i64 12] rfl Z1 ?_; (with_reducible refine (spec_l1Below.calls g s0_0 x1001_1 x1002_1 12 t426 t427 t428 w0 _ ?side1 ?side2 A9.out).mono ?_); (case side1 => repeat (first | (with_reducible first | exact HI0.out | apply IsS82.alloc | apply IsS82.drewN | apply IsS82.drew | apply IsS82.set_1 | apply IsS82.set_2) | exact HI0.out)); (case side2 => repeat (first | (with_reducible first | exact HB.out | apply h1 | apply h2 | apply h3 | refine h4 ?_ (IsS82.ge HI0.out)) | exact HB.out)); rintro e w23 ⟨rfl, hi, hb, hk⟩; refine ⟨_, rfl, ?_⟩; have n0_ := ZA (KeepBut.trans Z3 hk (.inl rfl)); have n1_ := ZA (hb); have n2_ := ZA (hi); clear HK HB HI0; have HK := n0_; have HB := n1_; have HI0 := n2_; clear n0_ n1_ n2_; (try clear hb); (try clear hb2); (try clear hk); (try clear hi)
      by_cases c22 : t426 = 2
      ·rw [if_pos c22] at H
       have c22b0 : (t426 == 2) = true := beq_iff_eq.mpr c22
       have c22b1 : (t426 != 2) = false := bne_eq_false_iff_eq.mpr c22
       (try simp only [c22b0, c22b1, Bool.not_true, Bool.not_false])
       clear c22
       simp only [Option.some.injEq, Prod.mk.injEq] at H
       obtain ⟨rfl, rfl, rfl⟩ := H
       try go_wp2
       go_ret
       exact ⟨by first | rfl | (simp [errW_none, errW_some] <;> rfl) | (simp [*, errW_none, errW_some] <;> rfl), Z4, Z15, Z13⟩
      ·rw [if_neg c22] at H
       have c22b0 : (t426 == 2) = false := beq_eq_false_iff_ne.mpr c22
       have c22b1 : (t426 != 2) = true := bne_iff_ne.mpr c22
       (try simp only [c22b0, c22b1, Bool.not_true, Bool.not_false])
       by_cases c24 : t426 = 3
       ·rw [if_pos c24] at H
        have c24b0 : (t426 == 3) = true := beq_iff_eq.mpr c24
        have c24b1 : (t426 != 3) = false := bne_eq_false_iff_eq.mpr c24
        (try simp only [c24b0, c24b1, Bool.not_true, Bool.not_false])
        clear c24
        simp only [Option.some.injEq, Prod.mk.injEq] at H
        obtain ⟨rfl, rfl, rfl⟩ := H
        try go_wp2
        go_ret
        exact ⟨by first | rfl | (simp [errW_none, errW_some] <;> rfl) | (simp [*, errW_none, errW_some] <;> rfl), Z4, Z15, Z13⟩
       ·rw [if_neg c24] at H
        have c24b0 : (t426 == 3) = false := beq_eq_false_iff_ne.mpr c24
        have c24b1 : (t426 != 3) = true := bne_iff_ne.mpr c24
        (try simp only [c24b0, c24b1, Bool.not_true, Bool.not_false])
        simp only [Option.some.injEq, Prod.mk.injEq] at H
        obtain ⟨rfl, rfl, rfl⟩ := H
        try go_wp2
        go_ret
        exact ⟨by first | rfl | (simp [errW_none, errW_some] <;> rfl) | (simp [*, errW_none, errW_some] <;> rfl), Z4, Z15, Z13⟩
def spec_l3value.f (k : Nat) (s0_0 : List Int) (s0_1 : Int) (s0_2 : Int) : Option (Int × Int × Nat × List Int × Int × Int) := (spec_l1Below.f s0_0 s0_1 s0_2 5).bind fun bt436 => (if bt436.1 = 0 then ((spec_l1some.f k s0_0 bt436.2.1 bt436.2.2 8).bind fun bt439 => (some (3, 0, 0, bt439.1, bt439.2.1, bt439.2.2))) else (if bt436.1 = 1 then ((spec_l2float.f k s0_0 bt436.2.1 bt436.2.2).bind fun bt444 => (some (2, 0, bt444.1, ([] : List Int), bt444.2.1, bt444.2.2))) else (if bt436.1 = 2 then ((spec_l1Below.f s0_0 bt436.2.1 bt436.2.2 64).bind fun bt447 => (if (fok .quo (fofi (wrap64 (bt447.1 - 32))) 4616189618054758400) = true then (some (2, 0, cn (fval .quo (fofi (wrap64 (bt447.1 - 32))) 4616189618054758400), ([] : List Int), bt447.2.1, bt447.2.2)) else (none))) else (if bt436.1 = 3 then ((spec_l1Once.f s0_0 bt436.2.1 bt436.2.2 5).bind fun bt450 => (if bt450.1 = true then ((spec_l1some.f k s0_0 bt450.2.1 bt450.2.2 40).bind fun bt453 => (some (3, 0, 0, bt453.1, bt453.2.1, bt453.2.2))) else ((spec_l1number.f k s0_0 bt450.2.1 bt450.2.2).bind fun bt458 => (some (1, bt458.1, 0, ([] : List Int), bt458.2.1, bt458.2.2))))) else ((spec_l1number.f k s0_0 bt436.2.1 bt436.2.2).bind fun bt461 => (some (1, bt461.1, 0, ([] : List Int), bt461.2.1, bt461.2.2)))))))
theorem spec_l3value.mono : ∀ a0 a1 a2 k, LeO (spec_l3value.f k a0 a1 a2) (spec_l3value.f (k + 1) a0 a1 a2) := by
 intro a0 a1 a2 k
 unfold spec_l3value.f
 repeat' with_reducible first | exact spec_l1number.mono _ _ _ _ | exact spec_l1some.mono _ _ _ _ _ | exact spec_l2float.mono _ _ _ _ | exact LeO.refl _ | exact LeO.none _ | refine LeO.ite ?_ ?_ | refine LeO.bind ?_ (fun _ => ?_)
set_option maxHeartbeats 8000000 in
set_option maxRecDepth 100000 in
theorem spec_l3value.callsC (k : Nat) (g : Nat) (s0_0 : List Int) (s0_1 : Int) (s0_2 : Int) (r1 : Int) (r2 : Int) (r3 : Nat) (r4 : List Int) (r5 : Int) (r6 : Int) (w0 w : World) (hI : IsS82 w0 w g s0_0 s0_1 s0_2) (hB : Below w0.heap.size w0 w) (h : spec_l3value.f k s0_0 s0_1 s0_2 = some (r1, r2, r3, r4, r5, r6)) :
  Calls Try.prog 72 #[.pointer (some ⟨g, 0, none⟩)] w fun e w' => ∃ b1_ : Nat, ∃ v3_ : Value, e = .returned (.agg #[.int .i64 r1, .int .i64 r2, .float .f64 b1_, v3_]) ∧ Kd.R (Kd.int .u8) 5 w' w.heap.size (fun _ => True) v3_ r4 ∧ IsS82 w0 w' g s0_0 r5 r6 ∧ Below w0.heap.size w0 w' ∧ KeepBut w w' g none ∧ Aside0 (cn b1_ = r3 ∧ b1_ < 2 ^ 64) := by
 have hu72 := Try.underlying72
 have HI0 := ZA hI
 have HK := ZA (KeepBut.refl w g none)
 have HL := ZA hB.size
 clear hI
 have HW0 := ZA hB.size
 have HB := ZA hB
 clear hB
 have H := h
 clear h
 unfold spec_l3value.f at H
 replace H := Option.bind_eq_some_iff.mp H
 obtain ⟨⟨t436, t437, t438⟩, A20, H⟩ := H
 (try dsimp only at H)
 have A2 := ZA A20
 clear A20
 go_enter Try.func72, Try.ntmps72
 repeat (first | ((with_reducible refine gate_dst (N := 2) rfl ?_); refine box_event ?hg (N := 2) ?hd (cs := #[.int .i64 0, .int .i64 0, .float .f64 0, .slice none 0 0]) (t := 72) ?hr ?_; (case hd => rfl); (case hg => rfl); (case hr => first | (go_simp; done) | (go_simp; rfl)); intro gb435 hg w5 hbox hb; have n0_ := ZA (IsS82.below (Z4) hb); have n1_ := ZA (KeepBut.trans Z3 (KeepBut.of_below hb g none) (.inl rfl)); have n2_ := ZA (below_step (Z15) hb); have n3_ := ZA (hbox); have n4_ := Geq.mk ((Z61 : w.heap.size ≤ gb435)); have n5_ := ZA ((Nat.le_trans HW0.out (Z61 : w.heap.size ≤ gb435) : w0.heap.size ≤ gb435)); have n6_ := ZA ((Z88 : g ≠ gb435)); have n7_ := ZA ((Z89 : gb435 ≠ g)); clear HI0 HK HB; have HI0 := n0_; have HK := n1_; have HB := n2_; have BK435 := n3_; have GW435 := n4_; have GE435 := n5_; have NB0_435 := n6_; have NB435_0 := n7_; clear n0_ n1_ n2_ n3_ n4_ n5_ n6_ n7_ hb hbox hg) | ((fail_if_success (with_reducible refine gate_callee (f := 63) rfl ?_)); first | go_values | go_skip | go_guarded | go_step | go_upon | go_back | (simp only [Int.not_lt, Int.not_le] at *; go_simp)))
 (with_reducible refine gate_callee (f := 63) rfl ?_); refine goesL_ (some 4) rfl rfl Try.func63 Z12 rfl #[.pointer (some ⟨g, 0, none⟩), .int .i64 5] rfl Z1 ?_; (with_reducible refine (spec_l1Below.calls g s0_0 s0_1 s0_2 5 t436 t437 t438 w0 _ ?side1 ?side2 A2.out).mono ?_); (case side1 => repeat (first | (with_reducible first | exact HI0.out | apply IsS82.alloc | apply IsS82.drewN | apply IsS82.drew | apply IsS82.set_1 | apply IsS82.set_2 | refine IsS82.far ?_ NB0_435.out _) | exact HI0.out)); (case side2 => repeat (first | (with_reducible first | exact HB.out | apply h1 | apply h2 | apply h3 | refine h4 ?_ (IsS82.ge HI0.out) | refine h4 ?_ GE435.out) | exact HB.out)); rintro e w6 ⟨rfl, hi, hb, hk⟩; refine ⟨_, rfl, ?_⟩; have n0_ := ZA (KeepBut.blk hk (g' := gb435) (o := .cells #[.int .i64 0, .int .i64 0, .float .f64 0, .slice none 0 0] 72 (0, 0)) (bup BK435.out) NB435_0.out Z44); have n1_ := ZA (KeepBut.trans Z32 hk (.inl rfl)); have n2_ := ZA (hb); have n3_ := ZA (hi); clear BK435 HK HB HI0; have BK435 := n0_; have HK := n1_; have HB := n2_; have HI0 := n3_; clear n0_ n1_ n2_ n3_; (try clear hb); (try clear hb2); (try clear hk); (try clear hi)
 by_cases c3 : t436 = 0
 ·rw [if_pos c3] at H
  have c3b0 : (t436 == 0) = true := beq_iff_eq.mpr c3
  have c3b1 : (t436 != 0) = false := bne_eq_false_iff_eq.mpr c3
  (try simp only [c3b0, c3b1, Bool.not_true, Bool.not_false])
  clear c3
  replace H := Option.bind_eq_some_iff.mp H
  obtain ⟨⟨t439, t442, t443⟩, A40, H⟩ := H
  (try dsimp only at H)
  have A4 := ZA A40
  clear A40
  simp only [Option.some.injEq, Prod.mk.injEq] at H
  obtain ⟨rfl, rfl, rfl, rfl, rfl, rfl⟩ := H
  try go_wp2_with (first | ((with_reducible refine gate_callee (f := 67) rfl ?_); refine goesL_ (some 8) rfl rfl Try.func67 Z12 rfl #[.pointer (some ⟨g, 0, none⟩), .int .i64 8] rfl Z1 ?_; (with_reducible refine (spec_l1some.calls k g s0_0 t437 t438 8 t439 t442 t443 w0 _ ?side1 ?side2 A4.out).mono ?_); (case side1 => repeat (first | (with_reducible first | exact HI0.out | apply IsS82.alloc | apply IsS82.drewN | apply IsS82.drew | apply IsS82.set_1 | apply IsS82.set_2 | refine IsS82.far ?_ NB0_435.out _) | exact HI0.out)); (case side2 => repeat (first | (with_reducible first | exact HB.out | apply h1 | apply h2 | apply h3 | refine h4 ?_ (IsS82.ge HI0.out) | refine h4 ?_ GE435.out) | exact HB.out)); rintro e w7 ⟨v440, rfl, ho0, hi, hb, hk⟩; refine ⟨_, rfl, ?_⟩; have n0_ := ZA (KeepBut.blk hk (g' := gb435) (o := .cells #[.int .i64 0, .int .i64 0, .float .f64 0, .slice none 0 0] 72 (0, 0)) (bup BK435.out) NB435_0.out Z44); have n1_ := ZA (Kd.R_lower ho0 (keep_size (w := w) (g := g) (row := none) Z32)); have n2_ := ZA (KeepBut.trans Z32 hk (.inl rfl)); have n3_ := ZA (hb); have n4_ := ZA (hi); clear BK435 HK HB HI0; have BK435 := n0_; have HO441 := n1_; have HK := n2_; have HB := n3_; have HI0 := n4_; clear n0_ n1_ n2_ n3_ n4_; (try clear hb); (try clear hb2); (try clear hk); (try clear hi); (try clear ho0); obtain ⟨Ao8, co8, eo8⟩ := Kd.R_slice HO441.out; subst eo8; have hnb9 := NB435_0.out; have hnc9 := NB0_435.out; obtain ⟨hcz10_0, hcz10_1, hcz10_2, hcz10_3⟩ := blk_cells4 BK435.out; obtain ⟨hfz10_0, hfz10_1, hfz10_2, hfz10_3⟩ := blk_frozens4 BK435.out))
  refine bodyPost_ret (results_cell_row rfl _ _ gb435 72 #[.int .i64 3, .int .i64 0, .float .f64 0, .slice Ao8 t439.length co8] (0, 0) _ rfl (bput BK435.out) Try.underlying72 rfl Z12) rfl ?_
  exact ⟨_, _, by first | rfl | (simp [errW_none, errW_some] <;> rfl) | (simp [*, errW_none, errW_some] <;> rfl), by exact Kd.rup (Kd.R_mono (Kd.R_far (p := ⟨gb435, 3, none⟩) (Kd.R_far (p := ⟨gb435, 2, none⟩) (Kd.R_far (p := ⟨gb435, 1, none⟩) (Kd.R_far (p := ⟨gb435, 0, none⟩) (Kd.R_types HO441.out BK435.out Z25) (fun _ hk => hk.2) (.int .i64 3)) (fun _ hk => hk.2) (.int .i64 0)) (fun _ hk => hk.2) (.float .f64 0)) (fun _ hk => hk.2) (.slice Ao8 t439.length co8)) (fun _ hk => trivial)), Z48, Z54, Z51, Z52⟩
 ·rw [if_neg c3] at H
  have c3b0 : (t436 == 0) = false := beq_eq_false_iff_ne.mpr c3
  have c3b1 : (t436 != 0) = true := bne_iff_ne.mpr c3
  (try simp only [c3b0, c3b1, Bool.not_true, Bool.not_false])
  by_cases c11 : t436 = 1
  ·rw [if_pos c11] at H
   have c11b0 : (t436 == 1) = true := beq_iff_eq.mpr c11
   have c11b1 : (t436 != 1) = false := bne_eq_false_iff_eq.mpr c11
   (try simp only [c11b0, c11b1, Bool.not_true, Bool.not_false])
   clear c11
   replace H := Option.bind_eq_some_iff.mp H
   obtain ⟨⟨t444, t445, t446⟩, A120, H⟩ := H
   (try dsimp only at H)
   have A12 := ZA A120
   clear A120
   simp only [Option.some.injEq, Prod.mk.injEq] at H
   obtain ⟨rfl, rfl, rfl, rfl, rfl, rfl⟩ := H
   try go_wp2_with (first | ((with_reducible refine gate_callee (f := 80) rfl ?_); refine goesL_ (some 13) rfl rfl Try.func80 Z12 rfl #[.pointer (some ⟨g, 0, none⟩)] rfl Z1 ?_; (with_reducible refine (spec_l2float.callsC k g s0_0 t437 t438 t444 t445 t446 w0 _ ?side1 ?side2 A12.out).mono ?_); (case side1 => repeat (first | (with_reducible first | exact HI0.out | apply IsS82.alloc | apply IsS82.drewN | apply IsS82.drew | apply IsS82.set_1 | apply IsS82.set_2 | refine IsS82.far ?_ NB0_435.out _) | exact HI0.out)); (case side2 => repeat (first | (with_reducible first | exact HB.out | apply h1 | apply h2 | apply h3 | refine h4 ?_ (IsS82.ge HI0.out) | refine h4 ?_ GE435.out) | exact HB.out)); rintro e w15 ⟨b444, rfl, hi, hb, hk, ⟨⟨hcnb444, hltb444⟩⟩⟩; refine ⟨_, rfl, ?_⟩; have LTb444 := ZA hltb444; clear hltb444; subst hcnb444; have n0_ := ZA (KeepBut.blk hk (g' := gb435) (o := .cells #[.int .i64 0, .int .i64 0, .float .f64 0, .slice none 0 0] 72 (0, 0)) (bup BK435.out) NB435_0.out Z44); have n1_ := ZA (KeepBut.trans Z32 hk (.inl rfl)); have n2_ := ZA (hb); have n3_ := ZA (hi); clear BK435 HK HB HI0; have BK435 := n0_; have HK := n1_; have HB := n2_; have HI0 := n3_; clear n0_ n1_ n2_ n3_; (try clear hb); (try clear hb2); (try clear hk); (try clear hi); have hnb16 := NB435_0.out; have hnc16 := NB0_435.out; obtain ⟨hcz17_0, hcz17_1, hcz17_2, hcz17_3⟩ := blk_cells4 BK435.out; obtain ⟨hfz17_0, hfz17_1, hfz17_2, hfz17_3⟩ := blk_frozens4 BK435.out))
   refine bodyPost_ret (results_cell_row rfl _ _ gb435 72 #[.int .i64 2, .int .i64 0, .float .f64 b444, .slice none 0 0] (0, 0) _ rfl (bput BK435.out) Try.underlying72 rfl Z12) rfl ?_
   exact ⟨_, _, by first | rfl | (simp [errW_none, errW_some] <;> rfl) | (simp [*, errW_none, errW_some] <;> rfl), by first | exact Kd.R_nil _ _ _ _ _ | exact Kd.N_nil _ _ _ _ _ | exact Kd.V_nil _ _ _ _ _ | exact Kd.Q_nil _ _ _ _ _ | exact Kd.S_nil _ _ _ _ _, Z48, Z54, Z51, (by first | exact ⟨⟨rfl, LTb444.out⟩⟩ | exact ⟨⟨by first | rfl | decide, by decide⟩⟩ | exact ⟨⟨rfl, fquo_lt (by assumption)⟩⟩)⟩
  ·rw [if_neg c11] at H
   have c11b0 : (t436 == 1) = false := beq_eq_false_iff_ne.mpr c11
   have c11b1 : (t436 != 1) = true := bne_iff_ne.mpr c11
   (try simp only [c11b0, c11b1, Bool.not_true, Bool.not_false])
   by_cases c18 : t436 = 2
   ·rw [if_pos c18] at H
    have c18b0 : (t436 == 2) = true := beq_iff_eq.mpr c18
    have c18b1 : (t436 != 2) = false := bne_eq_false_iff_eq.mpr c18
    (try simp only [c18b0, c18b1, Bool.not_true, Bool.not_false])
    clear c18
    replace H := Option.bind_eq_some_iff.mp H
    obtain ⟨⟨t447, t448, t449⟩, A190, H⟩ := H
    (try dsimp only at H)
    have A19 := ZA A190
    clear A190
    by_cases c20 : (fok .quo (fofi (wrap64 (t447 - 32))) 4616189618054758400) = true
    ·rw [if_pos c20] at H
     have c20b0 : (fok .quo (fofi (wrap64 (t447 - 32))) 4616189618054758400) = true := c20
     (try simp only [c20b0, Bool.not_true, Bool.not_false])
     clear c20
     simp only [Option.some.injEq, Prod.mk.injEq] at H
     obtain ⟨rfl, rfl, rfl, rfl, rfl, rfl⟩ := H
     try go_wp2_with (first | ((with_reducible refine gate_callee (f := 63) rfl ?_); refine goesL_ (some 18) rfl rfl Try.func63 Z12 rfl #[.pointer (some ⟨g, 0, none⟩), .int .i64 64] rfl Z1 ?_; (with_reducible refine (spec_l1Below.calls g s0_0 t437 t438 64 t447 t448 t449 w0 _ ?side1 ?side2 A19.out).mono ?_); (case side1 => repeat (first | (with_reducible first | exact HI0.out | apply IsS82.alloc | apply IsS82.drewN | apply IsS82.drew | apply IsS82.set_1 | apply IsS82.set_2 | refine IsS82.far ?_ NB0_435.out _) | exact HI0.out)); (case side2 => repeat (first | (with_reducible first | exact HB.out | apply h1 | apply h2 | apply h3 | refine h4 ?_ (IsS82.ge HI0.out) | refine h4 ?_ GE435.out) | exact HB.out)); rintro e w23 ⟨rfl, hi, hb, hk⟩; refine ⟨_, rfl, ?_⟩; have n0_ := ZA (KeepBut.blk hk (g' := gb435) (o := .cells #[.int .i64 0, .int .i64 0, .float .f64 0, .slice none 0 0] 72 (0, 0)) (bup BK435.out) NB435_0.out Z44); have n1_ := ZA (KeepBut.trans Z32 hk (.inl rfl)); have n2_ := ZA (hb); have n3_ := ZA (hi); clear BK435 HK HB HI0; have BK435 := n0_; have HK := n1_; have HB := n2_; have HI0 := n3_; clear n0_ n1_ n2_ n3_; (try clear hb); (try clear hb2); (try clear hk); (try clear hi); have hnb24 := NB435_0.out; have hnc24 := NB0_435.out; obtain ⟨hcz25_0, hcz25_1, hcz25_2, hcz25_3⟩ := blk_cells4 BK435.out; obtain ⟨hfz25_0, hfz25_1, hfz25_2, hfz25_3⟩ := blk_frozens4 BK435.out))
     refine bodyPost_ret (results_cell_row rfl _ _ gb435 72 #[.int .i64 2, .int .i64 0, .float .f64 (fval .quo (fofi (wrap64 (t447 - 32))) 4616189618054758400), .slice none 0 0] (0, 0) _ rfl (bput BK435.out) Try.underlying72 rfl Z12) rfl ?_
     exact ⟨_, _, by first | rfl | (simp [errW_none, errW_some] <;> rfl) | (simp [*, errW_none, errW_some] <;> rfl), by first | exact Kd.R_nil _ _ _ _ _ | exact Kd.N_nil _ _ _ _ _ | exact Kd.V_nil _ _ _ _ _ | exact Kd.Q_nil _ _ _ _ _ | exact Kd.S_nil _ _ _ _ _, Z48, Z54, Z51, Z52⟩
    ·rw [if_neg c20] at H
     exact absurd H Z44
   ·rw [if_neg c18] at H
    have c18b0 : (t436 == 2) = false := beq_eq_false_iff_ne.mpr c18
    have c18b1 : (t436 != 2) = true := bne_iff_ne.mpr c18
    (try simp only [c18b0, c18b1, Bool.not_true, Bool.not_false])
    by_cases c26 : t436 = 3
    ·rw [if_pos c26] at H
     have c26b0 : (t436 == 3) = true := beq_iff_eq.mpr c26
     have c26b1 : (t436 != 3) = false := bne_eq_false_iff_eq.mpr c26
     (try simp only [c26b0, c26b1, Bool.not_true, Bool.not_false])
     clear c26
     replace H := Option.bind_eq_some_iff.mp H
     obtain ⟨⟨t450, t451, t452⟩, A270, H⟩ := H
     (try dsimp only at H)
     have A27 := ZA A270
     clear A270
     repeat (first | ((fail_if_success (with_reducible refine gate_callee (f := 59) rfl ?_)); first | go_values | go_skip | go_guarded | go_step | go_upon | go_back | (simp only [Int.not_lt, Int.not_le] at *; go_simp)))
     (with_reducible refine gate_callee (f := 59) rfl ?_); refine goesL_ (some 26) rfl rfl Try.func59 Z12 rfl #[.pointer (some ⟨g, 0, none⟩), .int .i64 5] rfl Z1 ?_; (with_reducible refine (spec_l1Once.calls g s0_0 t437 t438 5 t450 t451 t452 w0 _ ?side1 ?side2 A27.out).mono ?_); (case side1 => repeat (first | (with_reducible first | exact HI0.out | apply IsS82.alloc | apply IsS82.drewN | apply IsS82.drew | apply IsS82.set_1 | apply IsS82.set_2 | refine IsS82.far ?_ NB0_435.out _) | exact HI0.out)); (case side2 => repeat (first | (with_reducible first | exact HB.out | apply h1 | apply h2 | apply h3 | refine h4 ?_ (IsS82.ge HI0.out) | refine h4 ?_ GE435.out) | exact HB.out)); rintro e w32 ⟨rfl, hi, hb, hk⟩; refine ⟨_, rfl, ?_⟩; have n0_ := ZA (KeepBut.blk hk (g' := gb435) (o := .cells #[.int .i64 0, .int .i64 0, .float .f64 0, .slice none 0 0] 72 (0, 0)) (bup BK435.out) NB435_0.out Z44); have n1_ := ZA (KeepBut.trans Z32 hk (.inl rfl)); have n2_ := ZA (hb); have n3_ := ZA (hi); clear BK435 HK HB HI0; have BK435 := n0_; have HK := n1_; have HB := n2_; have HI0 := n3_; clear n0_ n1_ n2_ n3_; (try clear hb); (try clear hb2); (try clear hk); (try clear hi)
     by_cases c28 : t450 = true
     ·subst c28
      rw [if_pos rfl] at H
      (try dsimp only at H)
      replace H := Option.bind_eq_some_iff.mp H
      obtain ⟨⟨t453, t456, t457⟩, A290, H⟩ := H
      (try dsimp only at H)
      have A29 := ZA A290
      clear A290
      simp only [Option.some.injEq, Prod.mk.injEq] at H
      obtain ⟨rfl, rfl, rfl, rfl, rfl, rfl⟩ := H
      try go_wp2_with (first | ((with_reducible refine gate_callee (f := 67) rfl ?_); refine goesL_ (some 28) rfl rfl Try.func67 Z12 rfl #[.pointer (some ⟨g, 0, none⟩), .int .i64 40] rfl Z1 ?_; (with_reducible refine (spec_l1some.calls k g s0_0 t451 t452 40 t453 t456 t457 w0 _ ?side1 ?side2 A29.out).mono ?_); (case side1 => repeat (first | (with_reducible first | exact HI0.out | apply IsS82.alloc | apply IsS82.drewN | apply IsS82.drew | apply IsS82.set_1 | apply IsS82.set_2 | refine IsS82.far ?_ NB0_435.out _) | exact HI0.out)); (case side2 => repeat (first | (with_reducible first | exact HB.out | apply h1 | apply h2 | apply h3 | refine h4 ?_ (IsS82.ge HI0.out) | refine h4 ?_ GE435.out) | exact HB.out)); rintro e w33 ⟨v454, rfl, ho0, hi, hb, hk⟩; refine ⟨_, rfl, ?_⟩; have n0_ := ZA (KeepBut.blk hk (g' := gb435) (o := .cells #[.int .i64 0, .int .i64 0, .float .f64 0, .slice none 0 0] 72 (0, 0)) (bup BK435.out) NB435_0.out Z44); have n1_ := ZA (Kd.R_lower ho0 (keep_size (w := w) (g := g) (row := none) Z32)); have n2_ := ZA (KeepBut.trans Z32 hk (.inl rfl)); have n3_ := ZA (hb); have n4_ := ZA (hi); clear BK435 HK HB HI0; have BK435 := n0_; have HO455 := n1_; have HK := n2_; have HB := n3_; have HI0 := n4_; clear n0_ n1_ n2_ n3_ n4_; (try clear hb); (try clear hb2); (try clear hk); (try clear hi); (try clear ho0); obtain ⟨Ao34, co34, eo34⟩ := Kd.R_slice HO455.out; subst eo34; have hnb35 := NB435_0.out; have hnc35 := NB0_435.out; obtain ⟨hcz36_0, hcz36_1, hcz36_2, hcz36_3⟩ := blk_cells4 BK435.out; obtain ⟨hfz36_0, hfz36_1, hfz36_2, hfz36_3⟩ := blk_frozens4 BK435.out))
      refine bodyPost_ret (results_cell_row rfl _ _ gb435 72 #[.int .i64 3, .int .i64 0, .float .f64 0, .slice Ao34 t453.length co34] (0, 0) _ rfl (bput BK435.out) Try.underlying72 rfl Z12) rfl ?_
      exact ⟨_, _, by first | rfl | (simp [errW_none, errW_some] <;> rfl) | (simp [*, errW_none, errW_some] <;> rfl), by exact Kd.rup (Kd.R_mono (Kd.R_far (p := ⟨gb435, 3, none⟩) (Kd.R_far (p := ⟨gb435, 2, none⟩) (Kd.R_far (p := ⟨gb435, 1, none⟩) (Kd.R_far (p := ⟨gb435, 0, none⟩) (Kd.R_types HO455.out BK435.out Z25) (fun _ hk => hk.2) (.int .i64 3)) (fun _ hk => hk.2) (.int .i64 0)) (fun _ hk => hk.2) (.float .f64 0)) (fun _ hk => hk.2) (.slice Ao34 t453.length co34)) (fun _ hk => trivial)), Z48, Z54, Z51, Z52⟩
     ·replace c28 := Bool.eq_false_iff.mpr c28
      subst c28
      rw [if_neg (show ¬ (false = true) by decide)] at H
      (try dsimp only at H)
      replace H := Option.bind_eq_some_iff.mp H
      obtain ⟨⟨t458, t459, t460⟩, A370, H⟩ := H
      (try dsimp only at H)
      have A37 := ZA A370
      clear A370
      simp only [Option.some.injEq, Prod.mk.injEq] at H
      obtain ⟨rfl, rfl, rfl, rfl, rfl, rfl⟩ := H
      try go_wp2_with (first | ((with_reducible refine gate_callee (f := 81) rfl ?_); refine goesL_ (some 31) rfl rfl Try.func81 Z12 rfl #[.pointer (some ⟨g, 0, none⟩)] rfl Z1 ?_; (with_reducible refine (spec_l1number.calls k g s0_0 t451 t452 t458 t459 t460 w0 _ ?side1 ?side2 A37.out).mono ?_); (case side1 => repeat (first | (with_reducible first | exact HI0.out | apply IsS82.alloc | apply IsS82.drewN | apply IsS82.drew | apply IsS82.set_1 | apply IsS82.set_2 | refine IsS82.far ?_ NB0_435.out _) | exact HI0.out)); (case side2 => repeat (first | (with_reducible first | exact HB.out | apply h1 | apply h2 | apply h3 | refine h4 ?_ (IsS82.ge HI0.out) | refine h4 ?_ GE435.out) | exact HB.out)); rintro e w41 ⟨rfl, hi, hb, hk⟩; refine ⟨_, rfl, ?_⟩; have n0_ := ZA (KeepBut.blk hk (g' := gb435) (o := .cells #[.int .i64 0, .int .i64 0, .float .f64 0, .slice none 0 0] 72 (0, 0)) (bup BK435.out) NB435_0.out Z44); have n1_ := ZA (KeepBut.trans Z32 hk (.inl rfl)); have n2_ := ZA (hb); have n3_ := ZA (hi); clear BK435 HK HB HI0; have BK435 := n0_; have HK := n1_; have HB := n2_; have HI0 := n3_; clear n0_ n1_ n2_ n3_; (try clear hb); (try clear hb2); (try clear hk); (try clear hi); have hnb42 := NB435_0.out; have hnc42 := NB0_435.out; obtain ⟨hcz43_0, hcz43_1, hcz43_2, hcz43_3⟩ := blk_cells4 BK435.out; obtain ⟨hfz43_0, hfz43_1, hfz43_2, hfz43_3⟩ := blk_frozens4 BK435.out))
      refine bodyPost_ret (results_cell_row rfl _ _ gb435 72 #[.int .i64 1, .int .i64 t458, .float .f64 0, .slice none 0 0] (0, 0) _ rfl (bput BK435.out) Try.underlying72 rfl Z12) rfl ?_
      exact ⟨_, _, by first | rfl | (simp [errW_none, errW_some] <;> rfl) | (simp [*, errW_none, errW_some] <;> rfl), by first | exact Kd.R_nil _ _ _ _ _ | exact Kd.N_nil _ _ _ _ _ | exact Kd.V_nil _ _ _ _ _ | exact Kd.Q_nil _ _ _ _ _ | exact Kd.S_nil _ _ _ _ _, Z48, Z54, Z51, Z52⟩
    ·rw [if_neg c26] at H
     have c26b0 : (t436 == 3) = false := beq_eq_false_iff_ne.mpr c26
     have c26b1 : (t436 != 3) = true := bne_iff_ne.mpr c26
     (try simp only [c26b0, c26b1, Bool.not_true, Bool.not_false])
     replace H := Option.bind_eq_some_iff.mp H
     obtain ⟨⟨t461, t462, t463⟩, A440, H⟩ := H
     (try dsimp only at H)
     have A44 := ZA A440
     clear A440
     simp only [Option.some.injEq, Prod.mk.injEq] at H
     obtain ⟨rfl, rfl, rfl, rfl, rfl, rfl⟩ := H
     try go_wp2_with (first | ((with_reducible refine gate_callee (f := 81) rfl ?_); refine goesL_ (some 31) rfl rfl Try.func81 Z12 rfl #[.pointer (some ⟨g, 0, none⟩)] rfl Z1 ?_; (with_reducible refine (spec_l1number.calls k g s0_0 t437 t438 t461 t462 t463 w0 _ ?side1 ?side2 A44.out).mono ?_); (case side1 => repeat (first | (with_reducible first | exact HI0.out | apply IsS82.alloc | apply IsS82.drewN | apply IsS82.drew | apply IsS82.set_1 | apply IsS82.set_2 | refine IsS82.far ?_ NB0_435.out _) | exact HI0.out)); (case side2 => repeat (first | (with_reducible first | exact HB.out | apply h1 | apply h2 | apply h3 | refine h4 ?_ (IsS82.ge HI0.out) | refine h4 ?_ GE435.out) | exact HB.out)); rintro e w47 ⟨rfl, hi, hb, hk⟩; refine ⟨_, rfl, ?_⟩; have n0_ := ZA (KeepBut.blk hk (g' := gb435) (o := .cells #[.int .i64 0, .int .i64 0, .float .f64 0, .slice none 0 0] 72 (0, 0)) (bup BK435.out) NB435_0.out Z44); have n1_ := ZA (KeepBut.trans Z32 hk (.inl rfl)); have n2_ := ZA (hb); have n3_ := ZA (hi); clear BK435 HK HB HI0; have BK435 := n0_; have HK := n1_; have HB := n2_; have HI0 := n3_; clear n0_ n1_ n2_ n3_; (try clear hb); (try clear hb2); (try clear hk); (try clear hi); have hnb48 := NB435_0.out; have hnc48 := NB0_435.out; obtain ⟨hcz49_0, hcz49_1, hcz49_2, hcz49_3⟩ := blk_cells4 BK435.out; obtain ⟨hfz49_0, hfz49_1, hfz49_2, hfz49_3⟩ := blk_frozens4 BK435.out))
     refine bodyPost_ret (results_cell_row rfl _ _ gb435 72 #[.int .i64 1, .int .i64 t461, .float .f64 0, .slice none 0 0] (0, 0) _ rfl (bput BK435.out) Try.underlying72 rfl Z12) rfl ?_
     exact ⟨_, _, by first | rfl | (simp [errW_none, errW_some] <;> rfl) | (simp [*, errW_none, errW_some] <;> rfl), by first | exact Kd.R_nil _ _ _ _ _ | exact Kd.N_nil _ _ _ _ _ | exact Kd.V_nil _ _ _ _ _ | exact Kd.Q_nil _ _ _ _ _ | exact Kd.S_nil _ _ _ _ _, Z48, Z54, Z51, Z52⟩
def spec_l6tuple.f (k : Nat) (s0_0 : List Int) (s0_1 : Int) (s0_2 : Int) : Option (Int × Int × Int × Int × Nat × List Int × Int × Int × Nat × List Int × Int × Int) := (spec_l1Below.f s0_0 s0_1 s0_2 9).bind fun bt465 => ((spec_l3key.f k s0_0 bt465.2.1 bt465.2.2).bind fun bt468 => ((spec_l3value.f k s0_0 bt468.2.2.2.2.1 bt468.2.2.2.2.2).bind fun bt476 => ((spec_l1Once.f s0_0 bt476.2.2.2.2.1 bt476.2.2.2.2.2 3).bind fun bt485 => (if bt485.1 = true then ((spec_l1Below.f s0_0 bt485.2.1 bt485.2.2 9).bind fun bt488 => (some (wrap64 (1 + bt465.1), wrap64 (1 + bt488.1), bt468.1, bt468.2.1, bt468.2.2.1, bt468.2.2.2.1, bt476.1, bt476.2.1, bt476.2.2.1, bt476.2.2.2.1, bt488.2.1, bt488.2.2))) else (some (wrap64 (1 + bt465.1), 0, bt468.1, bt468.2.1, bt468.2.2.1, bt468.2.2.2.1, bt476.1, bt476.2.1, bt476.2.2.1, bt476.2.2.2.1, bt485.2.1, bt485.2.2))))))
theorem spec_l6tuple.mono : ∀ a0 a1 a2 k, LeO (spec_l6tuple.f k a0 a1 a2) (spec_l6tuple.f (k + 1) a0 a1 a2) := by
 intro a0 a1 a2 k
 unfold spec_l6tuple.f
 repeat' with_reducible first | exact spec_l3key.mono _ _ _ _ | exact spec_l3value.mono _ _ _ _ | exact LeO.refl _ | exact LeO.none _ | refine LeO.ite ?_ ?_ | refine LeO.bind ?_ (fun _ => ?_)
set_option maxHeartbeats 8000000 in
set_option maxRecDepth 100000 in
theorem spec_l6tuple.callsC (k : Nat) (g : Nat) (s0_0 : List Int) (s0_1 : Int) (s0_2 : Int) (r1 : Int) (r2 : Int) (r3 : Int) (r4 : Int) (r5 : Nat) (r6 : List Int) (r7 : Int) (r8 : Int) (r9 : Nat) (r10 : List Int) (r11 : Int) (r12 : Int) (w0 w : World) (hI : IsS82 w0 w g s0_0 s0_1 s0_2) (hB : Below w0.heap.size w0 w) (h : spec_l6tuple.f k s0_0 s0_1 s0_2 = some (r1, r2, r3, r4, r5, r6, r7, r8, r9, r10, r11, r12)) :
  Calls Try.prog 62 #[.pointer (some ⟨g, 0, none⟩)] w fun e w' => ∃ b1_ : Nat, ∃ b2_ : Nat, ∃ v5_ v9_ : Value, e = .returned (.agg #[.int .i64 r1, .int .i64 r2, .int .i64 r3, .int .i64 r4, .float .f64 b1_, v5_, .int .i64 r7, .int .i64 r8, .float .f64 b2_, v9_]) ∧ Kd.R (Kd.int .u8) 5 w' w.heap.size (fun k_ => some k_ ≠ (v9_ : Value).ownBlock) v5_ r6 ∧ Kd.R (Kd.int .u8) 5 w' w.heap.size (fun k_ => some k_ ≠ (v5_ : Value).ownBlock) v9_ r10 ∧ IsS82 w0 w' g s0_0 r11 r12 ∧ Below w0.heap.size w0 w' ∧ KeepBut w w' g none ∧ Aside0 (cn b1_ = r5 ∧ b1_ < 2 ^ 64) ∧ Aside0 (cn b2_ = r9 ∧ b2_ < 2 ^ 64) := by
 have hu74 := Try.underlying74
 have HI0 := ZA hI
 have HK := ZA (KeepBut.refl w g none)
 have HL := ZA hB.size
 clear hI
 have HW0 := ZA hB.size
 have HB := ZA hB
 clear hB
 have H := h
 clear h
 unfold spec_l6tuple.f at H
 replace H := Option.bind_eq_some_iff.mp H
 obtain ⟨⟨t465, t466, t467⟩, A20, H⟩ := H
 (try dsimp only at H)
 have A2 := ZA A20
 clear A20
 replace H := Option.bind_eq_some_iff.mp H
 obtain ⟨⟨t468, t469, t470, t471, t474, t475⟩, A30, H⟩ := H
 (try dsimp only at H)
 have A3 := ZA A30
 clear A30
 replace H := Option.bind_eq_some_iff.mp H
 obtain ⟨⟨t476, t477, t478, t479, t482, t483⟩, A40, H⟩ := H
 (try dsimp only at H)
 have A4 := ZA A40
 clear A40
 replace H := Option.bind_eq_some_iff.mp H
 obtain ⟨⟨t485, t486, t487⟩, A50, H⟩ := H
 (try dsimp only at H)
 have A5 := ZA A50
 clear A50
 go_enter Try.func62, Try.ntmps62
 repeat (first | ((with_reducible refine gate_dst (N := 2) rfl ?_); refine box_event ?hg (N := 2) ?hd (cs := #[.int .i64 0, .int .i64 0, .int .i64 0, .int .i64 0, .float .f64 0, .slice none 0 0, .int .i64 0, .int .i64 0, .float .f64 0, .slice none 0 0]) (t := 74) ?hr ?_; (case hd => rfl); (case hg => rfl); (case hr => first | (go_simp; done) | (go_simp; rfl)); intro gb464 hg w8 hbox hb; have n0_ := ZA (IsS82.below (Z4) hb); have n1_ := ZA (KeepBut.trans Z3 (KeepBut.of_below hb g none) (.inl rfl)); have n2_ := ZA (below_step (Z15) hb); have n3_ := ZA (hbox); have n4_ := Geq.mk ((Z61 : w.heap.size ≤ gb464)); have n5_ := ZA ((Nat.le_trans HW0.out (Z61 : w.heap.size ≤ gb464) : w0.heap.size ≤ gb464)); have n6_ := ZA ((Z88 : g ≠ gb464)); have n7_ := ZA ((Z89 : gb464 ≠ g)); clear HI0 HK HB; have HI0 := n0_; have HK := n1_; have HB := n2_; have BK464 := n3_; have GW464 := n4_; have GE464 := n5_; have NB0_464 := n6_; have NB464_0 := n7_; clear n0_ n1_ n2_ n3_ n4_ n5_ n6_ n7_ hb hbox hg) | ((with_reducible refine gate_callee (f := 63) rfl ?_); refine goesL_ (some 5) rfl rfl Try.func63 Z12 rfl #[.pointer (some ⟨g, 0, none⟩), .int .i64 9] rfl Z1 ?_; (with_reducible refine (spec_l1Below.calls g s0_0 s0_1 s0_2 9 t465 t466 t467 w0 _ ?side1 ?side2 A2.out).mono ?_); (case side1 => repeat (first | (with_reducible first | exact HI0.out | apply IsS82.alloc | apply IsS82.drewN | apply IsS82.drew | apply IsS82.set_1 | apply IsS82.set_2 | refine IsS82.far ?_ NB0_464.out _) | exact HI0.out)); (case side2 => repeat (first | (with_reducible first | exact HB.out | apply h1 | apply h2 | apply h3 | refine h4 ?_ (IsS82.ge HI0.out) | refine h4 ?_ GE464.out) | exact HB.out)); rintro e w9 ⟨rfl, hi, hb, hk⟩; refine ⟨_, rfl, ?_⟩; have n0_ := ZA (KeepBut.blk hk (g' := gb464) (o := .cells #[.int .i64 0, .int .i64 0, .int .i64 0, .int .i64 0, .float .f64 0, .slice none 0 0, .int .i64 0, .int .i64 0, .float .f64 0, .slice none 0 0] 74 (0, 0)) (bup BK464.out) NB464_0.out Z44); have n1_ := ZA (KeepBut.trans Z35 hk (.inl rfl)); have n2_ := ZA (hb); have n3_ := ZA (hi); clear BK464 HK HB HI0; have BK464 := n0_; have HK := n1_; have HB := n2_; have HI0 := n3_; clear n0_ n1_ n2_ n3_; (try clear hb); (try clear hb2); (try clear hk); (try clear hi)) | ((with_reducible refine gate_callee (f := 71) rfl ?_); refine goesL_ (some 8) rfl rfl Try.func71 Z12 rfl #[.pointer (some ⟨g, 0, none⟩)] rfl Z1 ?_; (with_reducible refine (spec_l3key.callsC k g s0_0 t466 t467 t468 t469 t470 t471 t474 t475 w0 _ ?side1 ?side2 A3.out).mono ?_); (case side1 => repeat (first | (with_reducible first | exact HI0.out | apply IsS82.alloc | apply IsS82.drewN | apply IsS82.drew | apply IsS82.set_1 | apply IsS82.set_2 | refine IsS82.far ?_ NB0_464.out _) | exact HI0.out)); (case side2 => repeat (first | (with_reducible first | exact HB.out | apply h1 | apply h2 | apply h3 | refine h4 ?_ (IsS82.ge HI0.out) | refine h4 ?_ GE464.out) | exact HB.out)); rintro e w10 ⟨b470, v472, rfl, ho0, hi, hb, hk, ⟨⟨hcnb470, hltb470⟩⟩⟩; refine ⟨_, rfl, ?_⟩; have LTb470 := ZA hltb470; clear hltb470; subst hcnb470; have n0_ := ZA (KeepBut.blk hk (g' := gb464) (o := .cells #[.int .i64 0, .int .i64 0, .int .i64 0, .int .i64 0, .float .f64 0, .slice none 0 0, .int .i64 0, .int .i64 0, .float .f64 0, .slice none 0 0] 74 (0, 0)) (bup BK464.out) NB464_0.out Z44); have n1_ := ZA (Kd.R_lower ho0 (keep_size (w := w) (g := g) (row := none) Z35)); have n2_ := ZA (KeepBut.trans Z35 hk (.inl rfl)); have n3_ := ZA (hb); have n4_ := ZA (hi); clear BK464 HK HB HI0; have BK464 := n0_; have HO473 := n1_; have HK := n2_; have HB := n3_; have HI0 := n4_; clear n0_ n1_ n2_ n3_ n4_; (try clear hb); (try clear hb2); (try clear hk); (try clear hi); (try clear ho0)) | ((with_reducible refine gate_callee (f := 72) rfl ?_); refine goesL_ (some 10) rfl rfl Try.func72 Z12 rfl #[.pointer (some ⟨g, 0, none⟩)] rfl Z1 ?_; (with_reducible refine (spec_l3value.callsC k g s0_0 t474 t475 t476 t477 t478 t479 t482 t483 w0 _ ?side1 ?side2 A4.out).mono ?_); (case side1 => repeat (first | (with_reducible first | exact HI0.out | apply IsS82.alloc | apply IsS82.drewN | apply IsS82.drew | apply IsS82.set_1 | apply IsS82.set_2 | refine IsS82.far ?_ NB0_464.out _) | exact HI0.out)); (case side2 => repeat (first | (with_reducible first | exact HB.out | apply h1 | apply h2 | apply h3 | refine h4 ?_ (IsS82.ge HI0.out) | refine h4 ?_ GE464.out) | exact HB.out)); rintro e w11 ⟨b478, v480, rfl, ho0, hi, hb, hk, ⟨⟨hcnb478, hltb478⟩⟩⟩; refine ⟨_, rfl, ?_⟩; have LTb478 := ZA hltb478; clear hltb478; subst hcnb478; have n0_ := ZA (KeepBut.blk hk (g' := gb464) (o := .cells #[.int .i64 0, .int .i64 0, .int .i64 0, .int .i64 0, .float .f64 0, .slice none 0 0, .int .i64 0, .int .i64 0, .float .f64 0, .slice none 0 0] 74 (0, 0)) (bup BK464.out) NB464_0.out Z44); have n1_ := ZA (Kd.R_mono (Kd.R_told (Kd.R_oldK (IsS82.apart (show IsS82 w0 _ g s0_0 t474 t475 from Z79) (Kd.rup HO473.out) Z25) hk) (Kd.R_base ho0)) (fun _ h_ => h_.1)); have n2_ := ZA (Kd.R_lower (Kd.R_new' ho0 (Kd.R_lt (Kd.rup HO473.out))) (keep_size (w := w) (g := g) (row := none) Z35)); have n3_ := ZA (KeepBut.trans Z35 hk (.inl rfl)); have n4_ := ZA (hb); have n5_ := ZA (hi); clear BK464 HO473 HK HB HI0; have BK464 := n0_; have HO473 := n1_; have HO481 := n2_; have HK := n3_; have HB := n4_; have HI0 := n5_; clear n0_ n1_ n2_ n3_ n4_ n5_; (try clear hb); (try clear hb2); (try clear hk); (try clear hi); (try clear ho0); obtain ⟨Ao12, co12, eo12⟩ := Kd.R_slice HO481.out; subst eo12; obtain ⟨Ao13, co13, eo13⟩ := Kd.R_slice HO473.out; subst eo13) | ((with_reducible refine gate_dst (N := 3) rfl ?_); refine box_event ?hg (N := 3) ?hd (cs := #[.int .i64 0, .int .i64 0, .int .i64 0, .int .i64 0, .float .f64 0, .slice none 0 0, .int .i64 0, .int .i64 0, .float .f64 0, .slice none 0 0]) (t := 74) ?hr ?_; (case hd => rfl); (case hg => rfl); (case hr => first | (go_simp; done) | (go_simp; rfl)); intro gb484 hg w14 hbox hb; have n0_ := ZA (Kd.R_below (Kd.rup HO473.out) hb); have n1_ := ZA (Kd.R_below (Kd.rup HO481.out) hb); have n2_ := ZA (IsS82.below (Z79) hb); have n3_ := ZA (blk_below (bup BK464.out) hb); have n4_ := ZA (KeepBut.trans Z35 (KeepBut.of_below hb g none) (.inl rfl)); have n5_ := ZA (below_step (by repeat (first | (with_reducible first | exact HB.out | apply h1 | apply h2 | apply h3 | refine h4 ?_ (IsS82.ge HI0.out) | refine h4 ?_ GE464.out) | exact HB.out)) hb); have n6_ := ZA (hbox); have n7_ := Geq.mk ((by rw [hg]; exact (keep_size (w := w) (g := g) (row := none) Z35) : w.heap.size ≤ gb484)); have n8_ := ZA ((Nat.le_trans HW0.out (by rw [hg]; exact (keep_size (w := w) (g := g) (row := none) Z35) : w.heap.size ≤ gb484) : w0.heap.size ≤ gb484)); have n9_ := Neq.mk ((by rw [hg]; exact Nat.ne_of_lt (blk_lt (g := gb464) (o := .cells #[.int .i64 0, .int .i64 0, .int .i64 0, .int .i64 0, .float .f64 0, .slice none 0 0, .int .i64 0, .int .i64 0, .float .f64 0, .slice none 0 0] 74 (0, 0)) (bup BK464.out)) : gb464 ≠ gb484)); have n10_ := Neq.mk ((by rw [hg]; exact Nat.ne_of_gt (blk_lt (g := gb464) (o := .cells #[.int .i64 0, .int .i64 0, .int .i64 0, .int .i64 0, .float .f64 0, .slice none 0 0, .int .i64 0, .int .i64 0, .float .f64 0, .slice none 0 0] 74 (0, 0)) (bup BK464.out)) : gb484 ≠ gb464)); have n11_ := ZA ((by rw [hg]; exact Nat.ne_of_lt (IsS82.lt (show IsS82 w0 _ g s0_0 t482 t483 from Z79)) : g ≠ gb484)); have n12_ := ZA ((by rw [hg]; exact Nat.ne_of_gt (IsS82.lt (show IsS82 w0 _ g s0_0 t482 t483 from Z79)) : gb484 ≠ g)); clear HO473 HO481 HI0 BK464 HK HB; have HO473 := n0_; have HO481 := n1_; have HI0 := n2_; have BK464 := n3_; have HK := n4_; have HB := n5_; have BK484 := n6_; have GW484 := n7_; have GE484 := n8_; have NB464_484 := n9_; have NB484_464 := n10_; have NB0_484 := n11_; have NB484_0 := n12_; clear n0_ n1_ n2_ n3_ n4_ n5_ n6_ n7_ n8_ n9_ n10_ n11_ n12_ hb hbox hg; have hnb15 := NB484_464.out; have hnc15 := NB464_484.out; have hnb16 := NB484_0.out; have hnc16 := NB0_484.out; obtain ⟨hcz17_0, hcz17_1, hcz17_2, hcz17_3, hcz17_4, hcz17_5, hcz17_6, hcz17_7, hcz17_8, hcz17_9⟩ := blk_cells10 BK484.out; obtain ⟨hfz17_0, hfz17_1, hfz17_2, hfz17_3, hfz17_4, hfz17_5, hfz17_6, hfz17_7, hfz17_8, hfz17_9⟩ := blk_frozens10 BK484.out) | ((fail_if_success (with_reducible refine gate_callee (f := 59) rfl ?_)); first | go_values | go_skip | go_guarded | go_step | go_upon | go_back | (simp only [Int.not_lt, Int.not_le] at *; go_simp)))
 (with_reducible refine gate_callee (f := 59) rfl ?_); refine goesL_ (some 13) rfl rfl Try.func59 Z12 rfl #[.pointer (some ⟨g, 0, none⟩), .int .i64 3] rfl Z1 ?_; (with_reducible refine (spec_l1Once.calls g s0_0 t482 t483 3 t485 t486 t487 w0 _ ?side1 ?side2 A5.out).mono ?_); (case side1 => repeat (first | (with_reducible first | exact HI0.out | apply IsS82.alloc | apply IsS82.drewN | apply IsS82.drew | apply IsS82.set_1 | apply IsS82.set_2 | refine IsS82.far ?_ NB0_464.out _ | refine IsS82.far ?_ NB0_484.out _) | exact HI0.out)); (case side2 => repeat (first | (with_reducible first | exact HB.out | apply h1 | apply h2 | apply h3 | refine h4 ?_ (IsS82.ge HI0.out) | refine h4 ?_ GE464.out | refine h4 ?_ GE484.out) | exact HB.out)); rintro e w18 ⟨rfl, hi, hb, hk⟩; refine ⟨_, rfl, ?_⟩; have n0_ := ZA (KeepBut.blk hk (g' := gb464) (o := .cells #[.int .i64 0, .int .i64 0, .int .i64 0, .int .i64 0, .float .f64 0, .slice none 0 0, .int .i64 0, .int .i64 0, .float .f64 0, .slice none 0 0] 74 (0, 0)) (bput BK464.out) NB464_0.out Z44); have n1_ := ZA (Kd.R_mono (Kd.R_keep (IsS82.apart (show IsS82 w0 _ g s0_0 t482 t483 from Z38) ((Kd.roff1 HO473.out BK484.out Z25)) Z25) hk (fun _ h => h.2)) (fun _ h => h.1)); have n2_ := ZA (Kd.R_mono (Kd.R_keep (IsS82.apart (show IsS82 w0 _ g s0_0 t482 t483 from Z38) ((Kd.roff1 HO481.out BK484.out Z25)) Z25) hk (fun _ h => h.2)) (fun _ h => h.1)); have n3_ := ZA (KeepBut.blk hk (g' := gb484) (o := .cells #[.int .i64 (wrap64 (1 + t465)), .int .i64 0, .int .i64 t468, .int .i64 t469, .float .f64 b470, .slice Ao13 t471.length co13, .int .i64 t476, .int .i64 t477, .float .f64 b478, .slice Ao12 t479.length co12] 74 (0, 0)) (bput BK484.out) NB484_0.out Z44); have n4_ := ZA (KeepBut.trans (by repeat (first | (with_reducible first | exact HK.out | apply KeepBut.set_ | apply keep_drewN | apply keep_drew | apply keep_alloc | refine keep_far ?_ GW464.out _ | refine keep_far ?_ GW484.out _) | exact HK.out)) hk (.inl rfl)); have n5_ := ZA (hb); have n6_ := ZA (hi); clear BK464 HO473 HO481 BK484 HK HB HI0; have BK464 := n0_; have HO473 := n1_; have HO481 := n2_; have BK484 := n3_; have HK := n4_; have HB := n5_; have HI0 := n6_; clear n0_ n1_ n2_ n3_ n4_ n5_ n6_; (try clear hb); (try clear hb2); (try clear hk)
 by_cases c6 : t485 = true
 ·subst c6
  rw [if_pos rfl] at H
  (try dsimp only at H)
  replace H := Option.bind_eq_some_iff.mp H
  obtain ⟨⟨t488, t489, t490⟩, A70, H⟩ := H
  (try dsimp only at H)
  have A7 := ZA A70
  clear A70
  simp only [Option.some.injEq, Prod.mk.injEq] at H
  obtain ⟨rfl, rfl, rfl, rfl, rfl, rfl, rfl, rfl, rfl, rfl, rfl, rfl⟩ := H
  (try clear hi)
  try go_wp2_with (first | ((with_reducible refine gate_callee (f := 63) rfl ?_); refine goesL_ (some 15) rfl rfl Try.func63 Z12 rfl #[.pointer (some ⟨g, 0, none⟩), .int .i64 9] rfl Z1 ?_; (with_reducible refine (spec_l1Below.calls g s0_0 t486 t487 9 t488 t489 t490 w0 _ ?side1 ?side2 A7.out).mono ?_); (case side1 => repeat (first | (with_reducible first | exact HI0.out | apply IsS82.alloc | apply IsS82.drewN | apply IsS82.drew | apply IsS82.set_1 | apply IsS82.set_2 | refine IsS82.far ?_ NB0_464.out _ | refine IsS82.far ?_ NB0_484.out _) | exact HI0.out)); (case side2 => repeat (first | (with_reducible first | exact HB.out | apply h1 | apply h2 | apply h3 | refine h4 ?_ (IsS82.ge HI0.out) | refine h4 ?_ GE464.out | refine h4 ?_ GE484.out) | exact HB.out)); rintro e w19 ⟨rfl, hi, hb, hk⟩; refine ⟨_, rfl, ?_⟩; have n0_ := ZA (KeepBut.blk hk (g' := gb464) (o := .cells #[.int .i64 0, .int .i64 0, .int .i64 0, .int .i64 0, .float .f64 0, .slice none 0 0, .int .i64 0, .int .i64 0, .float .f64 0, .slice none 0 0] 74 (0, 0)) (bup BK464.out) NB464_0.out Z44); have n1_ := ZA (Kd.R_mono (Kd.R_keep (IsS82.apart (show IsS82 w0 _ g s0_0 t486 t487 from Z38) (Kd.rup HO473.out) Z25) hk (fun _ h => h.2)) (fun _ h => h.1)); have n2_ := ZA (Kd.R_mono (Kd.R_keep (IsS82.apart (show IsS82 w0 _ g s0_0 t486 t487 from Z38) (Kd.rup HO481.out) Z25) hk (fun _ h => h.2)) (fun _ h => h.1)); have n3_ := ZA (KeepBut.blk hk (g' := gb484) (o := .cells #[.int .i64 (wrap64 (1 + t465)), .int .i64 0, .int .i64 t468, .int .i64 t469, .float .f64 b470, .slice Ao13 t471.length co13, .int .i64 t476, .int .i64 t477, .float .f64 b478, .slice Ao12 t479.length co12] 74 (0, 0)) (bup BK484.out) NB484_0.out Z44); have n4_ := ZA (KeepBut.trans (by repeat (first | (with_reducible first | exact HK.out | apply KeepBut.set_ | apply keep_drewN | apply keep_drew | apply keep_alloc | refine keep_far ?_ GW464.out _ | refine keep_far ?_ GW484.out _) | exact HK.out)) hk (.inl rfl)); have n5_ := ZA (hb); have n6_ := ZA (hi); clear BK464 HO473 HO481 BK484 HK HB HI0; have BK464 := n0_; have HO473 := n1_; have HO481 := n2_; have BK484 := n3_; have HK := n4_; have HB := n5_; have HI0 := n6_; clear n0_ n1_ n2_ n3_ n4_ n5_ n6_; (try clear hb); (try clear hb2); (try clear hk); (try clear hi); obtain ⟨hcz20_0, hcz20_1, hcz20_2, hcz20_3, hcz20_4, hcz20_5, hcz20_6, hcz20_7, hcz20_8, hcz20_9⟩ := blk_cells10 BK484.out; obtain ⟨hfz20_0, hfz20_1, hfz20_2, hfz20_3, hfz20_4, hfz20_5, hfz20_6, hfz20_7, hfz20_8, hfz20_9⟩ := blk_frozens10 BK484.out; have hnb21 := NB464_0.out; have hnc21 := NB0_464.out; obtain ⟨hcz22_0, hcz22_1, hcz22_2, hcz22_3, hcz22_4, hcz22_5, hcz22_6, hcz22_7, hcz22_8, hcz22_9⟩ := blk_cells10 BK464.out; obtain ⟨hfz22_0, hfz22_1, hfz22_2, hfz22_3, hfz22_4, hfz22_5, hfz22_6, hfz22_7, hfz22_8, hfz22_9⟩ := blk_frozens10 BK464.out))
  refine bodyPost_ret (results_cell_row rfl _ _ gb464 74 #[.int .i64 (wrap64 (1 + t465)), .int .i64 (wrap64 (1 + t488)), .int .i64 t468, .int .i64 t469, .float .f64 b470, .slice Ao13 t471.length co13, .int .i64 t476, .int .i64 t477, .float .f64 b478, .slice Ao12 t479.length co12] (0, 0) _ rfl (bput BK464.out) Try.underlying74 rfl Z12) rfl ?_
  exact ⟨_, _, _, _, by first | rfl | (simp [errW_none, errW_some] <;> rfl) | (simp [*, errW_none, errW_some] <;> rfl), (Kd.R_mono (Kd.roff2 HO473.out BK484.out Z25 BK464.out Z25) (fun _ hk => hk.2)), (Kd.R_mono (Kd.roff2 HO481.out BK484.out Z25 BK464.out Z25) (fun _ hk => hk.2)), Z38, by repeat (first | (with_reducible first | exact HB.out | apply h1 | apply h2 | apply h3 | refine h4 ?_ (IsS82.ge HI0.out) | refine h4 ?_ GE464.out | refine h4 ?_ GE484.out) | exact HB.out), by repeat (first | (with_reducible first | exact HK.out | apply KeepBut.set_ | apply keep_drewN | apply keep_drew | apply keep_alloc | refine keep_far ?_ GW464.out _ | refine keep_far ?_ GW484.out _) | exact HK.out), Z71, Z71⟩
 ·replace c6 := Bool.eq_false_iff.mpr c6
  subst c6
  rw [if_neg (show ¬ (false = true) by decide)] at H
  (try dsimp only at H)
  simp only [Option.some.injEq, Prod.mk.injEq] at H
  obtain ⟨rfl, rfl, rfl, rfl, rfl, rfl, rfl, rfl, rfl, rfl, rfl, rfl⟩ := H
  (try clear hi); obtain ⟨hcz34_0, hcz34_1, hcz34_2, hcz34_3, hcz34_4, hcz34_5, hcz34_6, hcz34_7, hcz34_8, hcz34_9⟩ := blk_cells10 BK484.out; obtain ⟨hfz34_0, hfz34_1, hfz34_2, hfz34_3, hfz34_4, hfz34_5, hfz34_6, hfz34_7, hfz34_8, hfz34_9⟩ := blk_frozens10 BK484.out; have hnb35 := NB464_0.out; have hnc35 := NB0_464.out; obtain ⟨hcz36_0, hcz36_1, hcz36_2, hcz36_3, hcz36_4, hcz36_5, hcz36_6, hcz36_7, hcz36_8, hcz36_9⟩ := blk_cells10 BK464.out; obtain ⟨hfz36_0, hfz36_1, hfz36_2, hfz36_3, hfz36_4, hfz36_5, hfz36_6, hfz36_7, hfz36_8, hfz36_9⟩ := blk_frozens10 BK464.out
  try go_wp2
  refine bodyPost_ret (results_cell_row rfl _ _ gb464 74 #[.int .i64 (wrap64 (1 + t465)), .int .i64 0, .int .i64 t468, .int .i64 t469, .float .f64 b470, .slice Ao13 t471.length co13, .int .i64 t476, .int .i64 t477, .float .f64 b478, .slice Ao12 t479.length co12] (0, 0) _ rfl (bput BK464.out) Try.underlying74 rfl Z12) rfl ?_
  exact ⟨_, _, _, _, by first | rfl | (simp [errW_none, errW_some] <;> rfl) | (simp [*, errW_none, errW_some] <;> rfl), (Kd.R_mono (Kd.roff1 HO473.out BK464.out Z25) (fun _ hk => hk.2)), (Kd.R_mono (Kd.roff1 HO481.out BK464.out Z25) (fun _ hk => hk.2)), Z38, by repeat (first | (with_reducible first | exact HB.out | apply h1 | apply h2 | apply h3 | refine h4 ?_ (IsS82.ge HI0.out) | refine h4 ?_ GE464.out | refine h4 ?_ GE484.out) | exact HB.out), by repeat (first | (with_reducible first | exact HK.out | apply KeepBut.set_ | apply keep_drewN | apply keep_drew | apply keep_alloc | refine keep_far ?_ GW464.out _ | refine keep_far ?_ GW484.out _) | exact HK.out), Z71, Z71⟩
end Go.Proofs.Ytokpniagnbaflaa.PFnPlaces
