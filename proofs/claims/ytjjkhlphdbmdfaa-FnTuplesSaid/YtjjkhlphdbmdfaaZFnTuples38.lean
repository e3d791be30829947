import Derived.Test.YtjjkhlphdbmdfaaZFnTuples30
import Derived.Test.YtjjkhlphdbmdfaaZFnTuples35
import Derived.Test.YtjjkhlphdbmdfaaZFnTuples36
import Derived.Test.YtjjkhlphdbmdfaaZFnTuples37
namespace Go.Proofs.Ytjjkhlphdbmdfaa.PFnTuples
open Go.RowKit Go.Proofs.YtjjkhlphdbmdfaaW.PrintWords Go.Proofs.YtjjkhlphdbmdfaaW.PrintLast Go.Proofs.YtjjkhlphdbmdfaaW.PrintMore
attribute [local go_sem] max2_int min2_int max_two min_two max_three min_three max_four min_four   -- for this text's walks alone
attribute [local go_sem high] fl_eql fl_neq fl_lss fl_leq fl_gtr fl_geq fl_add fl_sub fl_mul fl_quo fl_neg fl_ofInt fl_toInt fl_store sub_sign ext_bits ext_from fl_nan_quo fl_nan_add fl_nan_mul fl_nan_sub
open Go.Proofs.YtjjkhlphdbmdfaaW.PrintWords renaming below_alloc → h1, pw_below_drewN → h2, below_drew1 → h3, below_set → h4, blk_drewN → b1, blk_drew → b2, blk_alloc → b3
set_option linter.unusedVariables false
set_option linter.unusedSimpArgs false
def spec_l1number.l0 : Nat → Int → Int → List Int → Int → Int → Option (Int × Int × Int)
 | 0, _, _, _, _, _ => none
 | k + 1, x3, x4, x1000, x1001, x1002 => if x4 > 0 then ((spec_l1Byte.f x1000 x1001 x1002).bind fun bt424 => (spec_l1number.l0 k (wrap64 ((wrap64 (x3 * 256)) + bt424.1)) (wrap64 (x4 - 1)) x1000 bt424.2.1 bt424.2.2)) else ((spec_l1Below.f x1000 x1001 x1002 12).bind fun bt427 => (if bt427.1 = 0 then (some (wrap64 (-x3), bt427.2.1, bt427.2.2)) else (if bt427.1 = 1 then ((spec_l1Below.f x1000 bt427.2.1 bt427.2.2 7).bind fun bt430 => (if 0 ≤ (wrap64 (8 * (wrap64 (1 + bt430.1)))) then ((spec_l1Below.f x1000 bt430.2.1 bt430.2.2 2).bind fun bt433 => (some (wrap64 ((shl .i64 1 (wrap64 (8 * (wrap64 (1 + bt430.1))))) - bt433.1), bt433.2.1, bt433.2.2))) else (none))) else (if bt427.1 = 2 then (some (9223372036854775807, bt427.2.1, bt427.2.2)) else (if bt427.1 = 3 then (some ((-9223372036854775808), bt427.2.1, bt427.2.2)) else (some (x3, bt427.2.1, bt427.2.2)))))))
def spec_l1number.f (k : Nat) (s0_0 : List Int) (s0_1 : Int) (s0_2 : Int) : Option (Int × Int × Int) := (spec_l1Below.f s0_0 s0_1 s0_2 1000).bind fun bt418 => ((spec_l1Below.f s0_0 bt418.2.1 bt418.2.2 6).bind fun bt421 => (spec_l1number.l0 k bt418.1 bt421.1 s0_0 bt421.2.1 bt421.2.2))
theorem spec_l1number.mono_l : ∀ k, (∀ y0 y1 y2 y3 y4, LeO (spec_l1number.l0 k y0 y1 y2 y3 y4) (spec_l1number.l0 (k + 1) y0 y1 y2 y3 y4))
 | 0 => fun _ _ _ _ _ r h => by simp [spec_l1number.l0] at h
 | k + 1 => by
  have ih0 := spec_l1number.mono_l k
  ·intro y0 y1 y2 y3 y4
   unfold spec_l1number.l0
   repeat' with_reducible first | exact ih0 _ _ _ _ _ | exact LeO.refl _ | exact LeO.none _ | refine LeO.ite ?_ ?_ | refine LeO.bind ?_ (fun _ => ?_)
theorem spec_l1number.mono : ∀ a0 a1 a2 k, LeO (spec_l1number.f k a0 a1 a2) (spec_l1number.f (k + 1) a0 a1 a2) := by
 intro a0 a1 a2 k
 have ih0 := spec_l1number.mono_l k
 unfold spec_l1number.f
 repeat' with_reducible first | exact ih0 _ _ _ _ _ | exact LeO.refl _ | exact LeO.none _ | refine LeO.ite ?_ ?_ | refine LeO.bind ?_ (fun _ => ?_)
def spec_l1number.T10 : Bool × List (List Nat × List Nat) := (true, [([], []), ([0], [0]), ([1], [1]), ([2], [2]), ([3], [3]), ([], []), ([5, 1], [5]), ([4, 6], [4, 6]), ([7, 6, 0, 1, 2, 3, 4, 5, 6, 7], [7])])
def spec_l1number.B10 : List Nat := [0, 1, 3, 7, 15, 0, 35, 127, 255]
theorem spec_l1number.tab10 : rtab .any (opsOf Try.f90 10) = spec_l1number.T10 := by kernel_rfl
theorem spec_l1number.bits10 : waitsOk spec_l1number.T10.2 spec_l1number.B10 = true := by kernel_rfl
set_option maxHeartbeats 8000000 in
set_option maxRecDepth 100000 in
theorem spec_l1number.calls (k : Nat) (g : Nat) (s0_0 : List Int) (s0_1 : Int) (s0_2 : Int) (r1 : Int) (r2 : Int) (r3 : Int) (w0 w : World) (hI : IsS83 w0 w g s0_0 s0_1 s0_2) (hB : Below w0.heap.size w0 w) (h : spec_l1number.f k s0_0 s0_1 s0_2 = some (r1, r2, r3)) :
  Calls Try.prog 90 #[.pointer (some ⟨g, 0, none⟩)] w fun e w' => e = .returned (.int .i64 r1) ∧ IsS83 w0 w' g s0_0 r2 r3 ∧ Below w0.heap.size w0 w' ∧ KeepBut w w' g none := by
 have HI0 := Aside0.mk hI
 have HK := Aside0.mk (KeepBut.refl w g none)
 have HL := Aside0.mk hB.size
 clear hI
 have HW0 := Aside0.mk hB.size
 have HB := Aside0.mk hB
 clear hB
 have H := h
 clear h
 unfold spec_l1number.f at H
 replace H := Option.bind_eq_some_iff.mp H
 obtain ⟨⟨t418, t419, t420⟩, A20, H⟩ := H
 (try dsimp only at H)
 have A2 := Aside0.mk A20
 clear A20
 replace H := Option.bind_eq_some_iff.mp H
 obtain ⟨⟨t421, t422, t423⟩, A30, H⟩ := H
 (try dsimp only at H)
 have A3 := Aside0.mk A30
 clear A30
 have H' := Aside0.mk H
 clear H
 go_enter Try.func90, Try.ntmps90
 go_wp2_with (first | ((with_reducible refine gate_callee (f := 59) rfl ?_); refine goesL_ (some 6) rfl rfl Try.func59 (by kernel_rfl) rfl #[.pointer (some ⟨g, 0, none⟩), .int .i64 1000] rfl (by (try simp only [List.map_toArray, List.map_cons, List.map_nil]); first | done | rfl) ?_; (with_reducible refine (spec_l1Below.calls g s0_0 s0_1 s0_2 1000 t418 t419 t420 w0 _ ?side1 ?side2 A2.out).mono ?_); (case side1 => repeat (first | (with_reducible first | exact HI0.out | apply IsS83.alloc | apply IsS83.drewN | apply IsS83.drew | apply IsS83.set_1 | apply IsS83.set_2) | exact HI0.out)); (case side2 => repeat (first | (with_reducible first | exact HB.out | apply h1 | apply h2 | apply h3 | refine h4 ?_ (IsS83.ge HI0.out)) | exact HB.out)); rintro e w4 ⟨rfl, hi, hb, hk⟩; refine ⟨_, rfl, ?_⟩; have n0_ := Aside0.mk (KeepBut.trans (by repeat (first | (with_reducible first | exact HK.out | apply KeepBut.set_ | apply keep_drewN | apply keep_drew | apply keep_alloc) | exact HK.out)) hk (.inl rfl)); have n1_ := Aside0.mk (hb); have n2_ := Aside0.mk (hi); clear HK; clear HB; clear HI0; have HK := n0_; have HB := n1_; have HI0 := n2_; clear n0_ n1_ n2_; (try clear hb); (try clear hb2); (try clear hk); (try clear hi)) | ((with_reducible refine gate_callee (f := 59) rfl ?_); refine goesL_ (some 8) rfl rfl Try.func59 (by kernel_rfl) rfl #[.pointer (some ⟨g, 0, none⟩), .int .i64 6] rfl (by (try simp only [List.map_toArray, List.map_cons, List.map_nil]); first | done | rfl) ?_; (with_reducible refine (spec_l1Below.calls g s0_0 t419 t420 6 t421 t422 t423 w0 _ ?side1 ?side2 A3.out).mono ?_); (case side1 => repeat (first | (with_reducible first | exact HI0.out | apply IsS83.alloc | apply IsS83.drewN | apply IsS83.drew | apply IsS83.set_1 | apply IsS83.set_2) | exact HI0.out)); (case side2 => repeat (first | (with_reducible first | exact HB.out | apply h1 | apply h2 | apply h3 | refine h4 ?_ (IsS83.ge HI0.out)) | exact HB.out)); rintro e w5 ⟨rfl, hi, hb, hk⟩; refine ⟨_, rfl, ?_⟩; have n0_ := Aside0.mk (KeepBut.trans (by repeat (first | (with_reducible first | exact HK.out | apply KeepBut.set_ | apply keep_drewN | apply keep_drew | apply keep_alloc) | exact HK.out)) hk (.inl rfl)); have n1_ := Aside0.mk (hb); have n2_ := Aside0.mk (hi); clear HK; clear HB; clear HI0; have HK := n0_; have HB := n1_; have HI0 := n2_; clear n0_ n1_ n2_; (try clear hb); (try clear hb2); (try clear hk); (try clear hi)))
 go_loopg [3, 4] k (fun kq v3 v4 w' => ∃ (x3_1 : Int) (x4_1 : Int) (x1001_1 : Int) (x1002_1 : Int), v3 = .int .i64 x3_1 ∧ v4 = .int .i64 x4_1 ∧ Aside0 (spec_l1number.l0 kq x3_1 x4_1 s0_0 x1001_1 x1002_1 = some (r1, r2, r3)) ∧ Aside0 (kq ≤ k) ∧ Aside0 (IsS83 w0 w' g s0_0 x1001_1 x1002_1) ∧ Aside0 (KeepBut w w' g none) ∧ Aside0 (Below w0.heap.size w0 w'))
 case atStart => exact ⟨(t418), (t421), (t422), (t423), (by first | rfl | (simp; done) | (simp [*]; done)), (by first | rfl | (simp; done) | (simp [*]; done)), H', ⟨Nat.le_refl _⟩, ⟨by repeat (first | (with_reducible first | exact HI0.out | apply IsS83.alloc | apply IsS83.drewN | apply IsS83.drew | apply IsS83.set_1 | apply IsS83.set_2) | exact HI0.out)⟩, ⟨by repeat (first | (with_reducible first | exact HK.out | apply KeepBut.set_ | apply keep_drewN | apply keep_drew | apply keep_alloc) | exact HK.out)⟩, ⟨by repeat (first | (with_reducible first | exact HB.out | apply h1 | apply h2 | apply h3 | refine h4 ?_ (IsS83.ge HI0.out)) | exact HB.out)⟩⟩
 case round =>
  clear H'
  try clear p2
  try clear c5
  obtain ⟨x3_1, x4_1, x1001_1, x1002_1, rfl, rfl, HA, HK1, HI0, HK, HB⟩ := hrel
  cases gk with
  | zero => exact absurd HA.out (by simp [spec_l1number.l0])
  | succ k1 =>
   have H := HA.out
   clear HA
   simp only [spec_l1number.l0] at H
   by_cases c6 : x4_1 > 0
   ·rw [if_pos c6] at H
    have c6b0 : decide (0 < x4_1) = true := decide_eq_true c6
    clear c6
    replace H := Option.bind_eq_some_iff.mp H
    obtain ⟨⟨t424, t425, t426⟩, A70, H⟩ := H
    (try dsimp only at H)
    have A7 := Aside0.mk A70
    clear A70
    have H' := Aside0.mk H
    clear H
    go_wp2_with (first | ((with_reducible refine gate_callee (f := 88) rfl ?_); refine goesL_ (some 16) rfl rfl Try.func88 (by kernel_rfl) rfl #[.pointer (some ⟨g, 0, none⟩)] rfl (by (try simp only [List.map_toArray, List.map_cons, List.map_nil]); first | done | rfl) ?_; (with_reducible refine (spec_l1Byte.calls g s0_0 x1001_1 x1002_1 t424 t425 t426 w0 _ ?side1 ?side2 A7.out).mono ?_); (case side1 => repeat (first | (with_reducible first | exact HI0.out | apply IsS83.alloc | apply IsS83.drewN | apply IsS83.drew | apply IsS83.set_1 | apply IsS83.set_2) | exact HI0.out)); (case side2 => repeat (first | (with_reducible first | exact HB.out | apply h1 | apply h2 | apply h3 | refine h4 ?_ (IsS83.ge HI0.out)) | exact HB.out)); rintro e w8 ⟨rfl, hi, hb, hk⟩; refine ⟨_, rfl, ?_⟩; have n0_ := Aside0.mk (KeepBut.trans (by repeat (first | (with_reducible first | exact HK.out | apply KeepBut.set_ | apply keep_drewN | apply keep_drew | apply keep_alloc) | exact HK.out)) hk (.inl rfl)); have n1_ := Aside0.mk (hb); have n2_ := Aside0.mk (hi); clear HK; clear HB; clear HI0; have HK := n0_; have HB := n1_; have HI0 := n2_; clear n0_ n1_ n2_; (try clear hb); (try clear hb2); (try clear hk); (try clear hi)))
    go_roundg k1
    case measure => have := HK1.out; omega
    case rel => exact ⟨(wrap64 ((wrap64 (x3_1 * 256)) + t424)), (wrap64 (x4_1 - 1)), (t425), (t426), (by first | rfl | (simp; done) | (simp [*]; done)), (by first | rfl | (simp; done) | (simp [*]; done)), H', ⟨by have := HK1.out; omega⟩, ⟨by repeat (first | (with_reducible first | exact HI0.out | apply IsS83.alloc | apply IsS83.drewN | apply IsS83.drew | apply IsS83.set_1 | apply IsS83.set_2) | exact HI0.out)⟩, ⟨by repeat (first | (with_reducible first | exact HK.out | apply KeepBut.set_ | apply keep_drewN | apply keep_drew | apply keep_alloc) | exact HK.out)⟩, ⟨by repeat (first | (with_reducible first | exact HB.out | apply h1 | apply h2 | apply h3 | refine h4 ?_ (IsS83.ge HI0.out)) | exact HB.out)⟩⟩
   ·rw [if_neg c6] at H
    have c6b0 : decide (0 < x4_1) = false := decide_eq_false c6
    clear c6
    replace H := Option.bind_eq_some_iff.mp H
    obtain ⟨⟨t427, t428, t429⟩, A90, H⟩ := H
    (try dsimp only at H)
    have A9 := Aside0.mk A90
    clear A90
    by_cases c10 : t427 = 0
    ·rw [if_pos c10] at H
     have c10b0 : (t427 == 0) = true := beq_iff_eq.mpr c10
     have c10b1 : (t427 != 0) = false := bne_eq_false_iff_eq.mpr c10
     clear c10
     simp only [Option.some.injEq, Prod.mk.injEq] at H
     obtain ⟨rfl, rfl, rfl⟩ := H
     go_wp2_with (first | ((with_reducible refine gate_callee (f := 59) rfl ?_); refine goesL_ (some 19) rfl rfl Try.func59 (by kernel_rfl) rfl #[.pointer (some ⟨g, 0, none⟩), .int .i64 12] rfl (by (try simp only [List.map_toArray, List.map_cons, List.map_nil]); first | done | rfl) ?_; (with_reducible refine (spec_l1Below.calls g s0_0 x1001_1 x1002_1 12 t427 t428 t429 w0 _ ?side1 ?side2 A9.out).mono ?_); (case side1 => repeat (first | (with_reducible first | exact HI0.out | apply IsS83.alloc | apply IsS83.drewN | apply IsS83.drew | apply IsS83.set_1 | apply IsS83.set_2) | exact HI0.out)); (case side2 => repeat (first | (with_reducible first | exact HB.out | apply h1 | apply h2 | apply h3 | refine h4 ?_ (IsS83.ge HI0.out)) | exact HB.out)); rintro e w11 ⟨rfl, hi, hb, hk⟩; refine ⟨_, rfl, ?_⟩; have n0_ := Aside0.mk (KeepBut.trans (by repeat (first | (with_reducible first | exact HK.out | apply KeepBut.set_ | apply keep_drewN | apply keep_drew | apply keep_alloc) | exact HK.out)) hk (.inl rfl)); have n1_ := Aside0.mk (hb); have n2_ := Aside0.mk (hi); clear HK; clear HB; clear HI0; have HK := n0_; have HB := n1_; have HI0 := n2_; clear n0_ n1_ n2_; (try clear hb); (try clear hb2); (try clear hk); (try clear hi)))
     go_ret
     exact ⟨by first | rfl | (simp [errW_none, errW_some] <;> rfl) | (simp [*, errW_none, errW_some] <;> rfl), by repeat (first | (with_reducible first | exact HI0.out | apply IsS83.alloc | apply IsS83.drewN | apply IsS83.drew | apply IsS83.set_1 | apply IsS83.set_2) | exact HI0.out), by repeat (first | (with_reducible first | exact HB.out | apply h1 | apply h2 | apply h3 | refine h4 ?_ (IsS83.ge HI0.out)) | exact HB.out), by repeat (first | (with_reducible first | exact HK.out | apply KeepBut.set_ | apply keep_drewN | apply keep_drew | apply keep_alloc) | exact HK.out)⟩
    ·rw [if_neg c10] at H
     have c10b0 : (t427 == 0) = false := beq_eq_false_iff_ne.mpr c10
     have c10b1 : (t427 != 0) = true := bne_iff_ne.mpr c10
     by_cases c12 : t427 = 1
     ·rw [if_pos c12] at H
      have c12b0 : (t427 == 1) = true := beq_iff_eq.mpr c12
      have c12b1 : (t427 != 1) = false := bne_eq_false_iff_eq.mpr c12
      clear c12
      replace H := Option.bind_eq_some_iff.mp H
      obtain ⟨⟨t430, t431, t432⟩, A130, H⟩ := H
      (try dsimp only at H)
      have A13 := Aside0.mk A130
      clear A130
      obtain ⟨ji14, hji14⟩ : ∃ j_ : Int, (wrap64 (8 * (wrap64 (1 + t430)))) = j_ := ⟨_, rfl⟩
      replace H : (if 0 ≤ (ji14) then ((spec_l1Below.f s0_0 t431 t432 2).bind fun bt433 => (some (wrap64 ((shl .i64 1 (ji14)) - bt433.1), bt433.2.1, bt433.2.2))) else (none)) = some (r1, r2, r3) := by first | (rw [hji14] at H; exact H) | (simp only [hji14] at H ⊢; exact H)
      (try rw [hji14] at A9)
      (try rw [hji14] at A13)
      have hji14w : (IntKind.i64.wrap (8 * (wrap64 (1 + t430)))) = ji14 := (i64_w _).trans hji14
      by_cases c15 : 0 ≤ (ji14)
      ·rw [if_pos c15] at H
       have c15b0 := eq_true c15
       have c15b1 : decide (0 ≤ (ji14)) = true := decide_eq_true c15
       clear c15
       obtain ⟨ji16, hji16⟩ : ∃ j_ : Int, (shl .i64 1 (ji14)) = j_ := ⟨_, rfl⟩
       replace H : ((spec_l1Below.f s0_0 t431 t432 2).bind fun bt433 => (some (wrap64 ((ji16) - bt433.1), bt433.2.1, bt433.2.2))) = some (r1, r2, r3) := by first | (rw [hji16] at H; exact H) | (simp only [hji16] at H ⊢; exact H)
       (try rw [hji16] at A9)
       (try rw [hji16] at A13)
       have hji16_ : (IntKind.i64.wrap (1 * 2 ^ min (ji14).toNat 64)) = ji16 := hji16
       have hji16z : (ji14) ≤ 64 → (IntKind.i64.wrap (1 * 2 ^ (ji14).toNat)) = ji16 := shl_small hji16
       have hji16u : (IntKind.i64.wrap (2 ^ min (ji14).toNat 64)) = ji16 := by have h_ := hji16_; rw [Int.one_mul] at h_; exact h_
       have hji16v : (ji14) ≤ 64 → (IntKind.i64.wrap (2 ^ (ji14).toNat)) = ji16 := fun hle_ => by have h_ := hji16z hle_; rw [Int.one_mul] at h_; exact h_
       have hji16y : (wrap64 (1 * 2 ^ min (ji14).toNat 64)) = ji16 := (i64_w _).symm.trans hji16_
       have hji16x : (ji14) ≤ 64 → (wrap64 (1 * 2 ^ (ji14).toNat)) = ji16 := fun h_ => (i64_w _).symm.trans (hji16z h_)
       replace H := Option.bind_eq_some_iff.mp H
       obtain ⟨⟨t433, t434, t435⟩, A170, H⟩ := H
       (try dsimp only at H)
       have A17 := Aside0.mk A170
       clear A170
       simp only [Option.some.injEq, Prod.mk.injEq] at H
       obtain ⟨rfl, rfl, rfl⟩ := H
       try go_wp2_with (first | ((with_reducible refine gate_callee (f := 59) rfl ?_); refine goesL_ (some 19) rfl rfl Try.func59 (by kernel_rfl) rfl #[.pointer (some ⟨g, 0, none⟩), .int .i64 12] rfl (by (try simp only [List.map_toArray, List.map_cons, List.map_nil]); first | done | rfl) ?_; (with_reducible refine (spec_l1Below.calls g s0_0 x1001_1 x1002_1 12 t427 t428 t429 w0 _ ?side1 ?side2 A9.out).mono ?_); (case side1 => repeat (first | (with_reducible first | exact HI0.out | apply IsS83.alloc | apply IsS83.drewN | apply IsS83.drew | apply IsS83.set_1 | apply IsS83.set_2) | exact HI0.out)); (case side2 => repeat (first | (with_reducible first | exact HB.out | apply h1 | apply h2 | apply h3 | refine h4 ?_ (IsS83.ge HI0.out)) | exact HB.out)); rintro e w18 ⟨rfl, hi, hb, hk⟩; refine ⟨_, rfl, ?_⟩; have n0_ := Aside0.mk (KeepBut.trans (by repeat (first | (with_reducible first | exact HK.out | apply KeepBut.set_ | apply keep_drewN | apply keep_drew | apply keep_alloc) | exact HK.out)) hk (.inl rfl)); have n1_ := Aside0.mk (hb); have n2_ := Aside0.mk (hi); clear HK; clear HB; clear HI0; have HK := n0_; have HB := n1_; have HI0 := n2_; clear n0_ n1_ n2_; (try clear hb); (try clear hb2); (try clear hk); (try clear hi)))
       have n0_ := Aside0.mk (IsS83.drew HI0.out)
       have n1_ := Aside0.mk (keep_drew HK.out)
       have n2_ := Aside0.mk (below_drew1 HB.out)
       clear HI0
       clear HK
       clear HB
       have HI0 := n0_
       have HK := n1_
       have HB := n2_
       clear n0_ n1_ n2_
       refine start_ (n := 9) (S := fun w' => True) (ds := []) #[false, false, false, false, false, false, false, false, false] (by kernel_rfl) rfl rfl trivial (fun hHeld => ?_); refine with_tabW spec_l1number.tab10 spec_l1number.bits10 (fun HT_ HW_ => ?_)
       generalize w18.drew = w19 at HI0 HK HB hHeld ⊢
       refine pure_ (i := 0) (N := some 26) (v := ?_) (a' := ?_) #[true, false, false, false, false, false, false, false, false] rfl rfl (any_of HT_.out (by kernel_rfl)) (fun _ _ _ h => h) (Or.inl ⟨by rfl, ?_⟩) ?_ ?_
       rotate_left
       ·intro w'
        go_simp
        with_reducible rfl
       rotate_left
       ·simp only [Act.put, List.setIfInBounds_toArray, List.set_cons_zero, List.set_cons_succ, i64_w, i32_w]
        rfl
       refine pure_ (i := 5) (N := some 31) (v := ?_) (a' := ?_) #[true, false, false, false, false, true, false, false, false] rfl rfl (any_of HT_.out (by kernel_rfl)) (fun _ _ _ h => h) (Or.inl ⟨by rfl, ?_⟩) ?_ ?_
       rotate_left
       ·intro w'
        go_simp
        with_reducible rfl
       rotate_left
       ·simp only [Act.put, List.setIfInBounds_toArray, List.set_cons_zero, List.set_cons_succ, i64_w, i32_w]
        rfl
       refine one_ (i := 1) (N := some 27) #[true, true, false, false, false, true, false, false, false] rfl rfl (one_of HT_.out (by kernel_rfl)) (by decide) (fun K hK => ?_)
       refine goes_ Try.func59 (by kernel_rfl) rfl #[.pointer (some ⟨g, 0, none⟩), .int .i64 7] (by rfl) rfl rfl (by (try simp only [List.map_toArray, List.map_cons, List.map_nil]); first | done | rfl) ?_
       with_reducible refine (spec_l1Below.calls g s0_0 t428 t429 7 t430 t431 t432 w0 _ ?side1 ?side2 A13.out).mono ?_
       (case side1 => repeat (first | (with_reducible first | exact HI0.out | apply IsS83.alloc | apply IsS83.drewN | apply IsS83.drew | apply IsS83.set_1 | apply IsS83.set_2) | exact HI0.out))
       (case side2 => repeat (first | (with_reducible first | exact HB.out | apply h1 | apply h2 | apply h3 | refine h4 ?_ (IsS83.ge HI0.out)) | exact HB.out))
       rintro e w20 ⟨rfl, hi, hb, hk⟩
       refine ⟨_, rfl, ?_⟩
       have n0_ := Aside0.mk (KeepBut.trans (by repeat (first | (with_reducible first | exact HK.out | apply KeepBut.set_ | apply keep_drewN | apply keep_drew | apply keep_alloc) | exact HK.out)) hk (.inl rfl))
       have n1_ := Aside0.mk (hb)
       have n2_ := Aside0.mk (hi)
       clear HK
       clear HB
       clear HI0
       have HK := n0_
       have HB := n1_
       have HI0 := n2_
       clear n0_ n1_ n2_
       (try clear hb)
       (try clear hb2)
       (try clear hk)
       (try clear hi)
       refine hK.out _ _ trivial (fun hHeld => ?_)
       clear hK K
       refine norm_ (a' := ?_) ?_ ?_
       rotate_left
       ·show Act.put _ (some 27) _ = _
        simp only [Act.put, List.setIfInBounds_toArray, List.set_cons_zero, List.set_cons_succ, i64_w, i32_w]
        rfl
       refine pure_ (i := 2) (N := some 28) (v := ?_) (a' := ?_) #[true, true, true, false, false, true, false, false, false] rfl rfl (any_of HT_.out (by kernel_rfl)) (fun _ _ _ h => h) (Or.inl ⟨by rfl, ?_⟩) ?_ ?_
       rotate_left
       ·intro w'
        go_simp
        with_reducible rfl
       rotate_left
       ·simp only [Act.put, List.setIfInBounds_toArray, List.set_cons_zero, List.set_cons_succ, i64_w, i32_w]
        rfl
       refine pure_ (i := 3) (N := some 29) (v := ?_) (a' := ?_) #[true, true, true, true, false, true, false, false, false] rfl rfl (any_of HT_.out (by kernel_rfl)) (fun _ _ _ h => h) (Or.inl ⟨by rfl, ?_⟩) ?_ ?_
       rotate_left
       ·intro w'
        go_simp
        with_reducible rfl
       rotate_left
       ·simp only [Act.put, List.setIfInBounds_toArray, List.set_cons_zero, List.set_cons_succ, i64_w, i32_w]
        rfl
       refine pure_ (i := 4) (N := some 30) (v := ?_) (a' := ?_) #[true, true, true, true, true, true, false, false, false] rfl rfl (any_of HT_.out (by kernel_rfl)) (fun _ _ _ h => h) (Or.inl ⟨by rfl, ?_⟩) ?_ ?_
       rotate_left
       ·intro w'
        go_simp
        with_reducible rfl
       rotate_left
       ·simp only [Act.put, List.setIfInBounds_toArray, List.set_cons_zero, List.set_cons_succ, i64_w, i32_w]
        rfl
       refine one_ (i := 6) (N := some 32) #[true, true, true, true, true, true, true, false, false] rfl rfl (one_of HT_.out (by kernel_rfl)) (by decide) (fun K hK => ?_)
       refine goes_ Try.func59 (by kernel_rfl) rfl #[.pointer (some ⟨g, 0, none⟩), .int .i64 2] (by rfl) rfl rfl (by (try simp only [List.map_toArray, List.map_cons, List.map_nil]); first | done | rfl) ?_
       with_reducible refine (spec_l1Below.calls g s0_0 t431 t432 2 t433 t434 t435 w0 _ ?side1 ?side2 A17.out).mono ?_
       (case side1 => repeat (first | (with_reducible first | exact HI0.out | apply IsS83.alloc | apply IsS83.drewN | apply IsS83.drew | apply IsS83.set_1 | apply IsS83.set_2) | exact HI0.out))
       (case side2 => repeat (first | (with_reducible first | exact HB.out | apply h1 | apply h2 | apply h3 | refine h4 ?_ (IsS83.ge HI0.out)) | exact HB.out))
       rintro e w21 ⟨rfl, hi, hb, hk⟩
       refine ⟨_, rfl, ?_⟩
       have n0_ := Aside0.mk (KeepBut.trans (by repeat (first | (with_reducible first | exact HK.out | apply KeepBut.set_ | apply keep_drewN | apply keep_drew | apply keep_alloc) | exact HK.out)) hk (.inl rfl))
       have n1_ := Aside0.mk (hb)
       have n2_ := Aside0.mk (hi)
       clear HK
       clear HB
       clear HI0
       have HK := n0_
       have HB := n1_
       have HI0 := n2_
       clear n0_ n1_ n2_
       (try clear hb)
       (try clear hb2)
       (try clear hk)
       (try clear hi)
       refine hK.out _ _ trivial (fun hHeld => ?_)
       clear hK K
       refine norm_ (a' := ?_) ?_ ?_
       rotate_left
       ·show Act.put _ (some 32) _ = _
        simp only [Act.put, List.setIfInBounds_toArray, List.set_cons_zero, List.set_cons_succ, i64_w, i32_w]
        rfl
       refine pure_ (i := 7) (N := some 33) (v := ?_) (a' := ?_) #[true, true, true, true, true, true, true, true, false] rfl rfl (any_of HT_.out (by kernel_rfl)) (fun _ _ _ h => h) (Or.inl ⟨by rfl, ?_⟩) ?_ ?_
       rotate_left
       ·intro w'
        go_simp
        with_reducible rfl
       rotate_left
       ·simp only [Act.put, List.setIfInBounds_toArray, List.set_cons_zero, List.set_cons_succ, i64_w, i32_w]
        rfl
       refine pure_ (i := 8) (N := some 2) (v := ?_) (a' := ?_) #[true, true, true, true, true, true, true, true, true] rfl rfl (any_of HT_.out (by kernel_rfl)) (fun _ _ _ h => h) (Or.inl ⟨by rfl, ?_⟩) ?_ ?_
       rotate_left
       ·intro w'
        go_simp
        with_reducible rfl
       rotate_left
       ·simp only [Act.put, List.setIfInBounds_toArray, List.set_cons_zero, List.set_cons_succ, i64_w, i32_w]
        rfl
       refine done_ (done_of HT_.out (by kernel_rfl)) ?_
       try go_wp2
       go_ret
       exact ⟨by first | rfl | (simp [errW_none, errW_some] <;> rfl) | (simp only [← hji14, ← hji16]; first | rfl | (simp [errW_none, errW_some] <;> rfl)) | (simp [*, errW_none, errW_some] <;> rfl), by repeat (first | (with_reducible first | exact HI0.out | apply IsS83.alloc | apply IsS83.drewN | apply IsS83.drew | apply IsS83.set_1 | apply IsS83.set_2) | exact HI0.out), by repeat (first | (with_reducible first | exact HB.out | apply h1 | apply h2 | apply h3 | refine h4 ?_ (IsS83.ge HI0.out)) | exact HB.out), by repeat (first | (with_reducible first | exact HK.out | apply KeepBut.set_ | apply keep_drewN | apply keep_drew | apply keep_alloc) | exact HK.out)⟩
      ·rw [if_neg c15] at H
       exact absurd H (by simp)
     ·rw [if_neg c12] at H
      have c12b0 : (t427 == 1) = false := beq_eq_false_iff_ne.mpr c12
      have c12b1 : (t427 != 1) = true := bne_iff_ne.mpr c12
      repeat (first | ((fail_if_success (with_reducible refine gate_callee (f := 59) rfl ?_)); first | go_values | go_skip | go_guarded | go_step | go_upon | go_back | (simp only [Int.not_lt, Int.not_le] at *; go_simp)))
      (with_reducible refine gate_callee (f := 59) rfl ?_); refine goesL_ (some 19) rfl rfl Try.func59 (by kernel_rfl) rfl #[.pointer (some ⟨g, 0, none⟩), .int .i64 12] rfl (by (try simp only [List.map_toArray, List.map_cons, List.map_nil]); first | done | rfl) ?_; (with_reducible refine (spec_l1Below.calls g s0_0 x1001_1 x1002_1 12 t427 t428 t429 w0 _ ?side1 ?side2 A9.out).mono ?_); (case side1 => repeat (first | (with_reducible first | exact HI0.out | apply IsS83.alloc | apply IsS83.drewN | apply IsS83.drew | apply IsS83.set_1 | apply IsS83.set_2) | exact HI0.out)); (case side2 => repeat (first | (with_reducible first | exact HB.out | apply h1 | apply h2 | apply h3 | refine h4 ?_ (IsS83.ge HI0.out)) | exact HB.out)); rintro e w23 ⟨rfl, hi, hb, hk⟩; refine ⟨_, rfl, ?_⟩; have n0_ := Aside0.mk (KeepBut.trans (by repeat (first | (with_reducible first | exact HK.out | apply KeepBut.set_ | apply keep_drewN | apply keep_drew | apply keep_alloc) | exact HK.out)) hk (.inl rfl)); have n1_ := Aside0.mk (hb); have n2_ := Aside0.mk (hi); clear HK; clear HB; clear HI0; have HK := n0_; have HB := n1_; have HI0 := n2_; clear n0_ n1_ n2_; (try clear hb); (try clear hb2); (try clear hk); (try clear hi)
      by_cases c22 : t427 = 2
      ·rw [if_pos c22] at H
       have c22b0 : (t427 == 2) = true := beq_iff_eq.mpr c22
       have c22b1 : (t427 != 2) = false := bne_eq_false_iff_eq.mpr c22
       (try simp only [c22b0, c22b1, Bool.not_true, Bool.not_false])
       clear c22
       simp only [Option.some.injEq, Prod.mk.injEq] at H
       obtain ⟨rfl, rfl, rfl⟩ := H
       try go_wp2
       go_ret
       exact ⟨by first | rfl | (simp [errW_none, errW_some] <;> rfl) | (simp [*, errW_none, errW_some] <;> rfl), by repeat (first | (with_reducible first | exact HI0.out | apply IsS83.alloc | apply IsS83.drewN | apply IsS83.drew | apply IsS83.set_1 | apply IsS83.set_2) | exact HI0.out), by repeat (first | (with_reducible first | exact HB.out | apply h1 | apply h2 | apply h3 | refine h4 ?_ (IsS83.ge HI0.out)) | exact HB.out), by repeat (first | (with_reducible first | exact HK.out | apply KeepBut.set_ | apply keep_drewN | apply keep_drew | apply keep_alloc) | exact HK.out)⟩
      ·rw [if_neg c22] at H
       have c22b0 : (t427 == 2) = false := beq_eq_false_iff_ne.mpr c22
       have c22b1 : (t427 != 2) = true := bne_iff_ne.mpr c22
       (try simp only [c22b0, c22b1, Bool.not_true, Bool.not_false])
       by_cases c24 : t427 = 3
       ·rw [if_pos c24] at H
        have c24b0 : (t427 == 3) = true := beq_iff_eq.mpr c24
        have c24b1 : (t427 != 3) = false := bne_eq_false_iff_eq.mpr c24
        (try simp only [c24b0, c24b1, Bool.not_true, Bool.not_false])
        clear c24
        simp only [Option.some.injEq, Prod.mk.injEq] at H
        obtain ⟨rfl, rfl, rfl⟩ := H
        try go_wp2
        go_ret
        exact ⟨by first | rfl | (simp [errW_none, errW_some] <;> rfl) | (simp [*, errW_none, errW_some] <;> rfl), by repeat (first | (with_reducible first | exact HI0.out | apply IsS83.alloc | apply IsS83.drewN | apply IsS83.drew | apply IsS83.set_1 | apply IsS83.set_2) | exact HI0.out), by repeat (first | (with_reducible first | exact HB.out | apply h1 | apply h2 | apply h3 | refine h4 ?_ (IsS83.ge HI0.out)) | exact HB.out), by repeat (first | (with_reducible first | exact HK.out | apply KeepBut.set_ | apply keep_drewN | apply keep_drew | apply keep_alloc) | exact HK.out)⟩
       ·rw [if_neg c24] at H
        have c24b0 : (t427 == 3) = false := beq_eq_false_iff_ne.mpr c24
        have c24b1 : (t427 != 3) = true := bne_iff_ne.mpr c24
        (try simp only [c24b0, c24b1, Bool.not_true, Bool.not_false])
        simp only [Option.some.injEq, Prod.mk.injEq] at H
        obtain ⟨rfl, rfl, rfl⟩ := H
        try go_wp2
        go_ret
        exact ⟨by first | rfl | (simp [errW_none, errW_some] <;> rfl) | (simp [*, errW_none, errW_some] <;> rfl), by repeat (first | (with_reducible first | exact HI0.out | apply IsS83.alloc | apply IsS83.drewN | apply IsS83.drew | apply IsS83.set_1 | apply IsS83.set_2) | exact HI0.out), by repeat (first | (with_reducible first | exact HB.out | apply h1 | apply h2 | apply h3 | refine h4 ?_ (IsS83.ge HI0.out)) | exact HB.out), by repeat (first | (with_reducible first | exact HK.out | apply KeepBut.set_ | apply keep_drewN | apply keep_drew | apply keep_alloc) | exact HK.out)⟩
def spec_l3value.f (k : Nat) (s0_0 : List Int) (s0_1 : Int) (s0_2 : Int) : Option (Int × Int × Nat × List Int × Int × Int) := (spec_l1Below.f s0_0 s0_1 s0_2 5).bind fun bt437 => (if bt437.1 = 0 then ((spec_l1some.f k s0_0 bt437.2.1 bt437.2.2 8).bind fun bt440 => (some (3, 0, 0, bt440.1, bt440.2.1, bt440.2.2))) else (if bt437.1 = 1 then ((spec_l2float.f k s0_0 bt437.2.1 bt437.2.2).bind fun bt445 => (some (2, 0, bt445.1, ([] : List Int), bt445.2.1, bt445.2.2))) else (if bt437.1 = 2 then ((spec_l1Below.f s0_0 bt437.2.1 bt437.2.2 64).bind fun bt448 => (if (fok .quo (fofi (wrap64 (bt448.1 - 32))) 4616189618054758400) = true then (some (2, 0, cn (fval .quo (fofi (wrap64 (bt448.1 - 32))) 4616189618054758400), ([] : List Int), bt448.2.1, bt448.2.2)) else (none))) else (if bt437.1 = 3 then ((spec_l1Once.f s0_0 bt437.2.1 bt437.2.2 5).bind fun bt451 => (if bt451.1 = true then ((spec_l1some.f k s0_0 bt451.2.1 bt451.2.2 40).bind fun bt454 => (some (3, 0, 0, bt454.1, bt454.2.1, bt454.2.2))) else ((spec_l1number.f k s0_0 bt451.2.1 bt451.2.2).bind fun bt459 => (some (1, bt459.1, 0, ([] : List Int), bt459.2.1, bt459.2.2))))) else ((spec_l1number.f k s0_0 bt437.2.1 bt437.2.2).bind fun bt462 => (some (1, bt462.1, 0, ([] : List Int), bt462.2.1, bt462.2.2)))))))
theorem spec_l3value.mono : ∀ a0 a1 a2 k, LeO (spec_l3value.f k a0 a1 a2) (spec_l3value.f (k + 1) a0 a1 a2) := by
 intro a0 a1 a2 k
 unfold spec_l3value.f
 repeat' with_reducible first | exact spec_l1number.mono _ _ _ _ | exact spec_l1some.mono _ _ _ _ _ | exact spec_l2float.mono _ _ _ _ | exact LeO.refl _ | exact LeO.none _ | refine LeO.ite ?_ ?_ | refine LeO.bind ?_ (fun _ => ?_)
set_option maxHeartbeats 8000000 in
set_option maxRecDepth 100000 in
theorem spec_l3value.callsC (k : Nat) (g : Nat) (s0_0 : List Int) (s0_1 : Int) (s0_2 : Int) (r1 : Int) (r2 : Int) (r3 : Nat) (r4 : List Int) (r5 : Int) (r6 : Int) (w0 w : World) (hI : IsS83 w0 w g s0_0 s0_1 s0_2) (hB : Below w0.heap.size w0 w) (h : spec_l3value.f k s0_0 s0_1 s0_2 = some (r1, r2, r3, r4, r5, r6)) :
  Calls Try.prog 66 #[.pointer (some ⟨g, 0, none⟩)] w fun e w' => ∃ b1_ : Nat, ∃ v3_ : Value, e = .returned (.agg #[.int .i64 r1, .int .i64 r2, .float .f64 b1_, v3_]) ∧ Kd.R (Kd.int .u8) 5 w' w.heap.size (fun _ => True) v3_ r4 ∧ IsS83 w0 w' g s0_0 r5 r6 ∧ Below w0.heap.size w0 w' ∧ KeepBut w w' g none ∧ Aside0 (cn b1_ = r3 ∧ b1_ < 2 ^ 64) := by
 have hu25 := Try.underlying25
 have HI0 := Aside0.mk hI
 have HK := Aside0.mk (KeepBut.refl w g none)
 have HL := Aside0.mk hB.size
 clear hI
 have HW0 := Aside0.mk hB.size
 have HB := Aside0.mk hB
 clear hB
 have H := h
 clear h
 unfold spec_l3value.f at H
 replace H := Option.bind_eq_some_iff.mp H
 obtain ⟨⟨t437, t438, t439⟩, A20, H⟩ := H
 (try dsimp only at H)
 have A2 := Aside0.mk A20
 clear A20
 go_enter Try.func66, Try.ntmps66
 repeat (first | ((with_reducible refine gate_dst (N := 2) rfl ?_); refine box_event ?hg (N := 2) ?hd (cs := #[.int .i64 0, .int .i64 0, .float .f64 0, .slice none 0 0]) (t := 25) ?hr ?_; (case hd => rfl); (case hg => rfl); (case hr => first | (go_simp; done) | (go_simp; rfl)); intro gb436 hg w5 hbox hb; have n0_ := Aside0.mk (IsS83.below (by repeat (first | (with_reducible first | exact HI0.out | apply IsS83.alloc | apply IsS83.drewN | apply IsS83.drew | apply IsS83.set_1 | apply IsS83.set_2) | exact HI0.out)) hb); have n1_ := Aside0.mk (KeepBut.trans (by repeat (first | (with_reducible first | exact HK.out | apply KeepBut.set_ | apply keep_drewN | apply keep_drew | apply keep_alloc) | exact HK.out)) (KeepBut.of_below hb g none) (.inl rfl)); have n2_ := Aside0.mk (below_step (by repeat (first | (with_reducible first | exact HB.out | apply h1 | apply h2 | apply h3 | refine h4 ?_ (IsS83.ge HI0.out)) | exact HB.out)) hb); have n3_ := Aside0.mk (hbox); have n4_ := Geq.mk ((by rw [hg]; exact (keep_size (w := w) (g := g) (row := none) (by repeat (first | (with_reducible first | exact HK.out | apply KeepBut.set_ | apply keep_drewN | apply keep_drew | apply keep_alloc) | exact HK.out))) : w.heap.size ≤ gb436)); have n5_ := Aside0.mk ((Nat.le_trans HW0.out (by rw [hg]; exact (keep_size (w := w) (g := g) (row := none) (by repeat (first | (with_reducible first | exact HK.out | apply KeepBut.set_ | apply keep_drewN | apply keep_drew | apply keep_alloc) | exact HK.out))) : w.heap.size ≤ gb436) : w0.heap.size ≤ gb436)); have n6_ := Aside0.mk ((by rw [hg]; exact Nat.ne_of_lt (IsS83.lt (show IsS83 w0 _ g s0_0 s0_1 s0_2 from by repeat (first | (with_reducible first | exact HI0.out | apply IsS83.alloc | apply IsS83.drewN | apply IsS83.drew | apply IsS83.set_1 | apply IsS83.set_2) | exact HI0.out))) : g ≠ gb436)); have n7_ := Aside0.mk ((by rw [hg]; exact Nat.ne_of_gt (IsS83.lt (show IsS83 w0 _ g s0_0 s0_1 s0_2 from by repeat (first | (with_reducible first | exact HI0.out | apply IsS83.alloc | apply IsS83.drewN | apply IsS83.drew | apply IsS83.set_1 | apply IsS83.set_2) | exact HI0.out))) : gb436 ≠ g)); clear HI0; clear HK; clear HB; have HI0 := n0_; have HK := n1_; have HB := n2_; have BK436 := n3_; have GW436 := n4_; have GE436 := n5_; have NB0_436 := n6_; have NB436_0 := n7_; clear n0_ n1_ n2_ n3_ n4_ n5_ n6_ n7_; clear hb hbox hg) | ((fail_if_success (with_reducible refine gate_callee (f := 59) rfl ?_)); first | go_values | go_skip | go_guarded | go_step | go_upon | go_back | (simp only [Int.not_lt, Int.not_le] at *; go_simp)))
 (with_reducible refine gate_callee (f := 59) rfl ?_); refine goesL_ (some 4) rfl rfl Try.func59 (by kernel_rfl) rfl #[.pointer (some ⟨g, 0, none⟩), .int .i64 5] rfl (by (try simp only [List.map_toArray, List.map_cons, List.map_nil]); first | done | rfl) ?_; (with_reducible refine (spec_l1Below.calls g s0_0 s0_1 s0_2 5 t437 t438 t439 w0 _ ?side1 ?side2 A2.out).mono ?_); (case side1 => repeat (first | (with_reducible first | exact HI0.out | apply IsS83.alloc | apply IsS83.drewN | apply IsS83.drew | apply IsS83.set_1 | apply IsS83.set_2 | refine IsS83.far ?_ NB0_436.out _) | exact HI0.out)); (case side2 => repeat (first | (with_reducible first | exact HB.out | apply h1 | apply h2 | apply h3 | refine h4 ?_ (IsS83.ge HI0.out) | refine h4 ?_ GE436.out) | exact HB.out)); rintro e w6 ⟨rfl, hi, hb, hk⟩; refine ⟨_, rfl, ?_⟩; have n0_ := Aside0.mk (KeepBut.blk hk (g' := gb436) (o := .cells #[.int .i64 0, .int .i64 0, .float .f64 0, .slice none 0 0] 25 (0, 0)) (bup BK436.out) NB436_0.out (by simp)); have n1_ := Aside0.mk (KeepBut.trans (by repeat (first | (with_reducible first | exact HK.out | apply KeepBut.set_ | apply keep_drewN | apply keep_drew | apply keep_alloc | refine keep_far ?_ GW436.out _) | exact HK.out)) hk (.inl rfl)); have n2_ := Aside0.mk (hb); have n3_ := Aside0.mk (hi); clear BK436; clear HK; clear HB; clear HI0; have BK436 := n0_; have HK := n1_; have HB := n2_; have HI0 := n3_; clear n0_ n1_ n2_ n3_; (try clear hb); (try clear hb2); (try clear hk); (try clear hi)
 by_cases c3 : t437 = 0
 ·rw [if_pos c3] at H
  have c3b0 : (t437 == 0) = true := beq_iff_eq.mpr c3
  have c3b1 : (t437 != 0) = false := bne_eq_false_iff_eq.mpr c3
  (try simp only [c3b0, c3b1, Bool.not_true, Bool.not_false])
  clear c3
  replace H := Option.bind_eq_some_iff.mp H
  obtain ⟨⟨t440, t443, t444⟩, A40, H⟩ := H
  (try dsimp only at H)
  have A4 := Aside0.mk A40
  clear A40
  simp only [Option.some.injEq, Prod.mk.injEq] at H
  obtain ⟨rfl, rfl, rfl, rfl, rfl, rfl⟩ := H
  try go_wp2_with (first | ((with_reducible refine gate_callee (f := 61) rfl ?_); refine goesL_ (some 8) rfl rfl Try.func61 (by kernel_rfl) rfl #[.pointer (some ⟨g, 0, none⟩), .int .i64 8] rfl (by (try simp only [List.map_toArray, List.map_cons, List.map_nil]); first | done | rfl) ?_; (with_reducible refine (spec_l1some.calls k g s0_0 t438 t439 8 t440 t443 t444 w0 _ ?side1 ?side2 A4.out).mono ?_); (case side1 => repeat (first | (with_reducible first | exact HI0.out | apply IsS83.alloc | apply IsS83.drewN | apply IsS83.drew | apply IsS83.set_1 | apply IsS83.set_2 | refine IsS83.far ?_ NB0_436.out _) | exact HI0.out)); (case side2 => repeat (first | (with_reducible first | exact HB.out | apply h1 | apply h2 | apply h3 | refine h4 ?_ (IsS83.ge HI0.out) | refine h4 ?_ GE436.out) | exact HB.out)); rintro e w7 ⟨v441, rfl, ho0, hi, hb, hk⟩; refine ⟨_, rfl, ?_⟩; have n0_ := Aside0.mk (KeepBut.blk hk (g' := gb436) (o := .cells #[.int .i64 0, .int .i64 0, .float .f64 0, .slice none 0 0] 25 (0, 0)) (bup BK436.out) NB436_0.out (by simp)); have n1_ := Aside0.mk (Kd.R_lower ho0 (keep_size (w := w) (g := g) (row := none) (by repeat (first | (with_reducible first | exact HK.out | apply KeepBut.set_ | apply keep_drewN | apply keep_drew | apply keep_alloc | refine keep_far ?_ GW436.out _) | exact HK.out)))); have n2_ := Aside0.mk (KeepBut.trans (by repeat (first | (with_reducible first | exact HK.out | apply KeepBut.set_ | apply keep_drewN | apply keep_drew | apply keep_alloc | refine keep_far ?_ GW436.out _) | exact HK.out)) hk (.inl rfl)); have n3_ := Aside0.mk (hb); have n4_ := Aside0.mk (hi); clear BK436; clear HK; clear HB; clear HI0; have BK436 := n0_; have HO442 := n1_; have HK := n2_; have HB := n3_; have HI0 := n4_; clear n0_ n1_ n2_ n3_ n4_; (try clear hb); (try clear hb2); (try clear hk); (try clear hi); (try clear ho0); obtain ⟨Ao8, co8, eo8⟩ := Kd.R_slice HO442.out; subst eo8; have hnb9 := NB436_0.out; have hnc9 := NB0_436.out; obtain ⟨hcz10_0, hcz10_1, hcz10_2, hcz10_3⟩ := blk_cells4 BK436.out; obtain ⟨hfz10_0, hfz10_1, hfz10_2, hfz10_3⟩ := blk_frozens4 BK436.out))
  refine bodyPost_ret (results_cell_row rfl _ _ gb436 25 #[.int .i64 3, .int .i64 0, .float .f64 0, .slice Ao8 t440.length co8] (0, 0) _ rfl (bput BK436.out) Try.underlying25 rfl (by kernel_rfl)) rfl ?_
  exact ⟨_, _, by first | rfl | (simp [errW_none, errW_some] <;> rfl) | (simp [*, errW_none, errW_some] <;> rfl), by exact Kd.rup (Kd.R_mono (Kd.R_far (p := ⟨gb436, 3, none⟩) (Kd.R_far (p := ⟨gb436, 2, none⟩) (Kd.R_far (p := ⟨gb436, 1, none⟩) (Kd.R_far (p := ⟨gb436, 0, none⟩) (Kd.R_types HO442.out BK436.out (by decide)) (fun _ hk => hk.2) (.int .i64 3)) (fun _ hk => hk.2) (.int .i64 0)) (fun _ hk => hk.2) (.float .f64 0)) (fun _ hk => hk.2) (.slice Ao8 t440.length co8)) (fun _ hk => trivial)), by repeat (first | (with_reducible first | exact HI0.out | apply IsS83.alloc | apply IsS83.drewN | apply IsS83.drew | apply IsS83.set_1 | apply IsS83.set_2 | refine IsS83.far ?_ NB0_436.out _) | exact HI0.out), by repeat (first | (with_reducible first | exact HB.out | apply h1 | apply h2 | apply h3 | refine h4 ?_ (IsS83.ge HI0.out) | refine h4 ?_ GE436.out) | exact HB.out), by repeat (first | (with_reducible first | exact HK.out | apply KeepBut.set_ | apply keep_drewN | apply keep_drew | apply keep_alloc | refine keep_far ?_ GW436.out _) | exact HK.out), (by first | exact ⟨⟨by first | rfl | decide, by decide⟩⟩ | exact ⟨⟨rfl, fquo_lt (by assumption)⟩⟩)⟩
 ·rw [if_neg c3] at H
  have c3b0 : (t437 == 0) = false := beq_eq_false_iff_ne.mpr c3
  have c3b1 : (t437 != 0) = true := bne_iff_ne.mpr c3
  (try simp only [c3b0, c3b1, Bool.not_true, Bool.not_false])
  by_cases c11 : t437 = 1
  ·rw [if_pos c11] at H
   have c11b0 : (t437 == 1) = true := beq_iff_eq.mpr c11
   have c11b1 : (t437 != 1) = false := bne_eq_false_iff_eq.mpr c11
   (try simp only [c11b0, c11b1, Bool.not_true, Bool.not_false])
   clear c11
   replace H := Option.bind_eq_some_iff.mp H
   obtain ⟨⟨t445, t446, t447⟩, A120, H⟩ := H
   (try dsimp only at H)
   have A12 := Aside0.mk A120
   clear A120
   simp only [Option.some.injEq, Prod.mk.injEq] at H
   obtain ⟨rfl, rfl, rfl, rfl, rfl, rfl⟩ := H
   try go_wp2_with (first | ((with_reducible refine gate_callee (f := 87) rfl ?_); refine goesL_ (some 13) rfl rfl Try.func87 (by kernel_rfl) rfl #[.pointer (some ⟨g, 0, none⟩)] rfl (by (try simp only [List.map_toArray, List.map_cons, List.map_nil]); first | done | rfl) ?_; (with_reducible refine (spec_l2float.callsC k g s0_0 t438 t439 t445 t446 t447 w0 _ ?side1 ?side2 A12.out).mono ?_); (case side1 => repeat (first | (with_reducible first | exact HI0.out | apply IsS83.alloc | apply IsS83.drewN | apply IsS83.drew | apply IsS83.set_1 | apply IsS83.set_2 | refine IsS83.far ?_ NB0_436.out _) | exact HI0.out)); (case side2 => repeat (first | (with_reducible first | exact HB.out | apply h1 | apply h2 | apply h3 | refine h4 ?_ (IsS83.ge HI0.out) | refine h4 ?_ GE436.out) | exact HB.out)); rintro e w15 ⟨b445, rfl, hi, hb, hk, ⟨⟨hcnb445, hltb445⟩⟩⟩; refine ⟨_, rfl, ?_⟩; have LTb445 := Aside0.mk hltb445; clear hltb445; subst hcnb445; have n0_ := Aside0.mk (KeepBut.blk hk (g' := gb436) (o := .cells #[.int .i64 0, .int .i64 0, .float .f64 0, .slice none 0 0] 25 (0, 0)) (bup BK436.out) NB436_0.out (by simp)); have n1_ := Aside0.mk (KeepBut.trans (by repeat (first | (with_reducible first | exact HK.out | apply KeepBut.set_ | apply keep_drewN | apply keep_drew | apply keep_alloc | refine keep_far ?_ GW436.out _) | exact HK.out)) hk (.inl rfl)); have n2_ := Aside0.mk (hb); have n3_ := Aside0.mk (hi); clear BK436; clear HK; clear HB; clear HI0; have BK436 := n0_; have HK := n1_; have HB := n2_; have HI0 := n3_; clear n0_ n1_ n2_ n3_; (try clear hb); (try clear hb2); (try clear hk); (try clear hi); have hnb16 := NB436_0.out; have hnc16 := NB0_436.out; obtain ⟨hcz17_0, hcz17_1, hcz17_2, hcz17_3⟩ := blk_cells4 BK436.out; obtain ⟨hfz17_0, hfz17_1, hfz17_2, hfz17_3⟩ := blk_frozens4 BK436.out))
   refine bodyPost_ret (results_cell_row rfl _ _ gb436 25 #[.int .i64 2, .int .i64 0, .float .f64 b445, .slice none 0 0] (0, 0) _ rfl (bput BK436.out) Try.underlying25 rfl (by kernel_rfl)) rfl ?_
   exact ⟨_, _, by first | rfl | (simp [errW_none, errW_some] <;> rfl) | (simp [*, errW_none, errW_some] <;> rfl), by first | exact Kd.R_nil _ _ _ _ _ | exact Kd.N_nil _ _ _ _ _ | exact Kd.V_nil _ _ _ _ _ | exact Kd.Q_nil _ _ _ _ _ | exact Kd.S_nil _ _ _ _ _, by repeat (first | (with_reducible first | exact HI0.out | apply IsS83.alloc | apply IsS83.drewN | apply IsS83.drew | apply IsS83.set_1 | apply IsS83.set_2 | refine IsS83.far ?_ NB0_436.out _) | exact HI0.out), by repeat (first | (with_reducible first | exact HB.out | apply h1 | apply h2 | apply h3 | refine h4 ?_ (IsS83.ge HI0.out) | refine h4 ?_ GE436.out) | exact HB.out), by repeat (first | (with_reducible first | exact HK.out | apply KeepBut.set_ | apply keep_drewN | apply keep_drew | apply keep_alloc | refine keep_far ?_ GW436.out _) | exact HK.out), (by first | exact ⟨⟨rfl, LTb445.out⟩⟩ | exact ⟨⟨by first | rfl | decide, by decide⟩⟩ | exact ⟨⟨rfl, fquo_lt (by assumption)⟩⟩)⟩
  ·rw [if_neg c11] at H
   have c11b0 : (t437 == 1) = false := beq_eq_false_iff_ne.mpr c11
   have c11b1 : (t437 != 1) = true := bne_iff_ne.mpr c11
   (try simp only [c11b0, c11b1, Bool.not_true, Bool.not_false])
   by_cases c18 : t437 = 2
   ·rw [if_pos c18] at H
    have c18b0 : (t437 == 2) = true := beq_iff_eq.mpr c18
    have c18b1 : (t437 != 2) = false := bne_eq_false_iff_eq.mpr c18
    (try simp only [c18b0, c18b1, Bool.not_true, Bool.not_false])
    clear c18
    replace H := Option.bind_eq_some_iff.mp H
    obtain ⟨⟨t448, t449, t450⟩, A190, H⟩ := H
    (try dsimp only at H)
    have A19 := Aside0.mk A190
    clear A190
    by_cases c20 : (fok .quo (fofi (wrap64 (t448 - 32))) 4616189618054758400) = true
    ·rw [if_pos c20] at H
     have c20b0 : (fok .quo (fofi (wrap64 (t448 - 32))) 4616189618054758400) = true := c20
     (try simp only [c20b0, Bool.not_true, Bool.not_false])
     clear c20
     simp only [Option.some.injEq, Prod.mk.injEq] at H
     obtain ⟨rfl, rfl, rfl, rfl, rfl, rfl⟩ := H
     try go_wp2_with (first | ((with_reducible refine gate_callee (f := 59) rfl ?_); refine goesL_ (some 18) rfl rfl Try.func59 (by kernel_rfl) rfl #[.pointer (some ⟨g, 0, none⟩), .int .i64 64] rfl (by (try simp only [List.map_toArray, List.map_cons, List.map_nil]); first | done | rfl) ?_; (with_reducible refine (spec_l1Below.calls g s0_0 t438 t439 64 t448 t449 t450 w0 _ ?side1 ?side2 A19.out).mono ?_); (case side1 => repeat (first | (with_reducible first | exact HI0.out | apply IsS83.alloc | apply IsS83.drewN | apply IsS83.drew | apply IsS83.set_1 | apply IsS83.set_2 | refine IsS83.far ?_ NB0_436.out _) | exact HI0.out)); (case side2 => repeat (first | (with_reducible first | exact HB.out | apply h1 | apply h2 | apply h3 | refine h4 ?_ (IsS83.ge HI0.out) | refine h4 ?_ GE436.out) | exact HB.out)); rintro e w23 ⟨rfl, hi, hb, hk⟩; refine ⟨_, rfl, ?_⟩; have n0_ := Aside0.mk (KeepBut.blk hk (g' := gb436) (o := .cells #[.int .i64 0, .int .i64 0, .float .f64 0, .slice none 0 0] 25 (0, 0)) (bup BK436.out) NB436_0.out (by simp)); have n1_ := Aside0.mk (KeepBut.trans (by repeat (first | (with_reducible first | exact HK.out | apply KeepBut.set_ | apply keep_drewN | apply keep_drew | apply keep_alloc | refine keep_far ?_ GW436.out _) | exact HK.out)) hk (.inl rfl)); have n2_ := Aside0.mk (hb); have n3_ := Aside0.mk (hi); clear BK436; clear HK; clear HB; clear HI0; have BK436 := n0_; have HK := n1_; have HB := n2_; have HI0 := n3_; clear n0_ n1_ n2_ n3_; (try clear hb); (try clear hb2); (try clear hk); (try clear hi); have hnb24 := NB436_0.out; have hnc24 := NB0_436.out; obtain ⟨hcz25_0, hcz25_1, hcz25_2, hcz25_3⟩ := blk_cells4 BK436.out; obtain ⟨hfz25_0, hfz25_1, hfz25_2, hfz25_3⟩ := blk_frozens4 BK436.out))
     refine bodyPost_ret (results_cell_row rfl _ _ gb436 25 #[.int .i64 2, .int .i64 0, .float .f64 (fval .quo (fofi (wrap64 (t448 - 32))) 4616189618054758400), .slice none 0 0] (0, 0) _ rfl (bput BK436.out) Try.underlying25 rfl (by kernel_rfl)) rfl ?_
     exact ⟨_, _, by first | rfl | (simp [errW_none, errW_some] <;> rfl) | (simp [*, errW_none, errW_some] <;> rfl), by first | exact Kd.R_nil _ _ _ _ _ | exact Kd.N_nil _ _ _ _ _ | exact Kd.V_nil _ _ _ _ _ | exact Kd.Q_nil _ _ _ _ _ | exact Kd.S_nil _ _ _ _ _, by repeat (first | (with_reducible first | exact HI0.out | apply IsS83.alloc | apply IsS83.drewN | apply IsS83.drew | apply IsS83.set_1 | apply IsS83.set_2 | refine IsS83.far ?_ NB0_436.out _) | exact HI0.out), by repeat (first | (with_reducible first | exact HB.out | apply h1 | apply h2 | apply h3 | refine h4 ?_ (IsS83.ge HI0.out) | refine h4 ?_ GE436.out) | exact HB.out), by repeat (first | (with_reducible first | exact HK.out | apply KeepBut.set_ | apply keep_drewN | apply keep_drew | apply keep_alloc | refine keep_far ?_ GW436.out _) | exact HK.out), (by first | exact ⟨⟨by first | rfl | decide, by decide⟩⟩ | exact ⟨⟨rfl, fquo_lt (by assumption)⟩⟩)⟩
    ·rw [if_neg c20] at H
     exact absurd H (by simp)
   ·rw [if_neg c18] at H
    have c18b0 : (t437 == 2) = false := beq_eq_false_iff_ne.mpr c18
    have c18b1 : (t437 != 2) = true := bne_iff_ne.mpr c18
    (try simp only [c18b0, c18b1, Bool.not_true, Bool.not_false])
    by_cases c26 : t437 = 3
    ·rw [if_pos c26] at H
     have c26b0 : (t437 == 3) = true := beq_iff_eq.mpr c26
     have c26b1 : (t437 != 3) = false := bne_eq_false_iff_eq.mpr c26
     (try simp only [c26b0, c26b1, Bool.not_true, Bool.not_false])
     clear c26
     replace H := Option.bind_eq_some_iff.mp H
     obtain ⟨⟨t451, t452, t453⟩, A270, H⟩ := H
     (try dsimp only at H)
     have A27 := Aside0.mk A270
     clear A270
     repeat (first | ((fail_if_success (with_reducible refine gate_callee (f := 67) rfl ?_)); first | go_values | go_skip | go_guarded | go_step | go_upon | go_back | (simp only [Int.not_lt, Int.not_le] at *; go_simp)))
     (with_reducible refine gate_callee (f := 67) rfl ?_); refine goesL_ (some 26) rfl rfl Try.func67 (by kernel_rfl) rfl #[.pointer (some ⟨g, 0, none⟩), .int .i64 5] rfl (by (try simp only [List.map_toArray, List.map_cons, List.map_nil]); first | done | rfl) ?_; (with_reducible refine (spec_l1Once.calls g s0_0 t438 t439 5 t451 t452 t453 w0 _ ?side1 ?side2 A27.out).mono ?_); (case side1 => repeat (first | (with_reducible first | exact HI0.out | apply IsS83.alloc | apply IsS83.drewN | apply IsS83.drew | apply IsS83.set_1 | apply IsS83.set_2 | refine IsS83.far ?_ NB0_436.out _) | exact HI0.out)); (case side2 => repeat (first | (with_reducible first | exact HB.out | apply h1 | apply h2 | apply h3 | refine h4 ?_ (IsS83.ge HI0.out) | refine h4 ?_ GE436.out) | exact HB.out)); rintro e w32 ⟨rfl, hi, hb, hk⟩; refine ⟨_, rfl, ?_⟩; have n0_ := Aside0.mk (KeepBut.blk hk (g' := gb436) (o := .cells #[.int .i64 0, .int .i64 0, .float .f64 0, .slice none 0 0] 25 (0, 0)) (bup BK436.out) NB436_0.out (by simp)); have n1_ := Aside0.mk (KeepBut.trans (by repeat (first | (with_reducible first | exact HK.out | apply KeepBut.set_ | apply keep_drewN | apply keep_drew | apply keep_alloc | refine keep_far ?_ GW436.out _) | exact HK.out)) hk (.inl rfl)); have n2_ := Aside0.mk (hb); have n3_ := Aside0.mk (hi); clear BK436; clear HK; clear HB; clear HI0; have BK436 := n0_; have HK := n1_; have HB := n2_; have HI0 := n3_; clear n0_ n1_ n2_ n3_; (try clear hb); (try clear hb2); (try clear hk); (try clear hi)
     by_cases c28 : t451 = true
     ·subst c28
      rw [if_pos rfl] at H
      (try dsimp only at H)
      replace H := Option.bind_eq_some_iff.mp H
      obtain ⟨⟨t454, t457, t458⟩, A290, H⟩ := H
      (try dsimp only at H)
      have A29 := Aside0.mk A290
      clear A290
      simp only [Option.some.injEq, Prod.mk.injEq] at H
      obtain ⟨rfl, rfl, rfl, rfl, rfl, rfl⟩ := H
      try go_wp2_with (first | ((with_reducible refine gate_callee (f := 61) rfl ?_); refine goesL_ (some 28) rfl rfl Try.func61 (by kernel_rfl) rfl #[.pointer (some ⟨g, 0, none⟩), .int .i64 40] rfl (by (try simp only [List.map_toArray, List.map_cons, List.map_nil]); first | done | rfl) ?_; (with_reducible refine (spec_l1some.calls k g s0_0 t452 t453 40 t454 t457 t458 w0 _ ?side1 ?side2 A29.out).mono ?_); (case side1 => repeat (first | (with_reducible first | exact HI0.out | apply IsS83.alloc | apply IsS83.drewN | apply IsS83.drew | apply IsS83.set_1 | apply IsS83.set_2 | refine IsS83.far ?_ NB0_436.out _) | exact HI0.out)); (case side2 => repeat (first | (with_reducible first | exact HB.out | apply h1 | apply h2 | apply h3 | refine h4 ?_ (IsS83.ge HI0.out) | refine h4 ?_ GE436.out) | exact HB.out)); rintro e w33 ⟨v455, rfl, ho0, hi, hb, hk⟩; refine ⟨_, rfl, ?_⟩; have n0_ := Aside0.mk (KeepBut.blk hk (g' := gb436) (o := .cells #[.int .i64 0, .int .i64 0, .float .f64 0, .slice none 0 0] 25 (0, 0)) (bup BK436.out) NB436_0.out (by simp)); have n1_ := Aside0.mk (Kd.R_lower ho0 (keep_size (w := w) (g := g) (row := none) (by repeat (first | (with_reducible first | exact HK.out | apply KeepBut.set_ | apply keep_drewN | apply keep_drew | apply keep_alloc | refine keep_far ?_ GW436.out _) | exact HK.out)))); have n2_ := Aside0.mk (KeepBut.trans (by repeat (first | (with_reducible first | exact HK.out | apply KeepBut.set_ | apply keep_drewN | apply keep_drew | apply keep_alloc | refine keep_far ?_ GW436.out _) | exact HK.out)) hk (.inl rfl)); have n3_ := Aside0.mk (hb); have n4_ := Aside0.mk (hi); clear BK436; clear HK; clear HB; clear HI0; have BK436 := n0_; have HO456 := n1_; have HK := n2_; have HB := n3_; have HI0 := n4_; clear n0_ n1_ n2_ n3_ n4_; (try clear hb); (try clear hb2); (try clear hk); (try clear hi); (try clear ho0); obtain ⟨Ao34, co34, eo34⟩ := Kd.R_slice HO456.out; subst eo34; have hnb35 := NB436_0.out; have hnc35 := NB0_436.out; obtain ⟨hcz36_0, hcz36_1, hcz36_2, hcz36_3⟩ := blk_cells4 BK436.out; obtain ⟨hfz36_0, hfz36_1, hfz36_2, hfz36_3⟩ := blk_frozens4 BK436.out))
      refine bodyPost_ret (results_cell_row rfl _ _ gb436 25 #[.int .i64 3, .int .i64 0, .float .f64 0, .slice Ao34 t454.length co34] (0, 0) _ rfl (bput BK436.out) Try.underlying25 rfl (by kernel_rfl)) rfl ?_
      exact ⟨_, _, by first | rfl | (simp [errW_none, errW_some] <;> rfl) | (simp [*, errW_none, errW_some] <;> rfl), by exact Kd.rup (Kd.R_mono (Kd.R_far (p := ⟨gb436, 3, none⟩) (Kd.R_far (p := ⟨gb436, 2, none⟩) (Kd.R_far (p := ⟨gb436, 1, none⟩) (Kd.R_far (p := ⟨gb436, 0, none⟩) (Kd.R_types HO456.out BK436.out (by decide)) (fun _ hk => hk.2) (.int .i64 3)) (fun _ hk => hk.2) (.int .i64 0)) (fun _ hk => hk.2) (.float .f64 0)) (fun _ hk => hk.2) (.slice Ao34 t454.length co34)) (fun _ hk => trivial)), by repeat (first | (with_reducible first | exact HI0.out | apply IsS83.alloc | apply IsS83.drewN | apply IsS83.drew | apply IsS83.set_1 | apply IsS83.set_2 | refine IsS83.far ?_ NB0_436.out _) | exact HI0.out), by repeat (first | (with_reducible first | exact HB.out | apply h1 | apply h2 | apply h3 | refine h4 ?_ (IsS83.ge HI0.out) | refine h4 ?_ GE436.out) | exact HB.out), by repeat (first | (with_reducible first | exact HK.out | apply KeepBut.set_ | apply keep_drewN | apply keep_drew | apply keep_alloc | refine keep_far ?_ GW436.out _) | exact HK.out), (by first | exact ⟨⟨by first | rfl | decide, by decide⟩⟩ | exact ⟨⟨rfl, fquo_lt (by assumption)⟩⟩)⟩
     ·replace c28 := Bool.eq_false_iff.mpr c28
      subst c28
      rw [if_neg (show ¬ (false = true) by decide)] at H
      (try dsimp only at H)
      replace H := Option.bind_eq_some_iff.mp H
      obtain ⟨⟨t459, t460, t461⟩, A370, H⟩ := H
      (try dsimp only at H)
      have A37 := Aside0.mk A370
      clear A370
      simp only [Option.some.injEq, Prod.mk.injEq] at H
      obtain ⟨rfl, rfl, rfl, rfl, rfl, rfl⟩ := H
      try go_wp2_with (first | ((with_reducible refine gate_callee (f := 90) rfl ?_); refine goesL_ (some 31) rfl rfl Try.func90 (by kernel_rfl) rfl #[.pointer (some ⟨g, 0, none⟩)] rfl (by (try simp only [List.map_toArray, List.map_cons, List.map_nil]); first | done | rfl) ?_; (with_reducible refine (spec_l1number.calls k g s0_0 t452 t453 t459 t460 t461 w0 _ ?side1 ?side2 A37.out).mono ?_); (case side1 => repeat (first | (with_reducible first | exact HI0.out | apply IsS83.alloc | apply IsS83.drewN | apply IsS83.drew | apply IsS83.set_1 | apply IsS83.set_2 | refine IsS83.far ?_ NB0_436.out _) | exact HI0.out)); (case side2 => repeat (first | (with_reducible first | exact HB.out | apply h1 | apply h2 | apply h3 | refine h4 ?_ (IsS83.ge HI0.out) | refine h4 ?_ GE436.out) | exact HB.out)); rintro e w41 ⟨rfl, hi, hb, hk⟩; refine ⟨_, rfl, ?_⟩; have n0_ := Aside0.mk (KeepBut.blk hk (g' := gb436) (o := .cells #[.int .i64 0, .int .i64 0, .float .f64 0, .slice none 0 0] 25 (0, 0)) (bup BK436.out) NB436_0.out (by simp)); have n1_ := Aside0.mk (KeepBut.trans (by repeat (first | (with_reducible first | exact HK.out | apply KeepBut.set_ | apply keep_drewN | apply keep_drew | apply keep_alloc | refine keep_far ?_ GW436.out _) | exact HK.out)) hk (.inl rfl)); have n2_ := Aside0.mk (hb); have n3_ := Aside0.mk (hi); clear BK436; clear HK; clear HB; clear HI0; have BK436 := n0_; have HK := n1_; have HB := n2_; have HI0 := n3_; clear n0_ n1_ n2_ n3_; (try clear hb); (try clear hb2); (try clear hk); (try clear hi); have hnb42 := NB436_0.out; have hnc42 := NB0_436.out; obtain ⟨hcz43_0, hcz43_1, hcz43_2, hcz43_3⟩ := blk_cells4 BK436.out; obtain ⟨hfz43_0, hfz43_1, hfz43_2, hfz43_3⟩ := blk_frozens4 BK436.out))
      refine bodyPost_ret (results_cell_row rfl _ _ gb436 25 #[.int .i64 1, .int .i64 t459, .float .f64 0, .slice none 0 0] (0, 0) _ rfl (bput BK436.out) Try.underlying25 rfl (by kernel_rfl)) rfl ?_
      exact ⟨_, _, by first | rfl | (simp [errW_none, errW_some] <;> rfl) | (simp [*, errW_none, errW_some] <;> rfl), by first | exact Kd.R_nil _ _ _ _ _ | exact Kd.N_nil _ _ _ _ _ | exact Kd.V_nil _ _ _ _ _ | exact Kd.Q_nil _ _ _ _ _ | exact Kd.S_nil _ _ _ _ _, by repeat (first | (with_reducible first | exact HI0.out | apply IsS83.alloc | apply IsS83.drewN | apply IsS83.drew | apply IsS83.set_1 | apply IsS83.set_2 | refine IsS83.far ?_ NB0_436.out _) | exact HI0.out), by repeat (first | (with_reducible first | exact HB.out | apply h1 | apply h2 | apply h3 | refine h4 ?_ (IsS83.ge HI0.out) | refine h4 ?_ GE436.out) | exact HB.out), by repeat (first | (with_reducible first | exact HK.out | apply KeepBut.set_ | apply keep_drewN | apply keep_drew | apply keep_alloc | refine keep_far ?_ GW436.out _) | exact HK.out), (by first | exact ⟨⟨by first | rfl | decide, by decide⟩⟩ | exact ⟨⟨rfl, fquo_lt (by assumption)⟩⟩)⟩
    ·rw [if_neg c26] at H
     have c26b0 : (t437 == 3) = false := beq_eq_false_iff_ne.mpr c26
     have c26b1 : (t437 != 3) = true := bne_iff_ne.mpr c26
     (try simp only [c26b0, c26b1, Bool.not_true, Bool.not_false])
     replace H := Option.bind_eq_some_iff.mp H
     obtain ⟨⟨t462, t463, t464⟩, A440, H⟩ := H
     (try dsimp only at H)
     have A44 := Aside0.mk A440
     clear A440
     simp only [Option.some.injEq, Prod.mk.injEq] at H
     obtain ⟨rfl, rfl, rfl, rfl, rfl, rfl⟩ := H
     try go_wp2_with (first | ((with_reducible refine gate_callee (f := 90) rfl ?_); refine goesL_ (some 31) rfl rfl Try.func90 (by kernel_rfl) rfl #[.pointer (some ⟨g, 0, none⟩)] rfl (by (try simp only [List.map_toArray, List.map_cons, List.map_nil]); first | done | rfl) ?_; (with_reducible refine (spec_l1number.calls k g s0_0 t438 t439 t462 t463 t464 w0 _ ?side1 ?side2 A44.out).mono ?_); (case side1 => repeat (first | (with_reducible first | exact HI0.out | apply IsS83.alloc | apply IsS83.drewN | apply IsS83.drew | apply IsS83.set_1 | apply IsS83.set_2 | refine IsS83.far ?_ NB0_436.out _) | exact HI0.out)); (case side2 => repeat (first | (with_reducible first | exact HB.out | apply h1 | apply h2 | apply h3 | refine h4 ?_ (IsS83.ge HI0.out) | refine h4 ?_ GE436.out) | exact HB.out)); rintro e w47 ⟨rfl, hi, hb, hk⟩; refine ⟨_, rfl, ?_⟩; have n0_ := Aside0.mk (KeepBut.blk hk (g' := gb436) (o := .cells #[.int .i64 0, .int .i64 0, .float .f64 0, .slice none 0 0] 25 (0, 0)) (bup BK436.out) NB436_0.out (by simp)); have n1_ := Aside0.mk (KeepBut.trans (by repeat (first | (with_reducible first | exact HK.out | apply KeepBut.set_ | apply keep_drewN | apply keep_drew | apply keep_alloc | refine keep_far ?_ GW436.out _) | exact HK.out)) hk (.inl rfl)); have n2_ := Aside0.mk (hb); have n3_ := Aside0.mk (hi); clear BK436; clear HK; clear HB; clear HI0; have BK436 := n0_; have HK := n1_; have HB := n2_; have HI0 := n3_; clear n0_ n1_ n2_ n3_; (try clear hb); (try clear hb2); (try clear hk); (try clear hi); have hnb48 := NB436_0.out; have hnc48 := NB0_436.out; obtain ⟨hcz49_0, hcz49_1, hcz49_2, hcz49_3⟩ := blk_cells4 BK436.out; obtain ⟨hfz49_0, hfz49_1, hfz49_2, hfz49_3⟩ := blk_frozens4 BK436.out))
     refine bodyPost_ret (results_cell_row rfl _ _ gb436 25 #[.int .i64 1, .int .i64 t462, .float .f64 0, .slice none 0 0] (0, 0) _ rfl (bput BK436.out) Try.underlying25 rfl (by kernel_rfl)) rfl ?_
     exact ⟨_, _, by first | rfl | (simp [errW_none, errW_some] <;> rfl) | (simp [*, errW_none, errW_some] <;> rfl), by first | exact Kd.R_nil _ _ _ _ _ | exact Kd.N_nil _ _ _ _ _ | exact Kd.V_nil _ _ _ _ _ | exact Kd.Q_nil _ _ _ _ _ | exact Kd.S_nil _ _ _ _ _, by repeat (first | (with_reducible first | exact HI0.out | apply IsS83.alloc | apply IsS83.drewN | apply IsS83.drew | apply IsS83.set_1 | apply IsS83.set_2 | refine IsS83.far ?_ NB0_436.out _) | exact HI0.out), by repeat (first | (with_reducible first | exact HB.out | apply h1 | apply h2 | apply h3 | refine h4 ?_ (IsS83.ge HI0.out) | refine h4 ?_ GE436.out) | exact HB.out), by repeat (first | (with_reducible first | exact HK.out | apply KeepBut.set_ | apply keep_drewN | apply keep_drew | apply keep_alloc | refine keep_far ?_ GW436.out _) | exact HK.out), (by first | exact ⟨⟨by first | rfl | decide, by decide⟩⟩ | exact ⟨⟨rfl, fquo_lt (by assumption)⟩⟩)⟩
end Go.Proofs.Ytjjkhlphdbmdfaa.PFnTuples
