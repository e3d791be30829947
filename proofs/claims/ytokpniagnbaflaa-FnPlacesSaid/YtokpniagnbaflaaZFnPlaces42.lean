import Derived.Test.YtokpniagnbaflaaZFnPlaces29
import Derived.Test.YtokpniagnbaflaaZFnPlacesA
import Derived.Test.YtokpniagnbaflaaZFnPlaces32
import Derived.Test.YtokpniagnbaflaaZFnPlaces35
namespace Go.Proofs.Ytokpniagnbaflaa.PFnPlaces
open Go.RowKit Go.Proofs.YtokpniagnbaflaaW.PrintWords Go.Proofs.YtokpniagnbaflaaW.PrintLast Go.Proofs.YtokpniagnbaflaaW.PrintMore
attribute [local go_sem] max2_int min2_int max_two min_two max_three min_three max_four min_four   -- for this text's walks alone
attribute [local go_sem high] fl_eql fl_neq fl_lss fl_leq fl_gtr fl_geq fl_add fl_sub fl_mul fl_quo fl_neg fl_ofInt fl_toInt fl_store sub_sign fl_nan_quo fl_nan_add fl_nan_mul fl_nan_sub
open Go.Proofs.YtokpniagnbaflaaW.PrintWords renaming below_alloc → h1, pw_below_drewN → h2, below_drew1 → h3, below_set → h4, blk_drewN → b1, blk_drew → b2, blk_alloc → b3
set_option linter.unusedVariables false
set_option linter.unusedSimpArgs false
def spec_l1PickInt.f (s0_0 : List Int) (s0_1 : Int) (s0_2 : Int) (l1 : List Int) : Option (Int × Int × Int) := (spec_l1Below.f s0_0 s0_1 s0_2 (l1.length : Int)).bind fun bt556 => (if 0 ≤ bt556.1 then (if bt556.1 < (l1.length : Int) then (some (rd l1 bt556.1, bt556.2.1, bt556.2.2)) else (none)) else (none))
set_option maxHeartbeats 8000000 in
set_option maxRecDepth 100000 in
theorem spec_l1PickInt.calls (g : Nat) (s0_0 : List Int) (s0_1 : Int) (s0_2 : Int) (A1 : Option Addr) (c1 : Nat) (l1 : List Int) (r1 : Int) (r2 : Int) (r3 : Int) (w0 w : World) (hI : IsS82 w0 w g s0_0 s0_1 s0_2) (hB : Below w0.heap.size w0 w) (hr1 : Kd.C (Kd.int .i64) w A1 l1.length l1) (hc1 : l1.length ≤ c1) (hf1 : ∀ ad, A1 = some ad → 0 < l1.length → ad.block ≠ g) (h : spec_l1PickInt.f s0_0 s0_1 s0_2 l1 = some (r1, r2, r3)) :
    Calls Try.prog 64 #[.pointer (some ⟨g, 0, none⟩), .slice A1 l1.length c1] w fun e w' => e = .returned (.int .i64 r1) ∧ IsS82 w0 w' g s0_0 r2 r3 ∧ Below w0.heap.size w0 w' ∧ KeepBut w w' g none := by
  have HR1 := ZA hr1
  have HC1 := ZA hc1
  clear hr1 hc1
  have HI0 := ZA hI
  have HK := ZA (KeepBut.refl w g none)
  have HL := ZA hB.size
  clear hI
  have HW0 := ZA hB.size
  have HB := ZA hB
  clear hB
  have H := h
  clear h
  unfold spec_l1PickInt.f at H
  replace H := Option.bind_eq_some_iff.mp H
  obtain ⟨⟨t556, t557, t558⟩, A30, H⟩ := H
  (try dsimp only at H)
  have A3 := ZA A30
  clear A30
  by_cases c4 : 0 ≤ t556
  · rw [if_pos c4] at H
    have c4b0 : decide (0 ≤ t556) = true := decide_eq_true c4
    clear c4
    by_cases c5 : t556 < (l1.length : Int)
    · rw [if_pos c5] at H
      have c5b0 : decide (t556 < (l1.length : Int)) = true := decide_eq_true c5
      clear c5
      simp only [Option.some.injEq, Prod.mk.injEq] at H
      obtain ⟨rfl, rfl, rfl⟩ := H
      go_enter Try.func64, Try.ntmps64
      go_wp2_with (first | ((with_reducible refine gate_callee (f := 63) rfl ?_); refine goesL_ (some 9) rfl rfl Try.func63 Z12 rfl #[.pointer (some ⟨g, 0, none⟩), .int .i64 (l1.length : Int)] rfl Z1 ?_; (with_reducible refine (spec_l1Below.calls g s0_0 s0_1 s0_2 (l1.length : Int) t556 t557 t558 w0 _ ?side1 ?side2 A3.out).mono ?_); (case side1 => repeat (first | (with_reducible first | exact HI0.out | apply IsS82.alloc | apply IsS82.drewN | apply IsS82.drew | apply IsS82.set_1 | apply IsS82.set_2) | exact HI0.out)); (case side2 => repeat (first | (with_reducible first | exact HB.out | apply h1 | apply h2 | apply h3 | refine h4 ?_ (IsS82.ge HI0.out)) | exact HB.out)); rintro e w6 ⟨rfl, hi, hb, hk⟩; refine ⟨_, rfl, ?_⟩; have n0_ := ZA (KeepBut.trans Z3 hk (.inl rfl)); have n1_ := ZA (hb); have n2_ := ZA (hi); clear HK HB HI0; have HK := n0_; have HB := n1_; have HI0 := n2_; clear n0_ n1_ n2_; (try clear hb); (try clear hb2); (try clear hk); (try clear hi); have p559 : 0 ≤ (t556 : Int) := of_decide_eq_true Z10; have q559 : t556 < (l1.length : Int) := of_decide_eq_true Z10; obtain ⟨ad559, e559, hx559_0⟩ := Kd.at_int HR1.out t556 p559 q559; cases e559; replace hx559_0 := keep_cell HK.out hx559_0 (by first | (rw [add_block]; exact hf1 _ rfl Z8) | exact hf1 _ rfl Z8 | exact hf1 ad559 rfl Z8); replace p559 := eq_true p559; replace q559 := eq_true q559))
      go_ret
      exact ⟨by first | rfl | (simp [errW_none, errW_some] <;> rfl) | (simp [*, errW_none, errW_some] <;> rfl), Z4, Z15, Z13⟩
    · rw [if_neg c5] at H
      exact absurd H Z44
  · rw [if_neg c4] at H
    exact absurd H Z44
end Go.Proofs.Ytokpniagnbaflaa.PFnPlaces
