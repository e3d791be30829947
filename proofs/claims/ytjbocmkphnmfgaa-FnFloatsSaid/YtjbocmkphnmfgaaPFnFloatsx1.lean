-- By this session's own program (wip/xprint.py), over the kit's print.
import Derived.Test.YtjbocmkphnmfgaaPFnFloatsx0
namespace Go.Proofs.Ytjbocmkphnmfgaa.PFnFloats
open Go.RowKit Go.Proofs.YtjbocmkphnmfgaaW.PrintWords Go.Proofs.YtjbocmkphnmfgaaW.PrintLast Go.Proofs.YtjbocmkphnmfgaaW.PrintMore
attribute [local go_sem] max2_int min2_int max_two min_two max_three min_three max_four min_four   -- for this text's walks alone
attribute [local go_sem high] fl_eql fl_neq fl_lss fl_leq fl_gtr fl_geq fl_add fl_sub fl_mul fl_quo fl_neg fl_ofInt fl_toInt fl_store ext_bits ext_from fl_nan_quo fl_nan_add fl_nan_mul fl_nan_sub
set_option linter.unusedVariables false
set_option linter.unusedSimpArgs false

-- NOT PRINTED: function 29 (math_Float64bits)

/-! ### impl_FloatBits: function 12 -/
def impl_FloatBits.f (a0 : Nat) : Option (Int) := if ((feq a0 a0) = true) then (some ((a0 : Nat) : Int)) else (some 9221120237041090560)
set_option maxHeartbeats 8000000 in
set_option maxRecDepth 100000 in
theorem impl_FloatBits.calls (a0 : Nat) (r : Int) (w : World) (h : impl_FloatBits.f a0 = some r) :
    Calls Try.prog 12 #[.float .f64 a0] w fun e w' => e = .returned (.int .u64 r) ∧ Drawn0 w w' := by
  have H : (if ((feq a0 a0) = true) then (some ((a0 : Nat) : Int)) else (some 9221120237041090560)) = some r := h
  clear h
  by_cases c2 : ((feq a0 a0) = true)
  · rw [if_pos c2] at H
    have c2b0 : (feq a0 a0) = true := c2
    clear c2
    obtain rfl := Option.some.inj H
    go_enter Try.func12, Try.ntmps12
    go_wp2
    go_ret
    exact ⟨by first | rfl | (simp; done) | (simp [*]; done), by repeat (first | exact Drawn0.refl _ | apply Drawn0.step)⟩
  · rw [if_neg c2] at H
    have c2b0 : (feq a0 a0) = false := by simpa using c2
    clear c2
    obtain rfl := Option.some.inj H
    go_enter Try.func12, Try.ntmps12
    go_wp2
    go_ret
    exact ⟨by first | rfl | (simp; done) | (simp [*]; done), by repeat (first | exact Drawn0.refl _ | apply Drawn0.step)⟩
theorem impl_FloatBits.inv0 (a0 : Nat) : impl_FloatBits.f (cn a0) = impl_FloatBits.f a0 := by
  by_cases h_ : nanw a0
  · unfold impl_FloatBits.f
    first
      | (simp only [feq_cn_l, feq_cn_r, fls_cn_l, fls_cn_r, fgt_cn_l, fgt_cn_r, fle_cn_l, fle_cn_r, fge_cn_l, fge_cn_r]; done)
      | (simp only [feq_cn_l, feq_cn_r, fls_cn_l, fls_cn_r, fgt_cn_l, fgt_cn_r, fle_cn_l, fle_cn_r, fge_cn_l, fge_cn_r, feq_nan_l h_, feq_nan_l (cn_nanw h_), Bool.false_eq_true, if_false]; done)
      | (simp [feq_nan_l h_, feq_nan_l (cn_nanw h_)]; done)
  · rw [cn_num h_]


-- NOT PRINTED: function 30 (math_Float64frombits)

/-! ### impl_FloatOf: function 14 -/
def impl_FloatOf.f (a0 : Int) : Option (Nat) := some ((a0 : Int).toNat)
set_option maxHeartbeats 8000000 in
set_option maxRecDepth 100000 in
theorem impl_FloatOf.calls (a0 : Int) (r : Nat) (w : World) (h : impl_FloatOf.f a0 = some r) :
    Calls Try.prog 14 #[.int .u64 a0] w fun e w' => e = .returned (.float .f64 r) ∧ Drawn0 w w' := by
  have H : (some ((a0 : Int).toNat)) = some r := h
  clear h
  obtain rfl := Option.some.inj H
  go_enter Try.func14, Try.ntmps14
  go_wp2
  go_ret
  exact ⟨by first | rfl | (simp; done) | (simp [*]; done), by repeat (first | exact Drawn0.refl _ | apply Drawn0.step)⟩

/-! ### impl_FloatRank: function 21 -/
def impl_FloatRank.f (a0 : Nat) : Option (Int) := if ((feq a0 a0) = true) then (if (feq a0 0) = true then (some 9223372036854775808) else (if (fgt a0 0) = true then (some (Go.bits .or .u64 ((a0 : Nat) : Int) 9223372036854775808)) else (some (Go.bits .xor .u64 IntKind.u64.max ((a0 : Nat) : Int))))) else (some 18446744073709551615)
set_option maxHeartbeats 8000000 in
set_option maxRecDepth 100000 in
theorem impl_FloatRank.calls (a0 : Nat) (r : Int) (w : World) (h : impl_FloatRank.f a0 = some r) :
    Calls Try.prog 21 #[.float .f64 a0] w fun e w' => e = .returned (.int .u64 r) ∧ Drawn0 w w' := by
  have H : (if ((feq a0 a0) = true) then (if (feq a0 0) = true then (some 9223372036854775808) else (if (fgt a0 0) = true then (some (Go.bits .or .u64 ((a0 : Nat) : Int) 9223372036854775808)) else (some (Go.bits .xor .u64 IntKind.u64.max ((a0 : Nat) : Int))))) else (some 18446744073709551615)) = some r := h
  clear h
  by_cases c2 : ((feq a0 a0) = true)
  · rw [if_pos c2] at H
    have c2b0 : (feq a0 a0) = true := c2
    clear c2
    by_cases c3 : (feq a0 0) = true
    · rw [if_pos c3] at H
      have c3b0 : (feq a0 0) = true := c3
      clear c3
      obtain rfl := Option.some.inj H
      go_enter Try.func21, Try.ntmps21
      go_wp2
      go_ret
      exact ⟨by first | rfl | (simp; done) | (simp [*]; done), by repeat (first | exact Drawn0.refl _ | apply Drawn0.step)⟩
    · rw [if_neg c3] at H
      have c3b0 : (feq a0 0) = false := by simpa using c3
      clear c3
      by_cases c4 : (fgt a0 0) = true
      · rw [if_pos c4] at H
        have c4b0 : (fgt a0 0) = true := c4
        clear c4
        obtain rfl := Option.some.inj H
        go_enter Try.func21, Try.ntmps21
        go_wp2
        go_ret
        exact ⟨by first | rfl | (simp; done) | (simp [*]; done), by repeat (first | exact Drawn0.refl _ | apply Drawn0.step)⟩
      · rw [if_neg c4] at H
        have c4b0 : (fgt a0 0) = false := by simpa using c4
        clear c4
        obtain rfl := Option.some.inj H
        go_enter Try.func21, Try.ntmps21
        go_wp2
        go_ret
        exact ⟨by first | rfl | (simp; done) | (simp [*]; done), by repeat (first | exact Drawn0.refl _ | apply Drawn0.step)⟩
  · rw [if_neg c2] at H
    have c2b0 : (feq a0 a0) = false := by simpa using c2
    clear c2
    obtain rfl := Option.some.inj H
    go_enter Try.func21, Try.ntmps21
    go_wp2
    go_ret
    exact ⟨by first | rfl | (simp; done) | (simp [*]; done), by repeat (first | exact Drawn0.refl _ | apply Drawn0.step)⟩
theorem impl_FloatRank.inv0 (a0 : Nat) : impl_FloatRank.f (cn a0) = impl_FloatRank.f a0 := by
  by_cases h_ : nanw a0
  · unfold impl_FloatRank.f
    first
      | (simp only [feq_cn_l, feq_cn_r, fls_cn_l, fls_cn_r, fgt_cn_l, fgt_cn_r, fle_cn_l, fle_cn_r, fge_cn_l, fge_cn_r]; done)
      | (simp only [feq_cn_l, feq_cn_r, fls_cn_l, fls_cn_r, fgt_cn_l, fgt_cn_r, fle_cn_l, fle_cn_r, fge_cn_l, fge_cn_r, feq_nan_l h_, feq_nan_l (cn_nanw h_), Bool.false_eq_true, if_false]; done)
      | (simp [feq_nan_l h_, feq_nan_l (cn_nanw h_)]; done)
  · rw [cn_num h_]


/-! ### cmp_isNaN_uint64: function 38 -/
def cmp_isNaN_uint64.f (a0 : Int) : Option (Bool) := some (a0 != a0)
set_option maxHeartbeats 8000000 in
set_option maxRecDepth 100000 in
theorem cmp_isNaN_uint64.calls (a0 : Int) (r : Bool) (w : World) (h : cmp_isNaN_uint64.f a0 = some r) :
    Calls Try.prog 38 #[.int .u64 a0] w fun e w' => e = .returned (.bool r) ∧ Drawn0 w w' := by
  have H : (some (a0 != a0)) = some r := h
  clear h
  obtain rfl := Option.some.inj H
  go_enter Try.func38, Try.ntmps38
  go_wp2
  go_ret
  exact ⟨by first | rfl | (simp; done) | (simp [*]; done), by repeat (first | exact Drawn0.refl _ | apply Drawn0.step)⟩

/-! ### cmp_Compare_uint64: function 32 -/
def cmp_Compare_uint64.f (a0 : Int) (a1 : Int) : Option (Int) := (cmp_isNaN_uint64.f a0).bind fun t101 => ((cmp_isNaN_uint64.f a1).bind fun t102 => (if t101 = true then (if t102 = true then (some 0) else (some (-1))) else (if t102 = true then (some 1) else (if a0 < a1 then (some (-1)) else (if a0 > a1 then (some 1) else (some 0))))))
set_option maxHeartbeats 8000000 in
set_option maxRecDepth 100000 in
theorem cmp_Compare_uint64.calls (a0 : Int) (a1 : Int) (r : Int) (w : World) (h : cmp_Compare_uint64.f a0 a1 = some r) :
    Calls Try.prog 32 #[.int .u64 a0, .int .u64 a1] w fun e w' => e = .returned (.int .i64 r) ∧ Drawn0 w w' := by
  have H : ((cmp_isNaN_uint64.f a0).bind fun t101 => ((cmp_isNaN_uint64.f a1).bind fun t102 => (if t101 = true then (if t102 = true then (some 0) else (some (-1))) else (if t102 = true then (some 1) else (if a0 < a1 then (some (-1)) else (if a0 > a1 then (some 1) else (some 0))))))) = some r := h
  clear h
  replace H := Option.bind_eq_some_iff.mp H
  obtain ⟨t101, A30, H⟩ := H
  replace H : ((cmp_isNaN_uint64.f a1).bind fun t102 => (if t101 = true then (if t102 = true then (some 0) else (some (-1))) else (if t102 = true then (some 1) else (if a0 < a1 then (some (-1)) else (if a0 > a1 then (some 1) else (some 0)))))) = some r := H
  have A3 := Aside0.mk A30
  clear A30
  replace H := Option.bind_eq_some_iff.mp H
  obtain ⟨t102, A40, H⟩ := H
  replace H : (if t101 = true then (if t102 = true then (some 0) else (some (-1))) else (if t102 = true then (some 1) else (if a0 < a1 then (some (-1)) else (if a0 > a1 then (some 1) else (some 0))))) = some r := H
  have A4 := Aside0.mk A40
  clear A40
  by_cases c5 : t101 = true
  · subst c5
    have H1 : (if t102 = true then (some 0) else (some (-1))) = some r := by rw [if_pos rfl] at H; exact H
    clear H
    have H := H1
    clear H1
    by_cases c6 : t102 = true
    · subst c6
      have H1 : (some 0) = some r := by rw [if_pos rfl] at H; exact H
      clear H
      have H := H1
      clear H1
      obtain rfl := Option.some.inj H
      go_enter Try.func32, Try.ntmps32
      go_wp2_with (first | ((with_reducible refine gate_callee (f := 38) rfl ?_); refine goesL_ (some 8) rfl rfl Try.func38 (by kernel_rfl) rfl #[.int .u64 a0] rfl (by (try simp only [List.map_toArray, List.map_cons, List.map_nil]); first | done | rfl | (simp only [List.length_drop, List.length_take]; rfl)) ?_; (with_reducible refine (cmp_isNaN_uint64.calls a0 true _ A3.out).mono ?_); rintro e w' ⟨rfl, ⟨nd, rfl⟩⟩; refine ⟨_, rfl, ?_⟩) | ((with_reducible refine gate_callee (f := 38) rfl ?_); refine goesL_ (some 10) rfl rfl Try.func38 (by kernel_rfl) rfl #[.int .u64 a1] rfl (by (try simp only [List.map_toArray, List.map_cons, List.map_nil]); first | done | rfl | (simp only [List.length_drop, List.length_take]; rfl)) ?_; (with_reducible refine (cmp_isNaN_uint64.calls a1 true _ A4.out).mono ?_); rintro e w' ⟨rfl, ⟨nd, rfl⟩⟩; refine ⟨_, rfl, ?_⟩))
      go_ret
      exact ⟨by first | rfl | (simp; done) | (simp [*]; done), by repeat (first | exact Drawn0.refl _ | apply Drawn0.step)⟩
    · replace c6 := Bool.eq_false_iff.mpr c6
      subst c6
      have H1 : (some (-1)) = some r := by rw [if_neg (show ¬ (false = true) by decide)] at H; exact H
      clear H
      have H := H1
      clear H1
      obtain rfl := Option.some.inj H
      go_enter Try.func32, Try.ntmps32
      go_wp2_with (first | ((with_reducible refine gate_callee (f := 38) rfl ?_); refine goesL_ (some 8) rfl rfl Try.func38 (by kernel_rfl) rfl #[.int .u64 a0] rfl (by (try simp only [List.map_toArray, List.map_cons, List.map_nil]); first | done | rfl | (simp only [List.length_drop, List.length_take]; rfl)) ?_; (with_reducible refine (cmp_isNaN_uint64.calls a0 true _ A3.out).mono ?_); rintro e w' ⟨rfl, ⟨nd, rfl⟩⟩; refine ⟨_, rfl, ?_⟩) | ((with_reducible refine gate_callee (f := 38) rfl ?_); refine goesL_ (some 10) rfl rfl Try.func38 (by kernel_rfl) rfl #[.int .u64 a1] rfl (by (try simp only [List.map_toArray, List.map_cons, List.map_nil]); first | done | rfl | (simp only [List.length_drop, List.length_take]; rfl)) ?_; (with_reducible refine (cmp_isNaN_uint64.calls a1 false _ A4.out).mono ?_); rintro e w' ⟨rfl, ⟨nd, rfl⟩⟩; refine ⟨_, rfl, ?_⟩))
      go_ret
      exact ⟨by first | rfl | (simp; done) | (simp [*]; done), by repeat (first | exact Drawn0.refl _ | apply Drawn0.step)⟩
  · replace c5 := Bool.eq_false_iff.mpr c5
    subst c5
    have H1 : (if t102 = true then (some 1) else (if a0 < a1 then (some (-1)) else (if a0 > a1 then (some 1) else (some 0)))) = some r := by rw [if_neg (show ¬ (false = true) by decide)] at H; exact H
    clear H
    have H := H1
    clear H1
    by_cases c7 : t102 = true
    · subst c7
      have H1 : (some 1) = some r := by rw [if_pos rfl] at H; exact H
      clear H
      have H := H1
      clear H1
      obtain rfl := Option.some.inj H
      go_enter Try.func32, Try.ntmps32
      go_wp2_with (first | ((with_reducible refine gate_callee (f := 38) rfl ?_); refine goesL_ (some 8) rfl rfl Try.func38 (by kernel_rfl) rfl #[.int .u64 a0] rfl (by (try simp only [List.map_toArray, List.map_cons, List.map_nil]); first | done | rfl | (simp only [List.length_drop, List.length_take]; rfl)) ?_; (with_reducible refine (cmp_isNaN_uint64.calls a0 false _ A3.out).mono ?_); rintro e w' ⟨rfl, ⟨nd, rfl⟩⟩; refine ⟨_, rfl, ?_⟩) | ((with_reducible refine gate_callee (f := 38) rfl ?_); refine goesL_ (some 10) rfl rfl Try.func38 (by kernel_rfl) rfl #[.int .u64 a1] rfl (by (try simp only [List.map_toArray, List.map_cons, List.map_nil]); first | done | rfl | (simp only [List.length_drop, List.length_take]; rfl)) ?_; (with_reducible refine (cmp_isNaN_uint64.calls a1 true _ A4.out).mono ?_); rintro e w' ⟨rfl, ⟨nd, rfl⟩⟩; refine ⟨_, rfl, ?_⟩))
      go_ret
      exact ⟨by first | rfl | (simp; done) | (simp [*]; done), by repeat (first | exact Drawn0.refl _ | apply Drawn0.step)⟩
    · replace c7 := Bool.eq_false_iff.mpr c7
      subst c7
      have H1 : (if a0 < a1 then (some (-1)) else (if a0 > a1 then (some 1) else (some 0))) = some r := by rw [if_neg (show ¬ (false = true) by decide)] at H; exact H
      clear H
      have H := H1
      clear H1
      by_cases c8 : a0 < a1
      · rw [if_pos c8] at H
        have c8b0 : decide (a0 < a1) = true := decide_eq_true c8
        clear c8
        obtain rfl := Option.some.inj H
        go_enter Try.func32, Try.ntmps32
        go_wp2_with (first | ((with_reducible refine gate_callee (f := 38) rfl ?_); refine goesL_ (some 8) rfl rfl Try.func38 (by kernel_rfl) rfl #[.int .u64 a0] rfl (by (try simp only [List.map_toArray, List.map_cons, List.map_nil]); first | done | rfl | (simp only [List.length_drop, List.length_take]; rfl)) ?_; (with_reducible refine (cmp_isNaN_uint64.calls a0 false _ A3.out).mono ?_); rintro e w' ⟨rfl, ⟨nd, rfl⟩⟩; refine ⟨_, rfl, ?_⟩) | ((with_reducible refine gate_callee (f := 38) rfl ?_); refine goesL_ (some 10) rfl rfl Try.func38 (by kernel_rfl) rfl #[.int .u64 a1] rfl (by (try simp only [List.map_toArray, List.map_cons, List.map_nil]); first | done | rfl | (simp only [List.length_drop, List.length_take]; rfl)) ?_; (with_reducible refine (cmp_isNaN_uint64.calls a1 false _ A4.out).mono ?_); rintro e w' ⟨rfl, ⟨nd, rfl⟩⟩; refine ⟨_, rfl, ?_⟩))
        go_ret
        exact ⟨by first | rfl | (simp; done) | (simp [*]; done), by repeat (first | exact Drawn0.refl _ | apply Drawn0.step)⟩
      · rw [if_neg c8] at H
        have c8b0 : decide (a0 < a1) = false := decide_eq_false c8
        clear c8
        by_cases c9 : a0 > a1
        · rw [if_pos c9] at H
          have c9b0 : decide (a1 < a0) = true := decide_eq_true c9
          clear c9
          obtain rfl := Option.some.inj H
          go_enter Try.func32, Try.ntmps32
          go_wp2_with (first | ((with_reducible refine gate_callee (f := 38) rfl ?_); refine goesL_ (some 8) rfl rfl Try.func38 (by kernel_rfl) rfl #[.int .u64 a0] rfl (by (try simp only [List.map_toArray, List.map_cons, List.map_nil]); first | done | rfl | (simp only [List.length_drop, List.length_take]; rfl)) ?_; (with_reducible refine (cmp_isNaN_uint64.calls a0 false _ A3.out).mono ?_); rintro e w' ⟨rfl, ⟨nd, rfl⟩⟩; refine ⟨_, rfl, ?_⟩) | ((with_reducible refine gate_callee (f := 38) rfl ?_); refine goesL_ (some 10) rfl rfl Try.func38 (by kernel_rfl) rfl #[.int .u64 a1] rfl (by (try simp only [List.map_toArray, List.map_cons, List.map_nil]); first | done | rfl | (simp only [List.length_drop, List.length_take]; rfl)) ?_; (with_reducible refine (cmp_isNaN_uint64.calls a1 false _ A4.out).mono ?_); rintro e w' ⟨rfl, ⟨nd, rfl⟩⟩; refine ⟨_, rfl, ?_⟩))
          go_ret
          exact ⟨by first | rfl | (simp; done) | (simp [*]; done), by repeat (first | exact Drawn0.refl _ | apply Drawn0.step)⟩
        · rw [if_neg c9] at H
          have c9b0 : decide (a1 < a0) = false := decide_eq_false c9
          clear c9
          obtain rfl := Option.some.inj H
          go_enter Try.func32, Try.ntmps32
          go_wp2_with (first | ((with_reducible refine gate_callee (f := 38) rfl ?_); refine goesL_ (some 8) rfl rfl Try.func38 (by kernel_rfl) rfl #[.int .u64 a0] rfl (by (try simp only [List.map_toArray, List.map_cons, List.map_nil]); first | done | rfl | (simp only [List.length_drop, List.length_take]; rfl)) ?_; (with_reducible refine (cmp_isNaN_uint64.calls a0 false _ A3.out).mono ?_); rintro e w' ⟨rfl, ⟨nd, rfl⟩⟩; refine ⟨_, rfl, ?_⟩) | ((with_reducible refine gate_callee (f := 38) rfl ?_); refine goesL_ (some 10) rfl rfl Try.func38 (by kernel_rfl) rfl #[.int .u64 a1] rfl (by (try simp only [List.map_toArray, List.map_cons, List.map_nil]); first | done | rfl | (simp only [List.length_drop, List.length_take]; rfl)) ?_; (with_reducible refine (cmp_isNaN_uint64.calls a1 false _ A4.out).mono ?_); rintro e w' ⟨rfl, ⟨nd, rfl⟩⟩; refine ⟨_, rfl, ?_⟩))
          go_ret
          exact ⟨by first | rfl | (simp; done) | (simp [*]; done), by repeat (first | exact Drawn0.refl _ | apply Drawn0.step)⟩

/-! ### impl_FloatCompare: function 23 -/
def impl_FloatCompare.f (a0 : Nat) (a1 : Nat) : Option (Int) := (impl_FloatRank.f a0).bind fun t103 => ((impl_FloatRank.f a1).bind fun t104 => ((cmp_Compare_uint64.f t103 t104).bind fun t105 => (some t105)))
set_option maxHeartbeats 8000000 in
set_option maxRecDepth 100000 in
theorem impl_FloatCompare.calls (a0 : Nat) (a1 : Nat) (r : Int) (w : World) (h : impl_FloatCompare.f a0 a1 = some r) :
    Calls Try.prog 23 #[.float .f64 a0, .float .f64 a1] w fun e w' => e = .returned (.int .i64 r) ∧ Drawn0 w w' := by
  have H : ((impl_FloatRank.f a0).bind fun t103 => ((impl_FloatRank.f a1).bind fun t104 => ((cmp_Compare_uint64.f t103 t104).bind fun t105 => (some t105)))) = some r := h
  clear h
  replace H := Option.bind_eq_some_iff.mp H
  obtain ⟨t103, A30, H⟩ := H
  replace H : ((impl_FloatRank.f a1).bind fun t104 => ((cmp_Compare_uint64.f t103 t104).bind fun t105 => (some t105))) = some r := H
  have A3 := Aside0.mk A30
  clear A30
  replace H := Option.bind_eq_some_iff.mp H
  obtain ⟨t104, A40, H⟩ := H
  replace H : ((cmp_Compare_uint64.f t103 t104).bind fun t105 => (some t105)) = some r := H
  have A4 := Aside0.mk A40
  clear A40
  replace H := Option.bind_eq_some_iff.mp H
  obtain ⟨t105, A50, H⟩ := H
  replace H : (some t105) = some r := H
  have A5 := Aside0.mk A50
  clear A50
  obtain rfl := Option.some.inj H
  go_enter Try.func23, Try.ntmps23
  go_wp2_with (first | ((with_reducible refine gate_callee (f := 21) rfl ?_); refine goesL_ (some 6) rfl rfl Try.func21 (by kernel_rfl) rfl #[.float .f64 a0] rfl (by (try simp only [List.map_toArray, List.map_cons, List.map_nil]); first | done | rfl | (simp only [List.length_drop, List.length_take]; rfl)) ?_; (with_reducible refine (impl_FloatRank.calls a0 t103 _ A3.out).mono ?_); rintro e w' ⟨rfl, ⟨nd, rfl⟩⟩; refine ⟨_, rfl, ?_⟩) | ((with_reducible refine gate_callee (f := 21) rfl ?_); refine goesL_ (some 8) rfl rfl Try.func21 (by kernel_rfl) rfl #[.float .f64 a1] rfl (by (try simp only [List.map_toArray, List.map_cons, List.map_nil]); first | done | rfl | (simp only [List.length_drop, List.length_take]; rfl)) ?_; (with_reducible refine (impl_FloatRank.calls a1 t104 _ A4.out).mono ?_); rintro e w' ⟨rfl, ⟨nd, rfl⟩⟩; refine ⟨_, rfl, ?_⟩) | ((with_reducible refine gate_callee (f := 32) rfl ?_); refine goesL_ (some 9) rfl rfl Try.func32 (by kernel_rfl) rfl #[.int .u64 t103, .int .u64 t104] rfl (by (try simp only [List.map_toArray, List.map_cons, List.map_nil]); first | done | rfl | (simp only [List.length_drop, List.length_take]; rfl)) ?_; (with_reducible refine (cmp_Compare_uint64.calls t103 t104 t105 _ A5.out).mono ?_); rintro e w' ⟨rfl, ⟨nd, rfl⟩⟩; refine ⟨_, rfl, ?_⟩))
  go_ret
  exact ⟨by first | rfl | (simp; done) | (simp [*]; done), by repeat (first | exact Drawn0.refl _ | apply Drawn0.step)⟩
theorem impl_FloatCompare.inv0 (a0 : Nat) (a1 : Nat) : impl_FloatCompare.f (cn a0) a1 = impl_FloatCompare.f a0 a1 := by
  by_cases h_ : nanw a0
  · unfold impl_FloatCompare.f
    first
      | (simp only [impl_FloatRank.inv0, feq_cn_l, feq_cn_r, fls_cn_l, fls_cn_r, fgt_cn_l, fgt_cn_r, fle_cn_l, fle_cn_r, fge_cn_l, fge_cn_r]; done)
      | (simp only [impl_FloatRank.inv0, feq_cn_l, feq_cn_r, fls_cn_l, fls_cn_r, fgt_cn_l, fgt_cn_r, fle_cn_l, fle_cn_r, fge_cn_l, fge_cn_r, feq_nan_l h_, feq_nan_l (cn_nanw h_), Bool.false_eq_true, if_false]; done)
      | (simp [feq_nan_l h_, feq_nan_l (cn_nanw h_)]; done)
  · rw [cn_num h_]
theorem impl_FloatCompare.inv1 (a0 : Nat) (a1 : Nat) : impl_FloatCompare.f a0 (cn a1) = impl_FloatCompare.f a0 a1 := by
  by_cases h_ : nanw a1
  · unfold impl_FloatCompare.f
    first
      | (simp only [impl_FloatRank.inv0, feq_cn_l, feq_cn_r, fls_cn_l, fls_cn_r, fgt_cn_l, fgt_cn_r, fle_cn_l, fle_cn_r, fge_cn_l, fge_cn_r]; done)
      | (simp only [impl_FloatRank.inv0, feq_cn_l, feq_cn_r, fls_cn_l, fls_cn_r, fgt_cn_l, fgt_cn_r, fle_cn_l, fle_cn_r, fge_cn_l, fge_cn_r, feq_nan_l h_, feq_nan_l (cn_nanw h_), Bool.false_eq_true, if_false]; done)
      | (simp [feq_nan_l h_, feq_nan_l (cn_nanw h_)]; done)
  · rw [cn_num h_]


/-! ### math_NaN: function 31 -/
def math_NaN.f  : Option (Nat) := some ((9221120237041090561 : Int).toNat)
set_option maxHeartbeats 8000000 in
set_option maxRecDepth 100000 in
theorem math_NaN.calls  (r : Nat) (w : World) (h : math_NaN.f  = some r) :
    Calls Try.prog 31 #[] w fun e w' => e = .returned (.float .f64 r) ∧ Drawn0 w w' := by
  have H : (some ((9221120237041090561 : Int).toNat)) = some r := h
  clear h
  obtain rfl := Option.some.inj H
  go_enter Try.func31, Try.ntmps31
  go_wp2
  go_ret
  exact ⟨by first | rfl | (simp; done) | (simp [*]; done), by repeat (first | exact Drawn0.refl _ | apply Drawn0.step)⟩

/-! ### impl_FloatUnrank: function 25 -/
def impl_FloatUnrank.j0 : Nat → Int → Int → Option (Nat × Bool)
  | 0, _, _ => none
  | k + 1, x0, x4 => if x0 = 18446744073709551615 then ((math_NaN.f).bind fun t106 => (some (t106, true))) else (if ((feq ((x4 : Int).toNat) ((x4 : Int).toNat)) = true) then ((impl_FloatRank.f ((x4 : Int).toNat)).bind fun t107 => (if t107 = x0 then (some ((x4 : Int).toNat, true)) else (some (0, false)))) else (some (0, false)))
def impl_FloatUnrank.f (k : Nat) (a0 : Int) : Option (Nat × Bool) := if a0 < 9223372036854775808 then (impl_FloatUnrank.j0 k a0 (Go.bits .xor .u64 IntKind.u64.max a0)) else (impl_FloatUnrank.j0 k a0 (Go.bits .andNot .u64 a0 9223372036854775808))
theorem impl_FloatUnrank.mono_l : ∀ k, (∀ y0 y1, LeO (impl_FloatUnrank.j0 k y0 y1) (impl_FloatUnrank.j0 (k + 1) y0 y1))
  | 0 => fun _ _ r h => by simp [impl_FloatUnrank.j0] at h
  | k + 1 => by
    have ih0 := impl_FloatUnrank.mono_l k
    · intro y0 y1
      unfold impl_FloatUnrank.j0
      repeat' first
      | (with_reducible exact ih0 _ _)
      | (with_reducible exact LeO.refl _)
      | (with_reducible exact LeO.none _)
      | (with_reducible refine LeO.ite ?_ ?_)
      | (with_reducible refine LeO.bind ?_ (fun _ => ?_))
      | exact ih0 _ _
      | exact LeO.none _
      | refine LeO.ite ?_ ?_
      | refine LeO.bind ?_ (fun _ => ?_)
theorem impl_FloatUnrank.mono : ∀ a0 k, LeO (impl_FloatUnrank.f k a0) (impl_FloatUnrank.f (k + 1) a0) := by
  intro a0 k
  have ih0 := impl_FloatUnrank.mono_l k
  unfold impl_FloatUnrank.f
  repeat' first
      | (with_reducible exact ih0 _ _)
      | (with_reducible exact LeO.refl _)
      | (with_reducible exact LeO.none _)
      | (with_reducible refine LeO.ite ?_ ?_)
      | (with_reducible refine LeO.bind ?_ (fun _ => ?_))
      | exact ih0 _ _
      | exact LeO.none _
      | refine LeO.ite ?_ ?_
      | refine LeO.bind ?_ (fun _ => ?_)
set_option maxHeartbeats 8000000 in
set_option maxRecDepth 100000 in
theorem impl_FloatUnrank.calls (k : Nat) (a0 : Int) (r1 : Nat) (r2 : Bool) (w : World) (h : impl_FloatUnrank.f k a0 = some (r1, r2)) :
    Calls Try.prog 25 #[.int .u64 a0] w fun e w' => e = .returned (.tuple #[.float .f64 r1, .bool r2]) ∧ Drawn0 w w' := by
  have H : (if a0 < 9223372036854775808 then (impl_FloatUnrank.j0 k a0 (Go.bits .xor .u64 IntKind.u64.max a0)) else (impl_FloatUnrank.j0 k a0 (Go.bits .andNot .u64 a0 9223372036854775808))) = some (r1, r2) := h
  clear h
  have HC2 := Aside0.mk H
  clear H
  go_enter Try.func25, Try.ntmps25
  go_upto_if 9 with (fail)
  go_cut [4] (fun v4 wc => ∃ (kq : Nat) (x4_1 : Int), v4 = .int .u64 x4_1 ∧ Aside0 (impl_FloatUnrank.j0 kq a0 x4_1 = some (r1, r2)) ∧ Aside0 (kq ≤ k) ∧ Drawn0 w wc)
  case first =>
    have H := HC2.out
    clear HC2
    by_cases c3 : a0 < 9223372036854775808
    · rw [if_pos c3] at H
      have c3b0 : decide (a0 < 9223372036854775808) = true := decide_eq_true c3
      clear c3
      (first | rw [c3b0] | (simp only [i64_w, i32_w]; rw [c3b0]) | skip)
      have H' := Aside0.mk H
      clear H
      go_wp2
      go_meet
      case rel => exact ⟨_, (Go.bits .xor .u64 IntKind.u64.max a0), (by first | rfl | (simp; done) | (simp [*]; done)), H', ⟨by first | omega | exact Nat.le_refl _⟩, by repeat (first | exact Drawn0.refl _ | apply Drawn0.step)⟩
    · rw [if_neg c3] at H
      have c3b0 : decide (a0 < 9223372036854775808) = false := decide_eq_false c3
      clear c3
      (first | rw [c3b0] | (simp only [i64_w, i32_w]; rw [c3b0]) | skip)
      have H' := Aside0.mk H
      clear H
      go_wp2
      go_meet
      case rel => exact ⟨_, (Go.bits .andNot .u64 a0 9223372036854775808), (by first | rfl | (simp; done) | (simp [*]; done)), H', ⟨by first | omega | exact Nat.le_refl _⟩, by repeat (first | exact Drawn0.refl _ | apply Drawn0.step)⟩
  case rest =>
    clear HC2
    try clear c2
    try clear p2
    try clear c3
    try clear c3b0
    obtain ⟨kq, x4_1, rfl, HA, HJ1, ⟨mc1, rfl⟩⟩ := hcut
    cases kq with
    | zero => exact absurd HA.out (by simp [impl_FloatUnrank.j0])
    | succ kj1 =>
      have H := HA.out
      clear HA
      simp only [impl_FloatUnrank.j0] at H
      by_cases c4 : a0 = 18446744073709551615
      · rw [if_pos c4] at H
        have c4b0 : (a0 == 18446744073709551615) = true := beq_iff_eq.mpr c4
        have c4b1 : (a0 != 18446744073709551615) = false := bne_eq_false_iff_eq.mpr c4
        clear c4
        replace H := Option.bind_eq_some_iff.mp H
        obtain ⟨t106, A50, H⟩ := H
        replace H : (some (t106, true)) = some (r1, r2) := H
        have A5 := Aside0.mk A50
        clear A50
        simp only [Option.some.injEq, Prod.mk.injEq] at H
        obtain ⟨rfl, rfl⟩ := H
        go_wp2_with (first | ((with_reducible refine gate_callee (f := 31) rfl ?_); refine goesL_ (some 17) rfl rfl Try.func31 (by kernel_rfl) rfl #[] rfl (by (try simp only [List.map_toArray, List.map_cons, List.map_nil]); first | done | rfl | (simp only [List.length_drop, List.length_take]; rfl)) ?_; (with_reducible refine (math_NaN.calls  t106 _ A5.out).mono ?_); rintro e w' ⟨rfl, ⟨nd, rfl⟩⟩; refine ⟨_, rfl, ?_⟩))
        go_ret2
        exact ⟨by first | rfl | (simp; done) | (simp [*]; done), by repeat (first | exact Drawn0.refl _ | apply Drawn0.step)⟩
      · rw [if_neg c4] at H
        have c4b0 : (a0 == 18446744073709551615) = false := beq_eq_false_iff_ne.mpr c4
        have c4b1 : (a0 != 18446744073709551615) = true := bne_iff_ne.mpr c4
        by_cases c6 : ((feq ((x4_1 : Int).toNat) ((x4_1 : Int).toNat)) = true)
        · rw [if_pos c6] at H
          have c6b0 : (feq ((x4_1 : Int).toNat) ((x4_1 : Int).toNat)) = true := c6
          clear c6
          replace H := Option.bind_eq_some_iff.mp H
          obtain ⟨t107, A70, H⟩ := H
          replace H : (if t107 = a0 then (some ((x4_1 : Int).toNat, true)) else (some (0, false))) = some (r1, r2) := H
          have A7 := Aside0.mk A70
          clear A70
          by_cases c8 : t107 = a0
          · rw [if_pos c8] at H
            have c8b0 : (t107 == a0) = true := beq_iff_eq.mpr c8
            have c8b1 : (t107 != a0) = false := bne_eq_false_iff_eq.mpr c8
            clear c8
            simp only [Option.some.injEq, Prod.mk.injEq] at H
            obtain ⟨rfl, rfl⟩ := H
            go_wp2_with (first | (go_at_call 21; (with_reducible refine (impl_FloatRank.calls ((x4_1 : Int).toNat) t107 _ A7.out).mono ?_); rintro e w' ⟨rfl, ⟨nd, rfl⟩⟩))
            go_ret2
            exact ⟨by first | rfl | (simp; done) | (simp [*]; done), by repeat (first | exact Drawn0.refl _ | apply Drawn0.step)⟩
          · rw [if_neg c8] at H
            have c8b0 : (t107 == a0) = false := beq_eq_false_iff_ne.mpr c8
            have c8b1 : (t107 != a0) = true := bne_iff_ne.mpr c8
            simp only [Option.some.injEq, Prod.mk.injEq] at H
            obtain ⟨rfl, rfl⟩ := H
            go_wp2_with (first | (go_at_call 21; (with_reducible refine (impl_FloatRank.calls ((x4_1 : Int).toNat) t107 _ A7.out).mono ?_); rintro e w' ⟨rfl, ⟨nd, rfl⟩⟩))
            go_ret2
            exact ⟨by first | rfl | (simp; done) | (simp [*]; done), by repeat (first | exact Drawn0.refl _ | apply Drawn0.step)⟩
        · rw [if_neg c6] at H
          have c6b0 : (feq ((x4_1 : Int).toNat) ((x4_1 : Int).toNat)) = false := by simpa using c6
          clear c6
          simp only [Option.some.injEq, Prod.mk.injEq] at H
          obtain ⟨rfl, rfl⟩ := H
          go_wp2
          go_ret2
          exact ⟨by first | rfl | (simp; done) | (simp [*]; done), by repeat (first | exact Drawn0.refl _ | apply Drawn0.step)⟩

/-! ### laws_big: function 26 -/
def laws_big.f (l0 : List Int) : Option (Bool) := some (decide ((l0.length : Int) > 1048576))
set_option maxHeartbeats 8000000 in
set_option maxRecDepth 100000 in
theorem laws_big.calls (A0 : Option Addr) (c0 : Nat) (l0 : List Int) (r : Bool) (w : World) (hr0 : Kd.C (Kd.int .u8) w A0 l0.length l0) (hc0 : l0.length ≤ c0) (h : laws_big.f l0 = some r) :
    Calls Try.prog 26 #[.slice A0 l0.length c0] w fun e w' => e = .returned (.bool r) ∧ Drawn0 w w' := by
  have HR0 := Aside0.mk hr0
  have HC0 := Aside0.mk hc0
  clear hr0 hc0
  have H : (some (decide ((l0.length : Int) > 1048576))) = some r := h
  clear h
  obtain rfl := Option.some.inj H
  go_enter Try.func26, Try.ntmps26
  go_wp2
  go_ret
  exact ⟨by first | rfl | (simp; done) | (simp [*]; done), by repeat (first | exact Drawn0.refl _ | apply Drawn0.step)⟩

/-! ### spec_FloatBits: function 11 -/
mutual
def spec_FloatBits.j0 : Nat → Nat → Int → Nat → Bool → Option (Int)
  | 0, _, _, _, _ => none
  | k + 1, x0, x3, x4, x20 => if x20 = true then (spec_FloatBits.j1 k 9223372036854775808 (fneg x0)) else (spec_FloatBits.j1 k x3 x4)
def spec_FloatBits.j1 : Nat → Int → Nat → Option (Int)
  | 0, _, _ => none
  | k + 1, x3, x4 => if (feq x4 0) = true then (some x3) else (if (fgt x4 9218868437227405311) = true then (some (Go.bits .or .u64 x3 9218868437227405312)) else (spec_FloatBits.l0 k x3 x4 0))
def spec_FloatBits.l0 : Nat → Int → Nat → Int → Option (Int)
  | 0, _, _, _ => none
  | k + 1, x3, x4, x5 => if (fge x4 4611686018427387904) = true then (if (fok .quo x4 4611686018427387904) = true then (spec_FloatBits.l0 k x3 (fval .quo x4 4611686018427387904) (wrap64 (x5 + 1))) else (none)) else (spec_FloatBits.l1 k x3 x4 x5)
def spec_FloatBits.l1 : Nat → Int → Nat → Int → Option (Int)
  | 0, _, _, _ => none
  | k + 1, x3, x4, x5 => if (fls x4 4607182418800017408) = true then (if x5 > (-1022) then (if (fok .mul x4 4611686018427387904) = true then (spec_FloatBits.l1 k x3 (fval .mul x4 4611686018427387904) (wrap64 (x5 - 1))) else (none)) else (if (fok .mul x4 4841369599423283200) = true then (if (fiok .u64 (fval .mul x4 4841369599423283200)) = true then (some (Go.bits .or .u64 x3 (fival .u64 (fval .mul x4 4841369599423283200)))) else (none)) else (none))) else (if (fok .sub x4 4607182418800017408) = true then (if (fok .mul (fval .sub x4 4607182418800017408) 4841369599423283200) = true then (if (fiok .u64 (fval .mul (fval .sub x4 4607182418800017408) 4841369599423283200)) = true then (some (Go.bits .or .u64 (Go.bits .or .u64 x3 (IntKind.u64.wrap ((IntKind.u64.wrap (wrap64 (x5 + 1023))) * 4503599627370496))) (fival .u64 (fval .mul (fval .sub x4 4607182418800017408) 4841369599423283200)))) else (none)) else (none)) else (none))
end
def spec_FloatBits.f (k : Nat) (a0 : Nat) : Option (Int) := if ((feq a0 a0) = true) then (if (fls a0 0) = true then (spec_FloatBits.j0 k a0 0 a0 true) else (if (feq a0 0) = true then (if (fok .quo 4607182418800017408 a0) = true then (spec_FloatBits.j0 k a0 0 a0 (fls (fval .quo 4607182418800017408 a0) 0)) else (none)) else (spec_FloatBits.j0 k a0 0 a0 false))) else (some 9221120237041090560)
theorem spec_FloatBits.mono_l : ∀ k, (∀ y0 y1 y2 y3, LeO (spec_FloatBits.j0 k y0 y1 y2 y3) (spec_FloatBits.j0 (k + 1) y0 y1 y2 y3)) ∧ (∀ y0 y1, LeO (spec_FloatBits.j1 k y0 y1) (spec_FloatBits.j1 (k + 1) y0 y1)) ∧ (∀ y0 y1 y2, LeO (spec_FloatBits.l0 k y0 y1 y2) (spec_FloatBits.l0 (k + 1) y0 y1 y2)) ∧ (∀ y0 y1 y2, LeO (spec_FloatBits.l1 k y0 y1 y2) (spec_FloatBits.l1 (k + 1) y0 y1 y2))
  | 0 => ⟨fun _ _ _ _ r h => by simp [spec_FloatBits.j0] at h, fun _ _ r h => by simp [spec_FloatBits.j1] at h, fun _ _ _ r h => by simp [spec_FloatBits.l0] at h, fun _ _ _ r h => by simp [spec_FloatBits.l1] at h⟩
  | k + 1 => by
    obtain ⟨ih0, ih1, ih2, ih3⟩ := spec_FloatBits.mono_l k
    refine ⟨?_, ?_, ?_, ?_⟩
    · intro y0 y1 y2 y3
      unfold spec_FloatBits.j0
      repeat' first
      | (with_reducible exact ih0 _ _ _ _)
      | (with_reducible exact ih1 _ _)
      | (with_reducible exact ih2 _ _ _)
      | (with_reducible exact ih3 _ _ _)
      | (with_reducible exact LeO.refl _)
      | (with_reducible exact LeO.none _)
      | (with_reducible refine LeO.ite ?_ ?_)
      | (with_reducible refine LeO.bind ?_ (fun _ => ?_))
      | exact ih0 _ _ _ _
      | exact ih1 _ _
      | exact ih2 _ _ _
      | exact ih3 _ _ _
      | exact LeO.none _
      | refine LeO.ite ?_ ?_
      | refine LeO.bind ?_ (fun _ => ?_)
    · intro y0 y1
      unfold spec_FloatBits.j1
      repeat' first
      | (with_reducible exact ih0 _ _ _ _)
      | (with_reducible exact ih1 _ _)
      | (with_reducible exact ih2 _ _ _)
      | (with_reducible exact ih3 _ _ _)
      | (with_reducible exact LeO.refl _)
      | (with_reducible exact LeO.none _)
      | (with_reducible refine LeO.ite ?_ ?_)
      | (with_reducible refine LeO.bind ?_ (fun _ => ?_))
      | exact ih0 _ _ _ _
      | exact ih1 _ _
      | exact ih2 _ _ _
      | exact ih3 _ _ _
      | exact LeO.none _
      | refine LeO.ite ?_ ?_
      | refine LeO.bind ?_ (fun _ => ?_)
    · intro y0 y1 y2
      unfold spec_FloatBits.l0
      repeat' first
      | (with_reducible exact ih0 _ _ _ _)
      | (with_reducible exact ih1 _ _)
      | (with_reducible exact ih2 _ _ _)
      | (with_reducible exact ih3 _ _ _)
      | (with_reducible exact LeO.refl _)
      | (with_reducible exact LeO.none _)
      | (with_reducible refine LeO.ite ?_ ?_)
      | (with_reducible refine LeO.bind ?_ (fun _ => ?_))
      | exact ih0 _ _ _ _
      | exact ih1 _ _
      | exact ih2 _ _ _
      | exact ih3 _ _ _
      | exact LeO.none _
      | refine LeO.ite ?_ ?_
      | refine LeO.bind ?_ (fun _ => ?_)
    · intro y0 y1 y2
      unfold spec_FloatBits.l1
      repeat' first
      | (with_reducible exact ih0 _ _ _ _)
      | (with_reducible exact ih1 _ _)
      | (with_reducible exact ih2 _ _ _)
      | (with_reducible exact ih3 _ _ _)
      | (with_reducible exact LeO.refl _)
      | (with_reducible exact LeO.none _)
      | (with_reducible refine LeO.ite ?_ ?_)
      | (with_reducible refine LeO.bind ?_ (fun _ => ?_))
      | exact ih0 _ _ _ _
      | exact ih1 _ _
      | exact ih2 _ _ _
      | exact ih3 _ _ _
      | exact LeO.none _
      | refine LeO.ite ?_ ?_
      | refine LeO.bind ?_ (fun _ => ?_)
theorem spec_FloatBits.mono : ∀ a0 k, LeO (spec_FloatBits.f k a0) (spec_FloatBits.f (k + 1) a0) := by
  intro a0 k
  obtain ⟨ih0, ih1, ih2, ih3⟩ := spec_FloatBits.mono_l k
  unfold spec_FloatBits.f
  repeat' first
      | (with_reducible exact ih0 _ _ _ _)
      | (with_reducible exact ih1 _ _)
      | (with_reducible exact ih2 _ _ _)
      | (with_reducible exact ih3 _ _ _)
      | (with_reducible exact LeO.refl _)
      | (with_reducible exact LeO.none _)
      | (with_reducible refine LeO.ite ?_ ?_)
      | (with_reducible refine LeO.bind ?_ (fun _ => ?_))
      | exact ih0 _ _ _ _
      | exact ih1 _ _
      | exact ih2 _ _ _
      | exact ih3 _ _ _
      | exact LeO.none _
      | refine LeO.ite ?_ ?_
      | refine LeO.bind ?_ (fun _ => ?_)
set_option maxHeartbeats 8000000 in
set_option maxRecDepth 100000 in
theorem spec_FloatBits.calls (k : Nat) (a0 : Nat) (r : Int) (w : World) (h : spec_FloatBits.f k a0 = some r) :
    Calls Try.prog 11 #[.float .f64 a0] w fun e w' => e = .returned (.int .u64 r) ∧ Drawn0 w w' := by
  have H : (if ((feq a0 a0) = true) then (if (fls a0 0) = true then (spec_FloatBits.j0 k a0 0 a0 true) else (if (feq a0 0) = true then (if (fok .quo 4607182418800017408 a0) = true then (spec_FloatBits.j0 k a0 0 a0 (fls (fval .quo 4607182418800017408 a0) 0)) else (none)) else (spec_FloatBits.j0 k a0 0 a0 false))) else (some 9221120237041090560)) = some r := h
  clear h
  by_cases c2 : ((feq a0 a0) = true)
  · rw [if_pos c2] at H
    have c2b0 : (feq a0 a0) = true := c2
    clear c2
    have HC3 := Aside0.mk H
    clear H
    go_enter Try.func11, Try.ntmps11
    go_upto_region 5 with (fail)
    go_cut [20] (fun v20 wc => ∃ (kq : Nat) (x20_2 : Bool), v20 = .bool x20_2 ∧ Aside0 (spec_FloatBits.j0 kq a0 0 a0 x20_2 = some r) ∧ Aside0 (kq ≤ k) ∧ Drawn0 w wc)
    case first =>
      have H := HC3.out
      clear HC3
      by_cases c4 : (fls a0 0) = true
      · rw [if_pos c4] at H
        have c4b0 : (fls a0 0) = true := c4
        clear c4
        (first | rw [c4b0] | (simp only [i64_w, i32_w]; rw [c4b0]) | skip)
        have H' := Aside0.mk H
        clear H
        go_wp2
        go_meet
        case rel => exact ⟨_, (true), (by first | rfl | (simp; done) | (simp [*]; done)), H', ⟨by first | omega | exact Nat.le_refl _⟩, by repeat (first | exact Drawn0.refl _ | apply Drawn0.step)⟩
      · rw [if_neg c4] at H
        have c4b0 : (fls a0 0) = false := by simpa using c4
        clear c4
        (first | rw [c4b0] | (simp only [i64_w, i32_w]; rw [c4b0]) | skip)
        by_cases c5 : (feq a0 0) = true
        · rw [if_pos c5] at H
          have c5b0 : (feq a0 0) = true := c5
          clear c5
          by_cases c6 : (fok .quo 4607182418800017408 a0) = true
          · rw [if_pos c6] at H
            have c6b0 : (fok .quo 4607182418800017408 a0) = true := c6
            clear c6
            have H' := Aside0.mk H
            clear H
            go_wp2
            go_meet
            case rel => exact ⟨_, ((fls (fval .quo 4607182418800017408 a0) 0)), (by first | rfl | (simp; done) | (simp [*]; done)), H', ⟨by first | omega | exact Nat.le_refl _⟩, by repeat (first | exact Drawn0.refl _ | apply Drawn0.step)⟩
          · rw [if_neg c6] at H
            exact absurd H (by simp)
        · rw [if_neg c5] at H
          have c5b0 : (feq a0 0) = false := by simpa using c5
          clear c5
          have H' := Aside0.mk H
          clear H
          go_wp2
          go_meet
          case rel => exact ⟨_, (false), (by first | rfl | (simp; done) | (simp [*]; done)), H', ⟨by first | omega | exact Nat.le_refl _⟩, by repeat (first | exact Drawn0.refl _ | apply Drawn0.step)⟩
    case rest =>
      clear HC3
      try clear c1
      try clear c2
      try clear c2b0
      try clear p2
      try clear c4
      try clear c4b0
      try clear c5
      try clear c5b0
      try clear c6
      try clear c6b0
      obtain ⟨kq, x20_2, rfl, HA, HJ2, ⟨mc2, rfl⟩⟩ := hcut
      cases kq with
      | zero => exact absurd HA.out (by simp [spec_FloatBits.j0])
      | succ kj2 =>
        have H := HA.out
        clear HA
        simp only [spec_FloatBits.j0] at H
        have HC7 := Aside0.mk H
        clear H
        go_upto_if 20 with (fail)
        go_cut [3, 4] (fun v3 v4 wc => ∃ (kq : Nat) (x3_6 : Int) (x4_6 : Nat), v3 = .int .u64 x3_6 ∧ v4 = .float .f64 x4_6 ∧ Aside0 (spec_FloatBits.j1 kq x3_6 x4_6 = some r) ∧ Aside0 (kq ≤ kj2) ∧ Drawn0 w wc)
        case first =>
          have H := HC7.out
          clear HC7
          by_cases c8 : x20_2 = true
          · subst c8
            have H1 : (spec_FloatBits.j1 kj2 9223372036854775808 (fneg a0)) = some r := by rw [if_pos rfl] at H; exact H
            clear H
            have H := H1
            clear H1
            have H' := Aside0.mk H
            clear H
            go_wp2
            go_meet
            case rel => exact ⟨_, (9223372036854775808), (fneg a0), (by first | rfl | (simp; done) | (simp [*]; done)), (by first | rfl | (simp; done) | (simp [*]; done)), H', ⟨by have := HJ2.out; first | omega | exact Nat.le_refl _⟩, by repeat (first | exact Drawn0.refl _ | apply Drawn0.step)⟩
          · replace c8 := Bool.eq_false_iff.mpr c8
            subst c8
            have H1 : (spec_FloatBits.j1 kj2 0 a0) = some r := by rw [if_neg (show ¬ (false = true) by decide)] at H; exact H
            clear H
            have H := H1
            clear H1
            have H' := Aside0.mk H
            clear H
            go_wp2
            go_meet
            case rel => exact ⟨_, (0), (a0), (by first | rfl | (simp; done) | (simp [*]; done)), (by first | rfl | (simp; done) | (simp [*]; done)), H', ⟨by have := HJ2.out; first | omega | exact Nat.le_refl _⟩, by repeat (first | exact Drawn0.refl _ | apply Drawn0.step)⟩
        case rest =>
          clear HC7
          try clear c1
          try clear c2
          try clear c2b0
          try clear p2
          try clear c4
          try clear c4b0
          try clear c5
          try clear c5b0
          try clear c6
          try clear c6b0
          try clear c8
          try clear p2
          obtain ⟨kq, x3_6, x4_6, rfl, rfl, HA, HJ6, ⟨mc6, rfl⟩⟩ := hcut
          cases kq with
          | zero => exact absurd HA.out (by simp [spec_FloatBits.j1])
          | succ kj6 =>
            have H := HA.out
            clear HA
            simp only [spec_FloatBits.j1] at H
            by_cases c9 : (feq x4_6 0) = true
            · rw [if_pos c9] at H
              have c9b0 : (feq x4_6 0) = true := c9
              clear c9
              obtain rfl := Option.some.inj H
              go_wp2
              go_ret
              exact ⟨by first | rfl | (simp; done) | (simp [*]; done), by repeat (first | exact Drawn0.refl _ | apply Drawn0.step)⟩
            · rw [if_neg c9] at H
              have c9b0 : (feq x4_6 0) = false := by simpa using c9
              clear c9
              by_cases c10 : (fgt x4_6 9218868437227405311) = true
              · rw [if_pos c10] at H
                have c10b0 : (fgt x4_6 9218868437227405311) = true := c10
                clear c10
                obtain rfl := Option.some.inj H
                go_wp2
                go_ret
                exact ⟨by first | rfl | (simp; done) | (simp [*]; done), by repeat (first | exact Drawn0.refl _ | apply Drawn0.step)⟩
              · rw [if_neg c10] at H
                have c10b0 : (fgt x4_6 9218868437227405311) = false := by simpa using c10
                clear c10
                have H' := Aside0.mk H
                clear H
                go_wp2
                go_loopg [4, 5] kj6 (fun kq v4 v5 w' => ∃ (x4_3 : Nat) (x5_3 : Int), v4 = .float .f64 x4_3 ∧ v5 = .int .i64 x5_3 ∧ Aside0 (spec_FloatBits.l0 kq x3_6 x4_3 x5_3 = some r) ∧ Aside0 (kq ≤ kj6) ∧ Drawn0 w w')
                case atStart => exact ⟨(x4_6), (0), (by first | rfl | (simp; done) | (simp [*]; done)), (by first | rfl | (simp; done) | (simp [*]; done)), H', ⟨Nat.le_refl _⟩, by repeat (first | exact Drawn0.refl _ | apply Drawn0.step)⟩
                case round =>
                  clear H'
                  try clear c1
                  try clear c2
                  try clear c2b0
                  try clear p2
                  try clear c4
                  try clear c4b0
                  try clear c5
                  try clear c5b0
                  try clear c6
                  try clear c6b0
                  try clear c8
                  try clear c9
                  try clear c9b0
                  try clear c10
                  try clear c10b0
                  try clear p2
                  obtain ⟨x4_3, x5_3, rfl, rfl, HA, HK3, ⟨m3, rfl⟩⟩ := hrel
                  cases gk with
                  | zero => exact absurd HA.out (by simp [spec_FloatBits.l0])
                  | succ k3 =>
                    have H := HA.out
                    clear HA
                    simp only [spec_FloatBits.l0] at H
                    by_cases c11 : (fge x4_3 4611686018427387904) = true
                    · rw [if_pos c11] at H
                      have c11b0 : (fge x4_3 4611686018427387904) = true := c11
                      clear c11
                      by_cases c12 : (fok .quo x4_3 4611686018427387904) = true
                      · rw [if_pos c12] at H
                        have c12b0 : (fok .quo x4_3 4611686018427387904) = true := c12
                        clear c12
                        have H' := Aside0.mk H
                        clear H
                        go_wp2
                        go_roundg k3
                        case measure => have := HJ2.out; have := HJ6.out; have := HK3.out; omega
                        case rel => exact ⟨(fval .quo x4_3 4611686018427387904), (wrap64 (x5_3 + 1)), (by first | rfl | (simp; done) | (simp [*]; done)), (by first | rfl | (simp; done) | (simp [*]; done)), H', ⟨by have := HJ2.out; have := HJ6.out; have := HK3.out; omega⟩, by repeat (first | exact Drawn0.refl _ | apply Drawn0.step)⟩
                      · rw [if_neg c12] at H
                        exact absurd H (by simp)
                    · rw [if_neg c11] at H
                      have c11b0 : (fge x4_3 4611686018427387904) = false := by simpa using c11
                      clear c11
                      have H' := Aside0.mk H
                      clear H
                      go_wp2
                      go_loopg [4, 5] k3 (fun kq v4 v5 w' => ∃ (x4_4 : Nat) (x5_4 : Int), v4 = .float .f64 x4_4 ∧ v5 = .int .i64 x5_4 ∧ Aside0 (spec_FloatBits.l1 kq x3_6 x4_4 x5_4 = some r) ∧ Aside0 (kq ≤ k3) ∧ Drawn0 w w')
                      case atStart => exact ⟨(x4_3), (x5_3), (by first | rfl | (simp; done) | (simp [*]; done)), (by first | rfl | (simp; done) | (simp [*]; done)), H', ⟨Nat.le_refl _⟩, by repeat (first | exact Drawn0.refl _ | apply Drawn0.step)⟩
                      case round =>
                        clear H'
                        try clear c1
                        try clear c2
                        try clear c2b0
                        try clear p2
                        try clear c4
                        try clear c4b0
                        try clear c5
                        try clear c5b0
                        try clear c6
                        try clear c6b0
                        try clear p6
                        try clear c8
                        try clear c9
                        try clear c9b0
                        try clear c10
                        try clear c10b0
                        try clear c11
                        try clear c11b0
                        try clear c12
                        try clear c12b0
                        try clear p2
                        obtain ⟨x4_4, x5_4, rfl, rfl, HA, HK4, ⟨m4, rfl⟩⟩ := hrel
                        cases gk with
                        | zero => exact absurd HA.out (by simp [spec_FloatBits.l1])
                        | succ k4 =>
                          have H := HA.out
                          clear HA
                          simp only [spec_FloatBits.l1] at H
                          by_cases c13 : (fls x4_4 4607182418800017408) = true
                          · rw [if_pos c13] at H
                            have c13b0 : (fls x4_4 4607182418800017408) = true := c13
                            clear c13
                            by_cases c14 : x5_4 > (-1022)
                            · rw [if_pos c14] at H
                              have c14b0 : decide ((-1022) < x5_4) = true := decide_eq_true c14
                              clear c14
                              by_cases c15 : (fok .mul x4_4 4611686018427387904) = true
                              · rw [if_pos c15] at H
                                have c15b0 : (fok .mul x4_4 4611686018427387904) = true := c15
                                clear c15
                                have H' := Aside0.mk H
                                clear H
                                go_wp2
                                go_roundg k4
                                case measure => have := HJ2.out; have := HJ6.out; have := HK3.out; have := HK4.out; omega
                                case rel => exact ⟨(fval .mul x4_4 4611686018427387904), (wrap64 (x5_4 - 1)), (by first | rfl | (simp; done) | (simp [*]; done)), (by first | rfl | (simp; done) | (simp [*]; done)), H', ⟨by have := HJ2.out; have := HJ6.out; have := HK3.out; have := HK4.out; omega⟩, by repeat (first | exact Drawn0.refl _ | apply Drawn0.step)⟩
                              · rw [if_neg c15] at H
                                exact absurd H (by simp)
                            · rw [if_neg c14] at H
                              have c14b0 : decide ((-1022) < x5_4) = false := decide_eq_false c14
                              clear c14
                              by_cases c16 : (fok .mul x4_4 4841369599423283200) = true
                              · rw [if_pos c16] at H
                                have c16b0 : (fok .mul x4_4 4841369599423283200) = true := c16
                                clear c16
                                by_cases c17 : (fiok .u64 (fval .mul x4_4 4841369599423283200)) = true
                                · rw [if_pos c17] at H
                                  have c17b0 : (fiok .u64 (fval .mul x4_4 4841369599423283200)) = true := c17
                                  clear c17
                                  obtain rfl := Option.some.inj H
                                  go_wp2
                                  go_ret
                                  exact ⟨by first | rfl | (simp; done) | (simp [*]; done), by repeat (first | exact Drawn0.refl _ | apply Drawn0.step)⟩
                                · rw [if_neg c17] at H
                                  exact absurd H (by simp)
                              · rw [if_neg c16] at H
                                exact absurd H (by simp)
                          · rw [if_neg c13] at H
                            have c13b0 : (fls x4_4 4607182418800017408) = false := by simpa using c13
                            clear c13
                            by_cases c18 : (fok .sub x4_4 4607182418800017408) = true
                            · rw [if_pos c18] at H
                              have c18b0 : (fok .sub x4_4 4607182418800017408) = true := c18
                              clear c18
                              by_cases c19 : (fok .mul (fval .sub x4_4 4607182418800017408) 4841369599423283200) = true
                              · rw [if_pos c19] at H
                                have c19b0 : (fok .mul (fval .sub x4_4 4607182418800017408) 4841369599423283200) = true := c19
                                clear c19
                                by_cases c20 : (fiok .u64 (fval .mul (fval .sub x4_4 4607182418800017408) 4841369599423283200)) = true
                                · rw [if_pos c20] at H
                                  have c20b0 : (fiok .u64 (fval .mul (fval .sub x4_4 4607182418800017408) 4841369599423283200)) = true := c20
                                  clear c20
                                  obtain rfl := Option.some.inj H
                                  go_wp2
                                  go_ret
                                  exact ⟨by first | rfl | (simp; done) | (simp [*]; done), by repeat (first | exact Drawn0.refl _ | apply Drawn0.step)⟩
                                · rw [if_neg c20] at H
                                  exact absurd H (by simp)
                              · rw [if_neg c19] at H
                                exact absurd H (by simp)
                            · rw [if_neg c18] at H
                              exact absurd H (by simp)
  · rw [if_neg c2] at H
    have c2b0 : (feq a0 a0) = false := by simpa using c2
    clear c2
    obtain rfl := Option.some.inj H
    go_enter Try.func11, Try.ntmps11
    go_wp2
    go_ret
    exact ⟨by first | rfl | (simp; done) | (simp [*]; done), by repeat (first | exact Drawn0.refl _ | apply Drawn0.step)⟩
theorem spec_FloatBits.inv0 (k : Nat) (a0 : Nat) : spec_FloatBits.f k (cn a0) = spec_FloatBits.f k a0 := by
  by_cases h_ : nanw a0
  · unfold spec_FloatBits.f
    first
      | (simp only [feq_cn_l, feq_cn_r, fls_cn_l, fls_cn_r, fgt_cn_l, fgt_cn_r, fle_cn_l, fle_cn_r, fge_cn_l, fge_cn_r]; done)
      | (simp only [feq_cn_l, feq_cn_r, fls_cn_l, fls_cn_r, fgt_cn_l, fgt_cn_r, fle_cn_l, fle_cn_r, fge_cn_l, fge_cn_r, feq_nan_l h_, feq_nan_l (cn_nanw h_), Bool.false_eq_true, if_false]; done)
      | (simp [feq_nan_l h_, feq_nan_l (cn_nanw h_)]; done)
  · rw [cn_num h_]


end Go.Proofs.Ytjbocmkphnmfgaa.PFnFloats
