-- By this session's own program (wip/xprint.py), over the kit's print.
import Derived.Test.YtjbocmkphnmfgaaPFnExactFloatSumx0
namespace Go.Proofs.Ytjbocmkphnmfgaa.PFnExactFloatSum
open Go.RowKit Go.Proofs.YtjbocmkphnmfgaaW.PrintWords Go.Proofs.YtjbocmkphnmfgaaW.PrintLast Go.Proofs.YtjbocmkphnmfgaaW.PrintMore
attribute [local go_sem] max2_int min2_int max_two min_two max_three min_three max_four min_four   -- for this text's walks alone
attribute [local go_sem high] fl_eql fl_neq fl_lss fl_leq fl_gtr fl_geq fl_add fl_sub fl_mul fl_quo fl_neg fl_ofInt fl_toInt fl_store ext_bits ext_from fl_nan_quo fl_nan_add fl_nan_mul fl_nan_sub
set_option linter.unusedVariables false
set_option linter.unusedSimpArgs false

/-! ### laws_sameFloat: function 15 -/
def laws_sameFloat.j0 : Nat → Nat → Nat → Bool → Option (Bool)
  | 0, _, _, _ => none
  | k + 1, x0, x1, x12 => if x12 = true then (if ((feq x0 x0) = true) then (some false) else (some (!(feq x1 x1)))) else (if (feq x0 0) = true then (if (feq x1 0) = true then (if (fok .quo 4607182418800017408 x0) = true then (if (fok .quo 4607182418800017408 x1) = true then (some ((fgt (fval .quo 4607182418800017408 x0) 0) == (fgt (fval .quo 4607182418800017408 x1) 0))) else (none)) else (none)) else (some (feq x0 x1))) else (some (feq x0 x1)))
def laws_sameFloat.f (k : Nat) (a0 : Nat) (a1 : Nat) : Option (Bool) := if ((feq a0 a0) = true) then (laws_sameFloat.j0 k a0 a1 (!(feq a1 a1))) else (laws_sameFloat.j0 k a0 a1 true)
theorem laws_sameFloat.mono_l : ∀ k, (∀ y0 y1 y2, LeO (laws_sameFloat.j0 k y0 y1 y2) (laws_sameFloat.j0 (k + 1) y0 y1 y2))
  | 0 => fun _ _ _ r h => by simp [laws_sameFloat.j0] at h
  | k + 1 => by
    have ih0 := laws_sameFloat.mono_l k
    · intro y0 y1 y2
      unfold laws_sameFloat.j0
      repeat' first
      | (with_reducible exact ih0 _ _ _)
      | (with_reducible exact LeO.refl _)
      | (with_reducible exact LeO.none _)
      | (with_reducible refine LeO.ite ?_ ?_)
      | (with_reducible refine LeO.bind ?_ (fun _ => ?_))
      | exact ih0 _ _ _
      | exact LeO.none _
      | refine LeO.ite ?_ ?_
      | refine LeO.bind ?_ (fun _ => ?_)
theorem laws_sameFloat.mono : ∀ a0 a1 k, LeO (laws_sameFloat.f k a0 a1) (laws_sameFloat.f (k + 1) a0 a1) := by
  intro a0 a1 k
  have ih0 := laws_sameFloat.mono_l k
  unfold laws_sameFloat.f
  repeat' first
      | (with_reducible exact ih0 _ _ _)
      | (with_reducible exact LeO.refl _)
      | (with_reducible exact LeO.none _)
      | (with_reducible refine LeO.ite ?_ ?_)
      | (with_reducible refine LeO.bind ?_ (fun _ => ?_))
      | exact ih0 _ _ _
      | exact LeO.none _
      | refine LeO.ite ?_ ?_
      | refine LeO.bind ?_ (fun _ => ?_)
set_option maxHeartbeats 8000000 in
set_option maxRecDepth 100000 in
theorem laws_sameFloat.calls (k : Nat) (a0 : Nat) (a1 : Nat) (r : Bool) (w : World) (h : laws_sameFloat.f k a0 a1 = some r) :
    Calls Try.prog 15 #[.float .f64 a0, .float .f64 a1] w fun e w' => e = .returned (.bool r) ∧ Drawn0 w w' := by
  have H : (if ((feq a0 a0) = true) then (laws_sameFloat.j0 k a0 a1 (!(feq a1 a1))) else (laws_sameFloat.j0 k a0 a1 true)) = some r := h
  clear h
  have HC3 := Aside0.mk H
  clear H
  go_enter Try.func15, Try.ntmps15
  go_upto_region 1 with (fail)
  go_cut [12] (fun v12 wc => ∃ (kq : Nat) (x12_2 : Bool), v12 = .bool x12_2 ∧ Aside0 (laws_sameFloat.j0 kq a0 a1 x12_2 = some r) ∧ Aside0 (kq ≤ k) ∧ Drawn0 w wc)
  case first =>
    have H := HC3.out
    clear HC3
    by_cases c4 : ((feq a0 a0) = true)
    · rw [if_pos c4] at H
      have c4b0 : (feq a0 a0) = true := c4
      clear c4
      (first | rw [c4b0] | (simp only [i64_w, i32_w]; rw [c4b0]) | skip)
      have H' := Aside0.mk H
      clear H
      go_wp2
      go_meet
      case rel => exact ⟨_, (!(feq a1 a1)), (by first | rfl | (simp; done) | (simp [*]; done)), H', ⟨by first | omega | exact Nat.le_refl _⟩, by repeat (first | exact Drawn0.refl _ | apply Drawn0.step)⟩
    · rw [if_neg c4] at H
      have c4b0 : (feq a0 a0) = false := by simpa using c4
      clear c4
      (first | rw [c4b0] | (simp only [i64_w, i32_w]; rw [c4b0]) | skip)
      have H' := Aside0.mk H
      clear H
      go_wp2
      go_meet
      case rel => exact ⟨_, (true), (by first | rfl | (simp; done) | (simp [*]; done)), H', ⟨by first | omega | exact Nat.le_refl _⟩, by repeat (first | exact Drawn0.refl _ | apply Drawn0.step)⟩
  case rest =>
    clear HC3
    try clear c1
    try clear p2
    try clear c4
    try clear c4b0
    obtain ⟨kq, x12_2, rfl, HA, HJ2, ⟨mc2, rfl⟩⟩ := hcut
    cases kq with
    | zero => exact absurd HA.out (by simp [laws_sameFloat.j0])
    | succ kj2 =>
      have H := HA.out
      clear HA
      simp only [laws_sameFloat.j0] at H
      by_cases c5 : x12_2 = true
      · subst c5
        have H1 : (if ((feq a0 a0) = true) then (some false) else (some (!(feq a1 a1)))) = some r := by rw [if_pos rfl] at H; exact H
        clear H
        have H := H1
        clear H1
        by_cases c6 : ((feq a0 a0) = true)
        · rw [if_pos c6] at H
          have c6b0 : (feq a0 a0) = true := c6
          clear c6
          obtain rfl := Option.some.inj H
          go_wp2
          go_ret
          exact ⟨by first | rfl | (simp; done) | (simp [*]; done), by repeat (first | exact Drawn0.refl _ | apply Drawn0.step)⟩
        · rw [if_neg c6] at H
          have c6b0 : (feq a0 a0) = false := by simpa using c6
          clear c6
          obtain rfl := Option.some.inj H
          go_wp2
          go_ret
          exact ⟨by first | rfl | (simp; done) | (simp [*]; done), by repeat (first | exact Drawn0.refl _ | apply Drawn0.step)⟩
      · replace c5 := Bool.eq_false_iff.mpr c5
        subst c5
        have H1 : (if (feq a0 0) = true then (if (feq a1 0) = true then (if (fok .quo 4607182418800017408 a0) = true then (if (fok .quo 4607182418800017408 a1) = true then (some ((fgt (fval .quo 4607182418800017408 a0) 0) == (fgt (fval .quo 4607182418800017408 a1) 0))) else (none)) else (none)) else (some (feq a0 a1))) else (some (feq a0 a1))) = some r := by rw [if_neg (show ¬ (false = true) by decide)] at H; exact H
        clear H
        have H := H1
        clear H1
        by_cases c7 : (feq a0 0) = true
        · rw [if_pos c7] at H
          have c7b0 : (feq a0 0) = true := c7
          clear c7
          by_cases c8 : (feq a1 0) = true
          · rw [if_pos c8] at H
            have c8b0 : (feq a1 0) = true := c8
            clear c8
            by_cases c9 : (fok .quo 4607182418800017408 a0) = true
            · rw [if_pos c9] at H
              have c9b0 : (fok .quo 4607182418800017408 a0) = true := c9
              clear c9
              by_cases c10 : (fok .quo 4607182418800017408 a1) = true
              · rw [if_pos c10] at H
                have c10b0 : (fok .quo 4607182418800017408 a1) = true := c10
                clear c10
                obtain rfl := Option.some.inj H
                go_wp2
                go_ret
                exact ⟨by first | rfl | (simp; done) | (simp [*]; done), by repeat (first | exact Drawn0.refl _ | apply Drawn0.step)⟩
              · rw [if_neg c10] at H
                exact absurd H (by simp)
            · rw [if_neg c9] at H
              exact absurd H (by simp)
          · rw [if_neg c8] at H
            have c8b0 : (feq a1 0) = false := by simpa using c8
            clear c8
            obtain rfl := Option.some.inj H
            go_wp2
            go_ret
            exact ⟨by first | rfl | (simp; done) | (simp [*]; done), by repeat (first | exact Drawn0.refl _ | apply Drawn0.step)⟩
        · rw [if_neg c7] at H
          have c7b0 : (feq a0 0) = false := by simpa using c7
          clear c7
          obtain rfl := Option.some.inj H
          go_wp2
          go_ret
          exact ⟨by first | rfl | (simp; done) | (simp [*]; done), by repeat (first | exact Drawn0.refl _ | apply Drawn0.step)⟩

/-! ### spec_FloatSum: function 16 -/
def spec_FloatSum.l0 : Nat → List Nat → Nat → Int → Option (Nat)
  | 0, _, _, _ => none
  | k + 1, x0, x3, x4 => if x4 < (x0.length : Int) then (if 0 ≤ x4 then (if (fok .add x3 (rdOf (0 : Nat) x0 x4)) = true then (spec_FloatSum.l0 k x0 (fval .add x3 (rdOf (0 : Nat) x0 x4)) (wrap64 (x4 + 1))) else (none)) else (none)) else (some x3)
def spec_FloatSum.f (k : Nat) (l0 : List Nat) : Option (Nat) := if (l0.length : Int) > 1000 then (if (fok .quo 0 0) = true then (some (fval .quo 0 0)) else (none)) else (spec_FloatSum.l0 k l0 0 0)
theorem spec_FloatSum.mono_l : ∀ k, (∀ y0 y1 y2, LeO (spec_FloatSum.l0 k y0 y1 y2) (spec_FloatSum.l0 (k + 1) y0 y1 y2))
  | 0 => fun _ _ _ r h => by simp [spec_FloatSum.l0] at h
  | k + 1 => by
    have ih0 := spec_FloatSum.mono_l k
    · intro y0 y1 y2
      unfold spec_FloatSum.l0
      repeat' first
      | (with_reducible exact ih0 _ _ _)
      | (with_reducible exact LeO.refl _)
      | (with_reducible exact LeO.none _)
      | (with_reducible refine LeO.ite ?_ ?_)
      | (with_reducible refine LeO.bind ?_ (fun _ => ?_))
      | exact ih0 _ _ _
      | exact LeO.none _
      | refine LeO.ite ?_ ?_
      | refine LeO.bind ?_ (fun _ => ?_)
theorem spec_FloatSum.mono : ∀ a0 k, LeO (spec_FloatSum.f k a0) (spec_FloatSum.f (k + 1) a0) := by
  intro a0 k
  have ih0 := spec_FloatSum.mono_l k
  unfold spec_FloatSum.f
  repeat' first
      | (with_reducible exact ih0 _ _ _)
      | (with_reducible exact LeO.refl _)
      | (with_reducible exact LeO.none _)
      | (with_reducible refine LeO.ite ?_ ?_)
      | (with_reducible refine LeO.bind ?_ (fun _ => ?_))
      | exact ih0 _ _ _
      | exact LeO.none _
      | refine LeO.ite ?_ ?_
      | refine LeO.bind ?_ (fun _ => ?_)
set_option maxHeartbeats 8000000 in
set_option maxRecDepth 100000 in
theorem spec_FloatSum.calls (k : Nat) (A0 : Option Addr) (c0 : Nat) (l0 : List Nat) (r : Nat) (w : World) (hr0 : Kd.C Kd.flt w A0 l0.length l0) (hc0 : l0.length ≤ c0) (h : spec_FloatSum.f k l0 = some r) :
    Calls Try.prog 16 #[.slice A0 l0.length c0] w fun e w' => e = .returned (.float .f64 r) ∧ Drawn0 w w' := by
  have HR0 := Aside0.mk hr0
  have HC0 := Aside0.mk hc0
  clear hr0 hc0
  have H : (if (l0.length : Int) > 1000 then (if (fok .quo 0 0) = true then (some (fval .quo 0 0)) else (none)) else (spec_FloatSum.l0 k l0 0 0)) = some r := h
  clear h
  by_cases c2 : (l0.length : Int) > 1000
  · rw [if_pos c2] at H
    have c2b0 : decide (1000 < (l0.length : Int)) = true := decide_eq_true c2
    have c2b1 : decide (1000 < l0.length) = true := decide_eq_true (by omega)
    clear c2
    by_cases c3 : (fok .quo 0 0) = true
    · rw [if_pos c3] at H
      have c3b0 : (fok .quo 0 0) = true := c3
      clear c3
      obtain rfl := Option.some.inj H
      go_enter Try.func16, Try.ntmps16
      go_wp2
      go_ret
      exact ⟨by first | rfl | (simp; done) | (simp [*]; done), by repeat (first | exact Drawn0.refl _ | apply Drawn0.step)⟩
    · rw [if_neg c3] at H
      exact absurd H (by simp)
  · rw [if_neg c2] at H
    have c2b0 : decide (1000 < (l0.length : Int)) = false := decide_eq_false c2
    have c2b1 : decide (1000 < l0.length) = false := decide_eq_false (by omega)
    clear c2
    have H' := Aside0.mk H
    clear H
    go_enter Try.func16, Try.ntmps16
    go_wp2
    go_loopg [3, 4] k (fun kq v3 v4 w' => ∃ (x3_1 : Nat) (x4_1 : Int), v3 = .float .f64 x3_1 ∧ v4 = .int .i64 x4_1 ∧ Aside0 (spec_FloatSum.l0 kq l0 x3_1 x4_1 = some r) ∧ Aside0 (kq ≤ k) ∧ Drawn0 w w')
    case atStart => exact ⟨(0), (0), (by first | rfl | (simp; done) | (simp [*]; done)), (by first | rfl | (simp; done) | (simp [*]; done)), H', ⟨Nat.le_refl _⟩, by repeat (first | exact Drawn0.refl _ | apply Drawn0.step)⟩
    case round =>
      clear H'
      try clear c1
      try clear c2
      try clear c2b0
      try clear c2b1
      try clear p2
      try clear c3
      try clear c3b0
      obtain ⟨x3_1, x4_1, rfl, rfl, HA, HK1, ⟨m1, rfl⟩⟩ := hrel
      cases gk with
      | zero => exact absurd HA.out (by simp [spec_FloatSum.l0])
      | succ k1 =>
        have H := HA.out
        clear HA
        simp only [spec_FloatSum.l0] at H
        by_cases c4 : x4_1 < (l0.length : Int)
        · rw [if_pos c4] at H
          have c4b0 : decide (x4_1 < (l0.length : Int)) = true := decide_eq_true c4
          clear c4
          by_cases c5 : 0 ≤ x4_1
          · rw [if_pos c5] at H
            have c5b0 : decide (0 ≤ x4_1) = true := decide_eq_true c5
            clear c5
            by_cases c6 : (fok .add x3_1 (rdOf (0 : Nat) l0 x4_1)) = true
            · rw [if_pos c6] at H
              have c6b0 : (fok .add x3_1 (rdOf (0 : Nat) l0 x4_1)) = true := c6
              clear c6
              have H' := Aside0.mk H
              clear H
              have p101 : 0 ≤ (x4_1 : Int) := of_decide_eq_true (by first | (with_reducible assumption) | assumption)
              have q101 : x4_1 < (l0.length : Int) := of_decide_eq_true (by first | (with_reducible assumption) | assumption)
              obtain ⟨ad101, e101, hx101_0⟩ := Kd.at_flt HR0.out x4_1 p101 q101
              cases e101
              replace p101 := eq_true p101
              replace q101 := eq_true q101
              go_wp2
              go_roundg k1
              case measure => have := HK1.out; omega
              case rel => exact ⟨(fval .add x3_1 (rdOf (0 : Nat) l0 x4_1)), (wrap64 (x4_1 + 1)), (by first | rfl | (simp; done) | (simp [*]; done)), (by first | rfl | (simp; done) | (simp [*]; done)), H', ⟨by have := HK1.out; omega⟩, by repeat (first | exact Drawn0.refl _ | apply Drawn0.step)⟩
            · rw [if_neg c6] at H
              exact absurd H (by simp)
          · rw [if_neg c5] at H
            exact absurd H (by simp)
        · rw [if_neg c4] at H
          have c4b0 : decide (x4_1 < (l0.length : Int)) = false := decide_eq_false c4
          clear c4
          obtain rfl := Option.some.inj H
          go_wp2
          go_ret
          exact ⟨by first | rfl | (simp; done) | (simp [*]; done), by repeat (first | exact Drawn0.refl _ | apply Drawn0.step)⟩
/-- one more summand -/
def addR (s y t : Nat) : Prop := (fok .add s y = true ∧ t = fval .add s y) ∨ (fok .add s y = false ∧ nanR t)
/-- what the first summands come to -/
def sumTo (l : List Nat) : Nat → Nat → Prop
  | 0, s => s = 0
  | n + 1, s => ∃ t, sumTo l n t ∧ addR t (rdOf (0 : Nat) l (n : Int)) s
/-- where FloatSum's answer is known -/
def spec_FloatSum.Q (l0 : List Nat) : Prop := fok .quo 0 0 = false
/-- what FloatSum answers -/
def spec_FloatSum.R (l0 : List Nat) (r : Nat) : Prop := (1000 < l0.length ∧ nanR r) ∨ (l0.length ≤ 1000 ∧ sumTo l0 l0.length r)
set_option maxHeartbeats 8000000 in
set_option maxRecDepth 100000 in
theorem spec_FloatSum.callsN (A0 : Option Addr) (c0 : Nat) (l0 : List Nat) (w : World) (hr0 : Kd.C Kd.flt w A0 l0.length l0) (hc0 : l0.length ≤ c0) (h : spec_FloatSum.Q l0) :
    Calls Try.prog 16 #[.slice A0 l0.length c0] w fun e w' => ∃ r_ : Nat, e = .returned (.float .f64 r_) ∧ Aside0 (spec_FloatSum.R l0 r_) ∧ Drawn0 w w' := by
  have HR0 := Aside0.mk hr0
  have HC0 := Aside0.mk hc0
  clear hr0 hc0
  by_cases c2 : (l0.length : Int) > 1000
  · have c2b0 : decide (1000 < (l0.length : Int)) = true := decide_eq_true c2
    have c2b1 : decide (1000 < l0.length) = true := decide_eq_true (by omega)
    have C2 := Aside0.mk (show 1000 < l0.length by omega)
    clear c2
    have c3b0 : fok .quo 0 0 = false := h
    go_enter Try.func16, Try.ntmps16
    go_wp2
    go_ret
    exact ⟨_, by first | rfl | (simp; done) | (simp [*]; done), ⟨Or.inl ⟨C2.out, nanR_of _ _ _⟩⟩, by repeat (first | exact Drawn0.refl _ | apply Drawn0.step)⟩
  · have c2b0 : decide (1000 < (l0.length : Int)) = false := decide_eq_false c2
    have c2b1 : decide (1000 < l0.length) = false := decide_eq_false (by omega)
    have C2 := Aside0.mk (show l0.length ≤ 1000 by omega)
    clear c2 h
    have H' : Aside0 (∃ i : Nat, (0 : Int) = (i : Int) ∧ i ≤ l0.length ∧ sumTo l0 i 0 ∧ (l0.length + 1) + i = l0.length + 1) := ⟨0, rfl, Nat.zero_le _, rfl, rfl⟩
    go_enter Try.func16, Try.ntmps16
    go_wp2
    go_loopg [3, 4] (l0.length + 1) (fun kq v3 v4 w' => ∃ (x3_1 : Nat) (x4_1 : Int), v3 = .float .f64 x3_1 ∧ v4 = .int .i64 x4_1 ∧ Aside0 (∃ i : Nat, x4_1 = (i : Int) ∧ i ≤ l0.length ∧ sumTo l0 i x3_1 ∧ kq + i = l0.length + 1) ∧ Drawn0 w w')
    case atStart => exact ⟨(0), (0), (by first | rfl | (simp; done) | (simp [*]; done)), (by first | rfl | (simp; done) | (simp [*]; done)), H', by repeat (first | exact Drawn0.refl _ | apply Drawn0.step)⟩
    case round =>
      clear H'
      try clear c2b0
      try clear c2b1
      obtain ⟨x3_1, x4_1, rfl, rfl, HA, ⟨m1, rfl⟩⟩ := hrel
      cases gk with
      | zero => obtain ⟨i, h1, h2, h3, h4⟩ := HA.out; exact absurd h4 (by omega)
      | succ k1 =>
        by_cases c4 : x4_1 < (l0.length : Int)
        · have c5 : 0 ≤ x4_1 := by
            obtain ⟨i, h1, h2, h3, h4⟩ := HA.out
            omega
          have H2 : Aside0 (∀ r, addR x3_1 (rdOf (0 : Nat) l0 x4_1) r → ∃ i : Nat, wrap64 (x4_1 + 1) = (i : Int) ∧ i ≤ l0.length ∧ sumTo l0 i r ∧ k1 + i = l0.length + 1) := by
            obtain ⟨i, h1, h2, h3, h4⟩ := HA.out
            have h5 := C2.out
            subst h1
            exact ⟨fun r hr => ⟨i + 1, by unfold wrap64; omega, by omega, ⟨x3_1, h3, hr⟩, by omega⟩⟩
          clear HA
          have c4b0 : decide (x4_1 < (l0.length : Int)) = true := decide_eq_true c4
          clear c4
          have c5b0 : decide (0 ≤ x4_1) = true := decide_eq_true c5
          clear c5
          have p101 : 0 ≤ (x4_1 : Int) := of_decide_eq_true (by first | (with_reducible assumption) | assumption)
          have q101 : x4_1 < (l0.length : Int) := of_decide_eq_true (by first | (with_reducible assumption) | assumption)
          obtain ⟨ad101, e101, hx101_0⟩ := Kd.at_flt HR0.out x4_1 p101 q101
          cases e101
          replace p101 := eq_true p101
          replace q101 := eq_true q101
          by_cases c6 : (fok .add x3_1 (rdOf (0 : Nat) l0 x4_1)) = true
          · have c6b0 : (fok .add x3_1 (rdOf (0 : Nat) l0 x4_1)) = true := c6
            clear c6
            have H' := Aside0.mk (H2.out _ (Or.inl ⟨c6b0, rfl⟩))
            clear H2
            go_wp2
            go_roundg k1
            case measure => omega
            case rel => exact ⟨(fval .add x3_1 (rdOf (0 : Nat) l0 x4_1)), (wrap64 (x4_1 + 1)), (by first | rfl | (simp; done) | (simp [*]; done)), (by first | rfl | (simp; done) | (simp [*]; done)), H', by repeat (first | exact Drawn0.refl _ | apply Drawn0.step)⟩
          · have c6b0 : (fok .add x3_1 (rdOf (0 : Nat) l0 x4_1)) = false := Bool.eq_false_iff.mpr c6
            clear c6
            have H' := Aside0.mk (fun r hr => H2.out r (Or.inr ⟨c6b0, hr⟩))
            clear H2
            go_wp2
            go_roundg k1
            case measure => omega
            case rel => exact ⟨_, (wrap64 (x4_1 + 1)), (by first | rfl | (simp; done) | (simp [*]; done)), (by first | rfl | (simp; done) | (simp [*]; done)), ⟨H'.out _ (nanR_of _ _ _)⟩, by repeat (first | exact Drawn0.refl _ | apply Drawn0.step)⟩
        · have c4b0 : decide (x4_1 < (l0.length : Int)) = false := decide_eq_false c4
          have HL : Aside0 (sumTo l0 l0.length x3_1) := by
            obtain ⟨i, h1, h2, h3, h4⟩ := HA.out
            have : i = l0.length := by omega
            exact ⟨this ▸ h3⟩
          clear HA c4
          go_wp2
          go_ret
          exact ⟨_, by first | rfl | (simp; done) | (simp [*]; done), ⟨Or.inr ⟨C2.out, HL.out⟩⟩, by repeat (first | exact Drawn0.refl _ | apply Drawn0.step)⟩


/-! ### laws_toFloat64S: function 17 -/
def laws_toFloat64S.l0 : Nat → List Nat → List Nat → Int → Option (List Nat)
  | 0, _, _, _ => none
  | k + 1, x0, x3, x4 => if x4 < (x0.length : Int) then (if 0 ≤ x4 then (if x4 < (x3.length : Int) then (laws_toFloat64S.l0 k x0 (x3.set (x4 : Int).toNat (rdOf (0 : Nat) x0 x4)) (wrap64 (x4 + 1))) else (none)) else (none)) else (some x3)
def laws_toFloat64S.f (k : Nat) (l0 : List Nat) : Option (List Nat) := if 0 ≤ (l0.length : Int) then (if ((l0.length : Int) : Int).toNat ≤ 35184372088832 then (laws_toFloat64S.l0 k l0 (List.replicate ((l0.length : Int) : Int).toNat 0) 0) else (none)) else (none)
theorem laws_toFloat64S.mono_l : ∀ k, (∀ y0 y1 y2, LeO (laws_toFloat64S.l0 k y0 y1 y2) (laws_toFloat64S.l0 (k + 1) y0 y1 y2))
  | 0 => fun _ _ _ r h => by simp [laws_toFloat64S.l0] at h
  | k + 1 => by
    have ih0 := laws_toFloat64S.mono_l k
    · intro y0 y1 y2
      unfold laws_toFloat64S.l0
      repeat' first
      | (with_reducible exact ih0 _ _ _)
      | (with_reducible exact LeO.refl _)
      | (with_reducible exact LeO.none _)
      | (with_reducible refine LeO.ite ?_ ?_)
      | (with_reducible refine LeO.bind ?_ (fun _ => ?_))
      | exact ih0 _ _ _
      | exact LeO.none _
      | refine LeO.ite ?_ ?_
      | refine LeO.bind ?_ (fun _ => ?_)
theorem laws_toFloat64S.mono : ∀ a0 k, LeO (laws_toFloat64S.f k a0) (laws_toFloat64S.f (k + 1) a0) := by
  intro a0 k
  have ih0 := laws_toFloat64S.mono_l k
  unfold laws_toFloat64S.f
  repeat' first
      | (with_reducible exact ih0 _ _ _)
      | (with_reducible exact LeO.refl _)
      | (with_reducible exact LeO.none _)
      | (with_reducible refine LeO.ite ?_ ?_)
      | (with_reducible refine LeO.bind ?_ (fun _ => ?_))
      | exact ih0 _ _ _
      | exact LeO.none _
      | refine LeO.ite ?_ ?_
      | refine LeO.bind ?_ (fun _ => ?_)
set_option maxHeartbeats 8000000 in
set_option maxRecDepth 100000 in
theorem laws_toFloat64S.calls (k : Nat) (A0 : Option Addr) (c0 : Nat) (l0 : List Nat) (r : List Nat) (w : World) (hr0 : Kd.C Kd.flt w A0 l0.length l0) (hc0 : l0.length ≤ c0) (h : laws_toFloat64S.f k l0 = some r) :
    Calls Try.prog 17 #[.slice A0 l0.length c0] w fun e w' => ∃ v0_ : Value, e = .returned (v0_) ∧ Kd.R Kd.flt 22 w' w.heap.size (fun _ => True) v0_ r ∧ Below w.heap.size w w' := by
  have HR0 := Aside0.mk hr0
  have HC0 := Aside0.mk hc0
  clear hr0 hc0
  have HB := Aside0.mk (Below.refl w.heap.size w)
  have H : (if 0 ≤ (l0.length : Int) then (if ((l0.length : Int) : Int).toNat ≤ 35184372088832 then (laws_toFloat64S.l0 k l0 (List.replicate ((l0.length : Int) : Int).toNat 0) 0) else (none)) else (none)) = some r := h
  clear h
  by_cases c2 : 0 ≤ (l0.length : Int)
  · rw [if_pos c2] at H
    have c2b0 := eq_true c2
    have c2b1 : decide (0 ≤ (l0.length : Int)) = true := decide_eq_true c2
    clear c2
    by_cases c3 : ((l0.length : Int) : Int).toNat ≤ 35184372088832
    · rw [if_pos c3] at H
      have c3b0 := eq_true c3
      have c3b1 : decide (((l0.length : Int) : Int).toNat ≤ 35184372088832) = true := decide_eq_true c3
      clear c3
      obtain ⟨y102, hy102⟩ : ∃ y_ : List Nat, y_ = (List.replicate ((l0.length : Int) : Int).toNat 0) := ⟨_, rfl⟩
      replace H : (laws_toFloat64S.l0 k l0 y102 0) = some r := by first | (rw [hy102]; with_reducible exact H) | (have H2_ := (Option.bind_some _ _).symm.trans H; rw [hy102]; with_reducible exact H2_) | (have H2_ := (Option.bind_some _ _).symm.trans H; with_reducible exact H2_) | with_reducible exact H | (rw [hy102]; exact H) | exact H
      have Ny102 := Aside0.mk hy102
      clear hy102
      have H' := Aside0.mk H
      clear H
      go_enter Try.func17, Try.ntmps17
      go_wp2_with (first | ((with_reducible refine gate_dst (N := 7) rfl ?_); refine Kd.R_make Kd.flt _ 22 rfl (N := 7) rfl 29 _ _ rfl (l0.length : Int) rfl rfl Try.underlying29 (.float .f64 0) 8 info22 rfl (by decide) (by omega) 0 (ok := fun _ => True) (okp := fun _ => True) rfl (fun _ hk => hk) trivial (of_decide_eq_true (by first | (with_reducible assumption) | assumption)) (Nat.le_trans (Nat.mul_le_mul_right _ (of_decide_eq_true (by first | (with_reducible assumption) | assumption) : (l0.length : Int).toNat ≤ 35184372088832)) (by omega)) (Below.refl _ _) (Nat.le_refl _) ?_; intro v103 w4 ho5 hb hg_ hnew_; clear hg_ hnew_; (first | rw [← Ny102.out] at ho5 | (simp only [Int.reduceToNat] at ho5; rw [← Ny102.out] at ho5)); have n0_ := Aside0.mk (Kd.R_lower ho5 (below_size (by repeat (first | (with_reducible first | exact HB.out | apply below_alloc | apply pw_below_drewN | apply below_drew1) | exact HB.out)))); have n1_ := Aside0.mk (below_step (by repeat (first | (with_reducible first | exact HB.out | apply below_alloc | apply pw_below_drewN | apply below_drew1) | exact HB.out)) hb); clear HB; have HO104 := n0_; have HB := n1_; clear n0_ n1_; clear hb ho5))
      go_loopg [4] k (fun kq v4 w' => ∃ (x3_1 : List Nat) (x4_1 : Int), v4 = .int .i64 x4_1 ∧ Aside0 (laws_toFloat64S.l0 kq l0 x3_1 x4_1 = some r) ∧ Aside0 (kq ≤ k) ∧ Aside0 (Kd.R Kd.flt 22 w' w.heap.size (fun _ => True) v103 x3_1) ∧ Aside0 (Below w.heap.size w w'))
      case atStart => exact ⟨(y102), (0), (by first | rfl | (simp; done) | (simp [*]; done)), H', ⟨Nat.le_refl _⟩, ⟨by (with_reducible repeat (first | apply Kd.R_alloc | apply Kd.R_drewN | apply Kd.R_drew)); exact HO104.out⟩, ⟨by repeat (first | (with_reducible first | exact HB.out | apply below_alloc | apply pw_below_drewN | apply below_drew1) | exact HB.out)⟩⟩
      case round =>
        clear H'
        try clear c1
        try clear c2
        try clear c2b0
        try clear c2b1
        try clear p2
        try clear c3
        try clear c3b0
        try clear c3b1
        obtain ⟨x3_1, x4_1, rfl, HA, HK1, HO_3, HB⟩ := hrel
        cases gk with
        | zero => exact absurd HA.out (by simp [laws_toFloat64S.l0])
        | succ k1 =>
          have H := HA.out
          clear HA
          simp only [laws_toFloat64S.l0] at H
          by_cases c6 : x4_1 < (l0.length : Int)
          · rw [if_pos c6] at H
            have c6b0 : decide (x4_1 < (l0.length : Int)) = true := decide_eq_true c6
            clear c6
            by_cases c7 : 0 ≤ x4_1
            · rw [if_pos c7] at H
              have c7b0 : decide (0 ≤ x4_1) = true := decide_eq_true c7
              clear c7
              by_cases c8 : x4_1 < (x3_1.length : Int)
              · rw [if_pos c8] at H
                have c8b0 : decide (x4_1 < (x3_1.length : Int)) = true := decide_eq_true c8
                clear c8
                obtain ⟨y106, hy106⟩ : ∃ y_ : List Nat, y_ = (x3_1.set (x4_1 : Int).toNat (rdOf (0 : Nat) l0 x4_1)) := ⟨_, rfl⟩
                replace H : (laws_toFloat64S.l0 k1 l0 y106 (wrap64 (x4_1 + 1))) = some r := by first | (rw [hy106]; with_reducible exact H) | (have H2_ := (Option.bind_some _ _).symm.trans H; rw [hy106]; with_reducible exact H2_) | (have H2_ := (Option.bind_some _ _).symm.trans H; with_reducible exact H2_) | with_reducible exact H | (rw [hy106]; exact H) | exact H
                have Ny106 := Aside0.mk hy106
                clear hy106
                have H' := Aside0.mk H
                clear H
                have p105 : 0 ≤ (x4_1 : Int) := of_decide_eq_true (by first | (with_reducible assumption) | assumption)
                have q105 : x4_1 < (l0.length : Int) := of_decide_eq_true (by first | (with_reducible assumption) | assumption)
                obtain ⟨ad105, e105, hx105_0⟩ := Kd.at_flt HR0.out x4_1 p105 q105
                cases e105
                replace hx105_0 := (HB.out.cell (World.block_lt_of_cell? w _ hx105_0)).trans hx105_0
                replace p105 := eq_true p105
                replace q105 := eq_true q105
                have p9 : 0 ≤ (x4_1 : Int) := of_decide_eq_true (by first | (with_reducible assumption) | assumption)
                have q9 : (x4_1 : Int) < ((x3_1.length : Int) : Int) := of_decide_eq_true (by first | (with_reducible assumption) | assumption)
                obtain ⟨go9, co9, eo9, gb9, gl9, cl9, HG9⟩ := Kd.R_form HO_3.out (by omega)
                (first | cases eo9 | (injection eo9 with ea_ en_ ec_; (first | subst ea_ | (injection ea_ with ea_; subst ea_)); subst ec_; clear en_))
                have GB9 := Aside0.mk gb9
                have GG9 := Aside0.mk HG9
                clear gb9 gl9 HG9
                obtain ⟨hx9_0, hf9_0⟩ := Kd.R_celln 0 HO_3.out (x4_1 : Int) p9 q9
                replace p9 := eq_true p9
                replace q9 := eq_true q9
                have HP10 := Kd.R_putg HO_3.out (x4_1 : Int) (rdOf (0 : Nat) l0 x4_1)
                go_wp2_with (first | ((with_reducible refine gate_store (t := 22) (p := 20) rfl ?_); refine store_event (t := 22) (p := 20) (v := ?vo_w11) (w1 := (wr.setCell ⟨go9, (x4_1 : Int).toNat, none⟩ (.float .f64 (rdOf (0 : Nat) l0 x4_1)))) ?hg ?ho ?hn ?hr ?_; (case ho => rfl); (case hg => rfl); (case hn => rfl); (case hr => first | (go_simp; done) | (go_simp; rfl)); intro w11 hw; have hg : wr.grownBy w11 (some go9) := (by rw [hw]; exact HP10.2); have hp_ : Kd.R Kd.flt 22 w11 w.heap.size (fun _ => True) (.slice (some ⟨go9, 0, none⟩) x3_1.length co9) y106 := (by rw [hw, Ny106.out]; exact HP10.1); clear HP10; have n0_ := Aside0.mk (hp_); have n1_ := Aside0.mk ((by rw [hw]; exact below_set (HB.out) GB9.out : Below w.heap.size w w11)); clear HO_3; clear HB; have HO_3 := n0_; have HB := n1_; clear n0_ n1_; clear hg hw hp_))
                go_roundg k1
                case measure => have := HK1.out; omega
                case rel => exact ⟨(y106), (wrap64 (x4_1 + 1)), (by first | rfl | (simp; done) | (simp [*]; done)), H', ⟨by have := HK1.out; omega⟩, ⟨by (with_reducible repeat (first | apply Kd.R_alloc | apply Kd.R_drewN | apply Kd.R_drew)); exact HO_3.out⟩, ⟨by repeat (first | (with_reducible first | exact HB.out | apply below_alloc | apply pw_below_drewN | apply below_drew1) | exact HB.out)⟩⟩
              · rw [if_neg c8] at H
                exact absurd H (by simp)
            · rw [if_neg c7] at H
              exact absurd H (by simp)
          · rw [if_neg c6] at H
            have c6b0 : decide (x4_1 < (l0.length : Int)) = false := decide_eq_false c6
            clear c6
            obtain rfl := Option.some.inj H
            go_wp2
            go_ret
            exact ⟨_, by first | rfl | (simp [errW_none, errW_some] <;> rfl) | (simp [*, errW_none, errW_some] <;> rfl), by (with_reducible repeat (first | apply Kd.R_alloc | apply Kd.R_drewN | apply Kd.R_drew)); exact HO_3.out, by repeat (first | (with_reducible first | exact HB.out | apply below_alloc | apply pw_below_drewN | apply below_drew1) | exact HB.out)⟩
    · rw [if_neg c3] at H
      exact absurd H (by simp)
  · rw [if_neg c2] at H
    exact absurd H (by simp)

-- NOT PRINTED: function 30 (math_Float64frombits)

/-! ### math_NaN: function 31 -/
def math_NaN.f  : Option (Nat) := some ((9221120237041090561 : Int).toNat)
set_option maxHeartbeats 8000000 in
set_option maxRecDepth 100000 in
theorem math_NaN.calls  (r : Nat) (w : World) (h : math_NaN.f  = some r) :
    Calls Try.prog 31 #[] w fun e w' => e = .returned (.float .f64 r) ∧ Drawn0 w w' := by
  have H : (some ((9221120237041090561 : Int).toNat)) = some r := h
  clear h
  obtain rfl := Option.some.inj H
  go_enter Try.func31, Try.ntmps31
  go_wp2
  go_ret
  exact ⟨by first | rfl | (simp; done) | (simp [*]; done), by repeat (first | exact Drawn0.refl _ | apply Drawn0.step)⟩

/-! ### impl_FloatSum: function 18 -/
def impl_FloatSum.l0 : Nat → Nat → List Nat → Int → Int → Option (Nat)
  | 0, _, _, _, _ => none
  | k + 1, x3, x10, x11, x12 => if x12 < x11 then (if 0 ≤ x12 then (if x12 < (x10.length : Int) then (if (fok .add x3 (rdOf (0 : Nat) x10 x12)) = true then (impl_FloatSum.l0 k (fval .add x3 (rdOf (0 : Nat) x10 x12)) x10 x11 (wrap64 (x12 + 1))) else (none)) else (none)) else (none)) else (some x3)
def impl_FloatSum.f (k : Nat) (l0 : List Nat) : Option (Nat) := if (l0.length : Int) > 1000 then ((math_NaN.f).bind fun t107 => (some t107)) else (impl_FloatSum.l0 k 0 l0 (l0.length : Int) 0)
theorem impl_FloatSum.mono_l : ∀ k, (∀ y0 y1 y2 y3, LeO (impl_FloatSum.l0 k y0 y1 y2 y3) (impl_FloatSum.l0 (k + 1) y0 y1 y2 y3))
  | 0 => fun _ _ _ _ r h => by simp [impl_FloatSum.l0] at h
  | k + 1 => by
    have ih0 := impl_FloatSum.mono_l k
    · intro y0 y1 y2 y3
      unfold impl_FloatSum.l0
      repeat' first
      | (with_reducible exact ih0 _ _ _ _)
      | (with_reducible exact LeO.refl _)
      | (with_reducible exact LeO.none _)
      | (with_reducible refine LeO.ite ?_ ?_)
      | (with_reducible refine LeO.bind ?_ (fun _ => ?_))
      | exact ih0 _ _ _ _
      | exact LeO.none _
      | refine LeO.ite ?_ ?_
      | refine LeO.bind ?_ (fun _ => ?_)
theorem impl_FloatSum.mono : ∀ a0 k, LeO (impl_FloatSum.f k a0) (impl_FloatSum.f (k + 1) a0) := by
  intro a0 k
  have ih0 := impl_FloatSum.mono_l k
  unfold impl_FloatSum.f
  repeat' first
      | (with_reducible exact ih0 _ _ _ _)
      | (with_reducible exact LeO.refl _)
      | (with_reducible exact LeO.none _)
      | (with_reducible refine LeO.ite ?_ ?_)
      | (with_reducible refine LeO.bind ?_ (fun _ => ?_))
      | exact ih0 _ _ _ _
      | exact LeO.none _
      | refine LeO.ite ?_ ?_
      | refine LeO.bind ?_ (fun _ => ?_)
set_option maxHeartbeats 8000000 in
set_option maxRecDepth 100000 in
theorem impl_FloatSum.calls (k : Nat) (A0 : Option Addr) (c0 : Nat) (l0 : List Nat) (r : Nat) (w : World) (hr0 : Kd.C Kd.flt w A0 l0.length l0) (hc0 : l0.length ≤ c0) (h : impl_FloatSum.f k l0 = some r) :
    Calls Try.prog 18 #[.slice A0 l0.length c0] w fun e w' => e = .returned (.float .f64 r) ∧ Drawn0 w w' := by
  have HR0 := Aside0.mk hr0
  have HC0 := Aside0.mk hc0
  clear hr0 hc0
  have H : (if (l0.length : Int) > 1000 then ((math_NaN.f).bind fun t107 => (some t107)) else (impl_FloatSum.l0 k 0 l0 (l0.length : Int) 0)) = some r := h
  clear h
  by_cases c2 : (l0.length : Int) > 1000
  · rw [if_pos c2] at H
    have c2b0 : decide (1000 < (l0.length : Int)) = true := decide_eq_true c2
    have c2b1 : decide (1000 < l0.length) = true := decide_eq_true (by omega)
    clear c2
    replace H := Option.bind_eq_some_iff.mp H
    obtain ⟨t107, A30, H⟩ := H
    replace H : (some t107) = some r := H
    have A3 := Aside0.mk A30
    clear A30
    obtain rfl := Option.some.inj H
    go_enter Try.func18, Try.ntmps18
    go_wp2_with (first | ((with_reducible refine gate_callee (f := 31) rfl ?_); refine goesL_ (some 9) rfl rfl Try.func31 (by kernel_rfl) rfl #[] rfl (by (try simp only [List.map_toArray, List.map_cons, List.map_nil]); first | done | rfl | (simp only [List.length_drop, List.length_take]; rfl)) ?_; (with_reducible refine (math_NaN.calls  t107 _ A3.out).mono ?_); rintro e w' ⟨rfl, ⟨nd, rfl⟩⟩; refine ⟨_, rfl, ?_⟩))
    go_ret
    exact ⟨by first | rfl | (simp; done) | (simp [*]; done), by repeat (first | exact Drawn0.refl _ | apply Drawn0.step)⟩
  · rw [if_neg c2] at H
    have c2b0 : decide (1000 < (l0.length : Int)) = false := decide_eq_false c2
    have c2b1 : decide (1000 < l0.length) = false := decide_eq_false (by omega)
    clear c2
    have H' := Aside0.mk H
    clear H
    go_enter Try.func18, Try.ntmps18
    go_wp2
    go_loopg [3, 12] k (fun kq v3 v12 w' => ∃ (x3_1 : Nat) (x12_1 : Int), v3 = .float .f64 x3_1 ∧ v12 = .int .i64 x12_1 ∧ Aside0 (impl_FloatSum.l0 kq x3_1 l0 (l0.length : Int) x12_1 = some r) ∧ Aside0 (kq ≤ k) ∧ Drawn0 w w')
    case atStart => exact ⟨(0), (0), (by first | rfl | (simp; done) | (simp [*]; done)), (by first | rfl | (simp; done) | (simp [*]; done)), H', ⟨Nat.le_refl _⟩, by repeat (first | exact Drawn0.refl _ | apply Drawn0.step)⟩
    case round =>
      clear H'
      try clear c1
      try clear c2
      try clear c2b0
      try clear c2b1
      try clear p2
      try clear c3
      obtain ⟨x3_1, x12_1, rfl, rfl, HA, HK1, ⟨m1, rfl⟩⟩ := hrel
      cases gk with
      | zero => exact absurd HA.out (by simp [impl_FloatSum.l0])
      | succ k1 =>
        have H := HA.out
        clear HA
        simp only [impl_FloatSum.l0] at H
        by_cases c4 : x12_1 < (l0.length : Int)
        · rw [if_pos c4] at H
          have c4b0 : decide (x12_1 < (l0.length : Int)) = true := decide_eq_true c4
          clear c4
          by_cases c5 : 0 ≤ x12_1
          · rw [if_pos c5] at H
            have c5b0 : decide (0 ≤ x12_1) = true := decide_eq_true c5
            clear c5
            by_cases c6 : x12_1 < (l0.length : Int)
            · rw [if_pos c6] at H
              have c6b0 : decide (x12_1 < (l0.length : Int)) = true := decide_eq_true c6
              clear c6
              by_cases c7 : (fok .add x3_1 (rdOf (0 : Nat) l0 x12_1)) = true
              · rw [if_pos c7] at H
                have c7b0 : (fok .add x3_1 (rdOf (0 : Nat) l0 x12_1)) = true := c7
                clear c7
                have H' := Aside0.mk H
                clear H
                have p108 : 0 ≤ (x12_1 : Int) := of_decide_eq_true (by first | (with_reducible assumption) | assumption)
                have q108 : x12_1 < (l0.length : Int) := of_decide_eq_true (by first | (with_reducible assumption) | assumption)
                obtain ⟨ad108, e108, hx108_0⟩ := Kd.at_flt HR0.out x12_1 p108 q108
                cases e108
                replace p108 := eq_true p108
                replace q108 := eq_true q108
                go_wp2
                go_roundg k1
                case measure => have := HK1.out; omega
                case rel => exact ⟨(fval .add x3_1 (rdOf (0 : Nat) l0 x12_1)), (wrap64 (x12_1 + 1)), (by first | rfl | (simp; done) | (simp [*]; done)), (by first | rfl | (simp; done) | (simp [*]; done)), H', ⟨by have := HK1.out; omega⟩, by repeat (first | exact Drawn0.refl _ | apply Drawn0.step)⟩
              · rw [if_neg c7] at H
                exact absurd H (by simp)
            · rw [if_neg c6] at H
              exact absurd H (by simp)
          · rw [if_neg c5] at H
            exact absurd H (by simp)
        · rw [if_neg c4] at H
          have c4b0 : decide (x12_1 < (l0.length : Int)) = false := decide_eq_false c4
          clear c4
          obtain rfl := Option.some.inj H
          go_wp2
          go_ret
          exact ⟨by first | rfl | (simp; done) | (simp [*]; done), by repeat (first | exact Drawn0.refl _ | apply Drawn0.step)⟩
/-- where FloatSum's answer is known -/
def impl_FloatSum.Q (l0 : List Nat) : Prop := ∃ t, math_NaN.f = some t
/-- what FloatSum answers -/
def impl_FloatSum.R (l0 : List Nat) (r : Nat) : Prop := (1000 < l0.length ∧ ∃ t, math_NaN.f = some t ∧ r = t) ∨ (l0.length ≤ 1000 ∧ sumTo l0 l0.length r)
set_option maxHeartbeats 8000000 in
set_option maxRecDepth 100000 in
theorem impl_FloatSum.callsN (A0 : Option Addr) (c0 : Nat) (l0 : List Nat) (w : World) (hr0 : Kd.C Kd.flt w A0 l0.length l0) (hc0 : l0.length ≤ c0) (h : impl_FloatSum.Q l0) :
    Calls Try.prog 18 #[.slice A0 l0.length c0] w fun e w' => ∃ r_ : Nat, e = .returned (.float .f64 r_) ∧ Aside0 (impl_FloatSum.R l0 r_) ∧ Drawn0 w w' := by
  have HR0 := Aside0.mk hr0
  have HC0 := Aside0.mk hc0
  clear hr0 hc0
  by_cases c2 : (l0.length : Int) > 1000
  · have c2b0 : decide (1000 < (l0.length : Int)) = true := decide_eq_true c2
    have c2b1 : decide (1000 < l0.length) = true := decide_eq_true (by omega)
    have C2 := Aside0.mk (show 1000 < l0.length by omega)
    clear c2
    obtain ⟨t107, ht⟩ := h
    have A3 := Aside0.mk ht
    clear ht
    go_enter Try.func18, Try.ntmps18
    go_wp2_with (first | ((with_reducible refine gate_callee (f := 31) rfl ?_); refine goesL_ (some 9) rfl rfl Try.func31 (by kernel_rfl) rfl #[] rfl (by (try simp only [List.map_toArray, List.map_cons, List.map_nil]); first | done | rfl | (simp only [List.length_drop, List.length_take]; rfl)) ?_; (with_reducible refine (math_NaN.calls  t107 _ A3.out).mono ?_); rintro e w' ⟨rfl, ⟨nd, rfl⟩⟩; refine ⟨_, rfl, ?_⟩))
    go_ret
    exact ⟨_, by first | rfl | (simp; done) | (simp [*]; done), ⟨Or.inl ⟨C2.out, _, A3.out, rfl⟩⟩, by repeat (first | exact Drawn0.refl _ | apply Drawn0.step)⟩
  · have c2b0 : decide (1000 < (l0.length : Int)) = false := decide_eq_false c2
    have c2b1 : decide (1000 < l0.length) = false := decide_eq_false (by omega)
    have C2 := Aside0.mk (show l0.length ≤ 1000 by omega)
    clear c2 h
    have H' : Aside0 (∃ i : Nat, (0 : Int) = (i : Int) ∧ i ≤ l0.length ∧ sumTo l0 i 0 ∧ (l0.length + 1) + i = l0.length + 1) := ⟨0, rfl, Nat.zero_le _, rfl, rfl⟩
    go_enter Try.func18, Try.ntmps18
    go_wp2
    go_loopg [3, 12] (l0.length + 1) (fun kq v3 v12 w' => ∃ (x3_1 : Nat) (x4_1 : Int), v3 = .float .f64 x3_1 ∧ v12 = .int .i64 x4_1 ∧ Aside0 (∃ i : Nat, x4_1 = (i : Int) ∧ i ≤ l0.length ∧ sumTo l0 i x3_1 ∧ kq + i = l0.length + 1) ∧ Drawn0 w w')
    case atStart => exact ⟨(0), (0), (by first | rfl | (simp; done) | (simp [*]; done)), (by first | rfl | (simp; done) | (simp [*]; done)), H', by repeat (first | exact Drawn0.refl _ | apply Drawn0.step)⟩
    case round =>
      clear H'
      try clear c2b0
      try clear c2b1
      obtain ⟨x3_1, x4_1, rfl, rfl, HA, ⟨m1, rfl⟩⟩ := hrel
      cases gk with
      | zero => obtain ⟨i, h1, h2, h3, h4⟩ := HA.out; exact absurd h4 (by omega)
      | succ k1 =>
        by_cases c4 : x4_1 < (l0.length : Int)
        · have c5 : 0 ≤ x4_1 := by
            obtain ⟨i, h1, h2, h3, h4⟩ := HA.out
            omega
          have H2 : Aside0 (∀ r, addR x3_1 (rdOf (0 : Nat) l0 x4_1) r → ∃ i : Nat, wrap64 (x4_1 + 1) = (i : Int) ∧ i ≤ l0.length ∧ sumTo l0 i r ∧ k1 + i = l0.length + 1) := by
            obtain ⟨i, h1, h2, h3, h4⟩ := HA.out
            have h5 := C2.out
            subst h1
            exact ⟨fun r hr => ⟨i + 1, by unfold wrap64; omega, by omega, ⟨x3_1, h3, hr⟩, by omega⟩⟩
          clear HA
          have c4b0 : decide (x4_1 < (l0.length : Int)) = true := decide_eq_true c4
          clear c4
          have c5b0 : decide (0 ≤ x4_1) = true := decide_eq_true c5
          clear c5
          have p101 : 0 ≤ (x4_1 : Int) := of_decide_eq_true (by first | (with_reducible assumption) | assumption)
          have q101 : x4_1 < (l0.length : Int) := of_decide_eq_true (by first | (with_reducible assumption) | assumption)
          obtain ⟨ad101, e101, hx101_0⟩ := Kd.at_flt HR0.out x4_1 p101 q101
          cases e101
          replace p101 := eq_true p101
          replace q101 := eq_true q101
          by_cases c6 : (fok .add x3_1 (rdOf (0 : Nat) l0 x4_1)) = true
          · have c6b0 : (fok .add x3_1 (rdOf (0 : Nat) l0 x4_1)) = true := c6
            clear c6
            have H' := Aside0.mk (H2.out _ (Or.inl ⟨c6b0, rfl⟩))
            clear H2
            go_wp2
            go_roundg k1
            case measure => omega
            case rel => exact ⟨(fval .add x3_1 (rdOf (0 : Nat) l0 x4_1)), (wrap64 (x4_1 + 1)), (by first | rfl | (simp; done) | (simp [*]; done)), (by first | rfl | (simp; done) | (simp [*]; done)), H', by repeat (first | exact Drawn0.refl _ | apply Drawn0.step)⟩
          · have c6b0 : (fok .add x3_1 (rdOf (0 : Nat) l0 x4_1)) = false := Bool.eq_false_iff.mpr c6
            clear c6
            have H' := Aside0.mk (fun r hr => H2.out r (Or.inr ⟨c6b0, hr⟩))
            clear H2
            go_wp2
            go_roundg k1
            case measure => omega
            case rel => exact ⟨_, (wrap64 (x4_1 + 1)), (by first | rfl | (simp; done) | (simp [*]; done)), (by first | rfl | (simp; done) | (simp [*]; done)), ⟨H'.out _ (nanR_of _ _ _)⟩, by repeat (first | exact Drawn0.refl _ | apply Drawn0.step)⟩
        · have c4b0 : decide (x4_1 < (l0.length : Int)) = false := decide_eq_false c4
          have HL : Aside0 (sumTo l0 l0.length x3_1) := by
            obtain ⟨i, h1, h2, h3, h4⟩ := HA.out
            have : i = l0.length := by omega
            exact ⟨this ▸ h3⟩
          clear HA c4
          go_wp2
          go_ret
          exact ⟨_, by first | rfl | (simp; done) | (simp [*]; done), ⟨Or.inr ⟨C2.out, HL.out⟩⟩, by repeat (first | exact Drawn0.refl _ | apply Drawn0.step)⟩


/-! ### laws_eqFloat64S: function 19 -/
def laws_eqFloat64S.l0 : Nat → List Nat → List Nat → Int → Option (Bool)
  | 0, _, _, _ => none
  | k + 1, x0, x1, x5 => if x5 < (x0.length : Int) then (if 0 ≤ x5 then (if x5 < (x1.length : Int) then ((laws_sameFloat.f k (rdOf (0 : Nat) x0 x5) (rdOf (0 : Nat) x1 x5)).bind fun t111 => (if t111 = true then (laws_eqFloat64S.l0 k x0 x1 (wrap64 (x5 + 1))) else (some false))) else (none)) else (none)) else (some true)
def laws_eqFloat64S.f (k : Nat) (l0 : List Nat) (l1 : List Nat) : Option (Bool) := if (l0.length : Int) = (l1.length : Int) then (laws_eqFloat64S.l0 k l0 l1 0) else (some false)
theorem laws_eqFloat64S.mono_l : ∀ k, (∀ y0 y1 y2, LeO (laws_eqFloat64S.l0 k y0 y1 y2) (laws_eqFloat64S.l0 (k + 1) y0 y1 y2))
  | 0 => fun _ _ _ r h => by simp [laws_eqFloat64S.l0] at h
  | k + 1 => by
    have ih0 := laws_eqFloat64S.mono_l k
    · intro y0 y1 y2
      unfold laws_eqFloat64S.l0
      repeat' first
      | (with_reducible exact ih0 _ _ _)
      | (with_reducible exact laws_sameFloat.mono _ _ _)
      | (with_reducible exact LeO.refl _)
      | (with_reducible exact LeO.none _)
      | (with_reducible refine LeO.ite ?_ ?_)
      | (with_reducible refine LeO.bind ?_ (fun _ => ?_))
      | exact ih0 _ _ _
      | exact laws_sameFloat.mono _ _ _
      | exact LeO.none _
      | refine LeO.ite ?_ ?_
      | refine LeO.bind ?_ (fun _ => ?_)
theorem laws_eqFloat64S.mono : ∀ a0 a1 k, LeO (laws_eqFloat64S.f k a0 a1) (laws_eqFloat64S.f (k + 1) a0 a1) := by
  intro a0 a1 k
  have ih0 := laws_eqFloat64S.mono_l k
  unfold laws_eqFloat64S.f
  repeat' first
      | (with_reducible exact ih0 _ _ _)
      | (with_reducible exact laws_sameFloat.mono _ _ _)
      | (with_reducible exact LeO.refl _)
      | (with_reducible exact LeO.none _)
      | (with_reducible refine LeO.ite ?_ ?_)
      | (with_reducible refine LeO.bind ?_ (fun _ => ?_))
      | exact ih0 _ _ _
      | exact laws_sameFloat.mono _ _ _
      | exact LeO.none _
      | refine LeO.ite ?_ ?_
      | refine LeO.bind ?_ (fun _ => ?_)
set_option maxHeartbeats 8000000 in
set_option maxRecDepth 100000 in
theorem laws_eqFloat64S.calls (k : Nat) (A0 : Option Addr) (c0 : Nat) (l0 : List Nat) (A1 : Option Addr) (c1 : Nat) (l1 : List Nat) (r : Bool) (w : World) (hr0 : Kd.C Kd.flt w A0 l0.length l0) (hc0 : l0.length ≤ c0) (hr1 : Kd.C Kd.flt w A1 l1.length l1) (hc1 : l1.length ≤ c1) (h : laws_eqFloat64S.f k l0 l1 = some r) :
    Calls Try.prog 19 #[.slice A0 l0.length c0, .slice A1 l1.length c1] w fun e w' => e = .returned (.bool r) ∧ Drawn0 w w' := by
  have HR0 := Aside0.mk hr0
  have HC0 := Aside0.mk hc0
  clear hr0 hc0
  have HR1 := Aside0.mk hr1
  have HC1 := Aside0.mk hc1
  clear hr1 hc1
  have H : (if (l0.length : Int) = (l1.length : Int) then (laws_eqFloat64S.l0 k l0 l1 0) else (some false)) = some r := h
  clear h
  by_cases c3 : (l0.length : Int) = (l1.length : Int)
  · rw [if_pos c3] at H
    have c3b0 : ((l0.length : Int) == (l1.length : Int)) = true := beq_iff_eq.mpr c3
    have c3b1 : ((l0.length : Int) != (l1.length : Int)) = false := bne_eq_false_iff_eq.mpr c3
    have c3b2 : (l0.length == l1.length) = true := by first | simpa using c3 | (simp at c3 ⊢; omega)
    clear c3
    have H' := Aside0.mk H
    clear H
    go_enter Try.func19, Try.ntmps19
    go_wp2
    repeat (go_quiet (fail); try go_wp2)
    go_loopg [5] k (fun kq v5 w' => ∃ (x5_1 : Int), v5 = .int .i64 x5_1 ∧ Aside0 (laws_eqFloat64S.l0 kq l0 l1 x5_1 = some r) ∧ Aside0 (kq ≤ k) ∧ Drawn0 w w')
    case atStart => exact ⟨(0), (by first | rfl | (simp; done) | (simp [*]; done)), H', ⟨Nat.le_refl _⟩, by repeat (first | exact Drawn0.refl _ | apply Drawn0.step)⟩
    case round =>
      clear H'
      try clear c1
      try clear p2
      try clear c3
      try clear c3b0
      try clear c3b1
      try clear c3b2
      obtain ⟨x5_1, rfl, HA, HK1, ⟨m1, rfl⟩⟩ := hrel
      cases gk with
      | zero => exact absurd HA.out (by simp [laws_eqFloat64S.l0])
      | succ k1 =>
        have H := HA.out
        clear HA
        simp only [laws_eqFloat64S.l0] at H
        by_cases c4 : x5_1 < (l0.length : Int)
        · rw [if_pos c4] at H
          have c4b0 : decide (x5_1 < (l0.length : Int)) = true := decide_eq_true c4
          clear c4
          by_cases c5 : 0 ≤ x5_1
          · rw [if_pos c5] at H
            have c5b0 : decide (0 ≤ x5_1) = true := decide_eq_true c5
            clear c5
            by_cases c6 : x5_1 < (l1.length : Int)
            · rw [if_pos c6] at H
              have c6b0 : decide (x5_1 < (l1.length : Int)) = true := decide_eq_true c6
              clear c6
              replace H := Option.bind_eq_some_iff.mp H
              obtain ⟨t111, A70, H⟩ := H
              replace H : (if t111 = true then (laws_eqFloat64S.l0 k1 l0 l1 (wrap64 (x5_1 + 1))) else (some false)) = some r := H
              have A7 := Aside0.mk A70
              clear A70
              by_cases c8 : t111 = true
              · subst c8
                have H1 : (laws_eqFloat64S.l0 k1 l0 l1 (wrap64 (x5_1 + 1))) = some r := by rw [if_pos rfl] at H; exact H
                clear H
                have H := H1
                clear H1
                have H' := Aside0.mk H
                clear H
                have p109 : 0 ≤ (x5_1 : Int) := of_decide_eq_true (by first | (with_reducible assumption) | assumption)
                have q109 : x5_1 < (l0.length : Int) := of_decide_eq_true (by first | (with_reducible assumption) | assumption)
                obtain ⟨ad109, e109, hx109_0⟩ := Kd.at_flt HR0.out x5_1 p109 q109
                cases e109
                replace p109 := eq_true p109
                replace q109 := eq_true q109
                have p110 : 0 ≤ (x5_1 : Int) := of_decide_eq_true (by first | (with_reducible assumption) | assumption)
                have q110 : x5_1 < (l1.length : Int) := of_decide_eq_true (by first | (with_reducible assumption) | assumption)
                obtain ⟨ad110, e110, hx110_0⟩ := Kd.at_flt HR1.out x5_1 p110 q110
                cases e110
                replace p110 := eq_true p110
                replace q110 := eq_true q110
                go_wp2_with (first | (go_at_call 15; (with_reducible refine (laws_sameFloat.calls k1 (rdOf (0 : Nat) l0 x5_1) (rdOf (0 : Nat) l1 x5_1) true _ A7.out).mono ?_); rintro e w' ⟨rfl, ⟨nd, rfl⟩⟩; (try first | exact ⟨rfl, _, World.drewN_drewN _ _ _⟩ | exact ⟨rfl, _, Eq.trans (World.drewN_drewN _ _ _) (congrArg (World.drewN _) (Nat.add_assoc _ _ _))⟩)))
                repeat (go_quiet (first | (go_at_call 15; (with_reducible refine (laws_sameFloat.calls k1 (rdOf (0 : Nat) l0 x5_1) (rdOf (0 : Nat) l1 x5_1) true _ A7.out).mono ?_); rintro e w' ⟨rfl, ⟨nd, rfl⟩⟩; (try first | exact ⟨rfl, _, World.drewN_drewN _ _ _⟩ | exact ⟨rfl, _, Eq.trans (World.drewN_drewN _ _ _) (congrArg (World.drewN _) (Nat.add_assoc _ _ _))⟩))); try go_wp2_with (first | (go_at_call 15; (with_reducible refine (laws_sameFloat.calls k1 (rdOf (0 : Nat) l0 x5_1) (rdOf (0 : Nat) l1 x5_1) true _ A7.out).mono ?_); rintro e w' ⟨rfl, ⟨nd, rfl⟩⟩; (try first | exact ⟨rfl, _, World.drewN_drewN _ _ _⟩ | exact ⟨rfl, _, Eq.trans (World.drewN_drewN _ _ _) (congrArg (World.drewN _) (Nat.add_assoc _ _ _))⟩))))
                go_roundg k1
                case measure => have := HK1.out; omega
                case rel => exact ⟨(wrap64 (x5_1 + 1)), (by first | rfl | (simp; done) | (simp [*]; done)), H', ⟨by have := HK1.out; omega⟩, by repeat (first | exact Drawn0.refl _ | apply Drawn0.step)⟩
              · replace c8 := Bool.eq_false_iff.mpr c8
                subst c8
                have H1 : (some false) = some r := by rw [if_neg (show ¬ (false = true) by decide)] at H; exact H
                clear H
                have H := H1
                clear H1
                obtain rfl := Option.some.inj H
                have p109 : 0 ≤ (x5_1 : Int) := of_decide_eq_true (by first | (with_reducible assumption) | assumption)
                have q109 : x5_1 < (l0.length : Int) := of_decide_eq_true (by first | (with_reducible assumption) | assumption)
                obtain ⟨ad109, e109, hx109_0⟩ := Kd.at_flt HR0.out x5_1 p109 q109
                cases e109
                replace p109 := eq_true p109
                replace q109 := eq_true q109
                have p110 : 0 ≤ (x5_1 : Int) := of_decide_eq_true (by first | (with_reducible assumption) | assumption)
                have q110 : x5_1 < (l1.length : Int) := of_decide_eq_true (by first | (with_reducible assumption) | assumption)
                obtain ⟨ad110, e110, hx110_0⟩ := Kd.at_flt HR1.out x5_1 p110 q110
                cases e110
                replace p110 := eq_true p110
                replace q110 := eq_true q110
                go_wp2_with (first | (go_at_call 15; (with_reducible refine (laws_sameFloat.calls k1 (rdOf (0 : Nat) l0 x5_1) (rdOf (0 : Nat) l1 x5_1) false _ A7.out).mono ?_); rintro e w' ⟨rfl, ⟨nd, rfl⟩⟩; (try first | exact ⟨rfl, _, World.drewN_drewN _ _ _⟩ | exact ⟨rfl, _, Eq.trans (World.drewN_drewN _ _ _) (congrArg (World.drewN _) (Nat.add_assoc _ _ _))⟩)))
                repeat (go_quiet (first | (go_at_call 15; (with_reducible refine (laws_sameFloat.calls k1 (rdOf (0 : Nat) l0 x5_1) (rdOf (0 : Nat) l1 x5_1) false _ A7.out).mono ?_); rintro e w' ⟨rfl, ⟨nd, rfl⟩⟩; (try first | exact ⟨rfl, _, World.drewN_drewN _ _ _⟩ | exact ⟨rfl, _, Eq.trans (World.drewN_drewN _ _ _) (congrArg (World.drewN _) (Nat.add_assoc _ _ _))⟩))); try go_wp2_with (first | (go_at_call 15; (with_reducible refine (laws_sameFloat.calls k1 (rdOf (0 : Nat) l0 x5_1) (rdOf (0 : Nat) l1 x5_1) false _ A7.out).mono ?_); rintro e w' ⟨rfl, ⟨nd, rfl⟩⟩; (try first | exact ⟨rfl, _, World.drewN_drewN _ _ _⟩ | exact ⟨rfl, _, Eq.trans (World.drewN_drewN _ _ _) (congrArg (World.drewN _) (Nat.add_assoc _ _ _))⟩))))
                go_ret
                exact ⟨by first | rfl | (simp; done) | (simp [*]; done), by repeat (first | exact Drawn0.refl _ | apply Drawn0.step)⟩
            · rw [if_neg c6] at H
              exact absurd H (by simp)
          · rw [if_neg c5] at H
            exact absurd H (by simp)
        · rw [if_neg c4] at H
          have c4b0 : decide (x5_1 < (l0.length : Int)) = false := decide_eq_false c4
          clear c4
          obtain rfl := Option.some.inj H
          go_wp2
          repeat (go_quiet (fail); try go_wp2)
          go_ret
          exact ⟨by first | rfl | (simp; done) | (simp [*]; done), by repeat (first | exact Drawn0.refl _ | apply Drawn0.step)⟩
  · rw [if_neg c3] at H
    have c3b0 : ((l0.length : Int) == (l1.length : Int)) = false := beq_eq_false_iff_ne.mpr c3
    have c3b1 : ((l0.length : Int) != (l1.length : Int)) = true := bne_iff_ne.mpr c3
    have c3b2 : (l0.length == l1.length) = false := by first | simpa using c3 | (simp at c3 ⊢; omega)
    obtain rfl := Option.some.inj H
    go_enter Try.func19, Try.ntmps19
    go_wp2
    repeat (go_quiet (fail); try go_wp2)
    go_ret
    exact ⟨by first | rfl | (simp; done) | (simp [*]; done), by repeat (first | exact Drawn0.refl _ | apply Drawn0.step)⟩

end Go.Proofs.Ytjbocmkphnmfgaa.PFnExactFloatSum
