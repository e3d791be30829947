-- By this session's own program (wip/xprint.py), over the kit's print.
import Derived.Test.YtjjkhlphdbmdfaaPFnExactTupleBytesx0
namespace Go.Proofs.Ytjjkhlphdbmdfaa.PFnExactTupleBytes
open Go.RowKit Go.Proofs.YtjjkhlphdbmdfaaW.PrintWords Go.Proofs.YtjjkhlphdbmdfaaW.PrintLast Go.Proofs.YtjjkhlphdbmdfaaW.PrintMore
attribute [local go_sem] max2_int min2_int max_two min_two max_three min_three max_four min_four   -- for this text's walks alone
attribute [local go_sem high] fl_eql fl_neq fl_lss fl_leq fl_gtr fl_geq fl_add fl_sub fl_mul fl_quo fl_neg fl_ofInt fl_toInt fl_store ext_bits ext_from
open Go.Proofs.YtjjkhlphdbmdfaaW.PrintWords renaming below_alloc → h1, pw_below_drewN → h2, below_drew1 → h3, below_set → h4, blk_drewN → b1, blk_drew → b2, blk_alloc → b3
set_option linter.unusedVariables false
set_option linter.unusedSimpArgs false

/-! ### laws_eqByteS: function 13 -/
def laws_eqByteS.l0 : Nat → List Int → List Int → Int → Option (Bool)
  | 0, _, _, _ => none
  | k + 1, x0, x1, x5 => if x5 < (x0.length : Int) then (if 0 ≤ x5 then (if x5 < (x1.length : Int) then (if (rd x0 x5) = (rd x1 x5) then (laws_eqByteS.l0 k x0 x1 (wrap64 (x5 + 1))) else (some false)) else (none)) else (none)) else (some true)
def laws_eqByteS.f (k : Nat) (l0 : List Int) (l1 : List Int) : Option (Bool) := if (l0.length : Int) = (l1.length : Int) then (laws_eqByteS.l0 k l0 l1 0) else (some false)
theorem laws_eqByteS.mono_l : ∀ k, (∀ y0 y1 y2, LeO (laws_eqByteS.l0 k y0 y1 y2) (laws_eqByteS.l0 (k + 1) y0 y1 y2))
  | 0 => fun _ _ _ r h => by simp [laws_eqByteS.l0] at h
  | k + 1 => by
    have ih0 := laws_eqByteS.mono_l k
    · intro y0 y1 y2
      unfold laws_eqByteS.l0
      repeat' with_reducible first | exact ih0 _ _ _ | exact LeO.refl _ | exact LeO.none _ | refine LeO.ite ?_ ?_ | refine LeO.bind ?_ (fun _ => ?_)
theorem laws_eqByteS.mono : ∀ a0 a1 k, LeO (laws_eqByteS.f k a0 a1) (laws_eqByteS.f (k + 1) a0 a1) := by
  intro a0 a1 k
  have ih0 := laws_eqByteS.mono_l k
  unfold laws_eqByteS.f
  repeat' with_reducible first | exact ih0 _ _ _ | exact LeO.refl _ | exact LeO.none _ | refine LeO.ite ?_ ?_ | refine LeO.bind ?_ (fun _ => ?_)
set_option maxHeartbeats 8000000 in
set_option maxRecDepth 100000 in
theorem laws_eqByteS.calls (k : Nat) (A0 : Option Addr) (c0 : Nat) (l0 : List Int) (A1 : Option Addr) (c1 : Nat) (l1 : List Int) (r : Bool) (w : World) (hr0 : Kd.C (Kd.int .u8) w A0 l0.length l0) (hc0 : l0.length ≤ c0) (hr1 : Kd.C (Kd.int .u8) w A1 l1.length l1) (hc1 : l1.length ≤ c1) (h : laws_eqByteS.f k l0 l1 = some r) :
    Calls Try.prog 13 #[.slice A0 l0.length c0, .slice A1 l1.length c1] w fun e w' => e = .returned (.bool r) ∧ Drawn0 w w' := by
  have HR0 := Aside0.mk hr0
  have HC0 := Aside0.mk hc0
  clear hr0 hc0
  have HR1 := Aside0.mk hr1
  have HC1 := Aside0.mk hc1
  clear hr1 hc1
  have H : (if (l0.length : Int) = (l1.length : Int) then (laws_eqByteS.l0 k l0 l1 0) else (some false)) = some r := h
  clear h
  by_cases c3 : (l0.length : Int) = (l1.length : Int)
  · rw [if_pos c3] at H
    have c3b0 : ((l0.length : Int) == (l1.length : Int)) = true := beq_iff_eq.mpr c3
    have c3b1 : ((l0.length : Int) != (l1.length : Int)) = false := bne_eq_false_iff_eq.mpr c3
    have c3b2 : (l0.length == l1.length) = true := by first | simpa using c3 | (simp at c3 ⊢; omega)
    clear c3
    have H' := Aside0.mk H
    clear H
    go_enter Try.func13, Try.ntmps13
    go_wp2
    repeat (go_quiet (fail); try go_wp2)
    go_loopg [5] k (fun kq v5 w' => ∃ (x5_1 : Int), v5 = .int .i64 x5_1 ∧ Aside0 (laws_eqByteS.l0 kq l0 l1 x5_1 = some r) ∧ Aside0 (kq ≤ k) ∧ Drawn0 w w')
    case atStart => exact ⟨(0), (by first | rfl | (simp; done) | (simp [*]; done)), H', ⟨Nat.le_refl _⟩, by repeat (first | exact Drawn0.refl _ | apply Drawn0.step)⟩
    case round =>
      clear H'
      try clear c1
      try clear p2
      try clear c3
      try clear c3b0
      try clear c3b1
      try clear c3b2
      obtain ⟨x5_1, rfl, HA, HK1, ⟨m1, rfl⟩⟩ := hrel
      cases gk with
      | zero => exact absurd HA.out (by simp [laws_eqByteS.l0])
      | succ k1 =>
        have H := HA.out
        clear HA
        simp only [laws_eqByteS.l0] at H
        by_cases c4 : x5_1 < (l0.length : Int)
        · rw [if_pos c4] at H
          have c4b0 : decide (x5_1 < (l0.length : Int)) = true := decide_eq_true c4
          clear c4
          by_cases c5 : 0 ≤ x5_1
          · rw [if_pos c5] at H
            have c5b0 : decide (0 ≤ x5_1) = true := decide_eq_true c5
            clear c5
            by_cases c6 : x5_1 < (l1.length : Int)
            · rw [if_pos c6] at H
              have c6b0 : decide (x5_1 < (l1.length : Int)) = true := decide_eq_true c6
              clear c6
              by_cases c7 : (rd l0 x5_1) = (rd l1 x5_1)
              · rw [if_pos c7] at H
                have c7b0 : ((rd l0 x5_1) == (rd l1 x5_1)) = true := beq_iff_eq.mpr c7
                have c7b1 : ((rd l0 x5_1) != (rd l1 x5_1)) = false := bne_eq_false_iff_eq.mpr c7
                clear c7
                have H' := Aside0.mk H
                clear H
                have p101 : 0 ≤ (x5_1 : Int) := of_decide_eq_true (by first | (with_reducible assumption) | assumption)
                have q101 : x5_1 < (l0.length : Int) := of_decide_eq_true (by first | (with_reducible assumption) | assumption)
                obtain ⟨ad101, e101, hx101_0⟩ := Kd.at_int HR0.out x5_1 p101 q101
                cases e101
                replace p101 := eq_true p101
                replace q101 := eq_true q101
                have p102 : 0 ≤ (x5_1 : Int) := of_decide_eq_true (by first | (with_reducible assumption) | assumption)
                have q102 : x5_1 < (l1.length : Int) := of_decide_eq_true (by first | (with_reducible assumption) | assumption)
                obtain ⟨ad102, e102, hx102_0⟩ := Kd.at_int HR1.out x5_1 p102 q102
                cases e102
                replace p102 := eq_true p102
                replace q102 := eq_true q102
                go_wp2
                repeat (go_quiet (fail); try go_wp2)
                go_roundg k1
                case measure => have := HK1.out; omega
                case rel => exact ⟨(wrap64 (x5_1 + 1)), (by first | rfl | (simp; done) | (simp [*]; done)), H', ⟨by have := HK1.out; omega⟩, by repeat (first | exact Drawn0.refl _ | apply Drawn0.step)⟩
              · rw [if_neg c7] at H
                have c7b0 : ((rd l0 x5_1) == (rd l1 x5_1)) = false := beq_eq_false_iff_ne.mpr c7
                have c7b1 : ((rd l0 x5_1) != (rd l1 x5_1)) = true := bne_iff_ne.mpr c7
                obtain rfl := Option.some.inj H
                have p101 : 0 ≤ (x5_1 : Int) := of_decide_eq_true (by first | (with_reducible assumption) | assumption)
                have q101 : x5_1 < (l0.length : Int) := of_decide_eq_true (by first | (with_reducible assumption) | assumption)
                obtain ⟨ad101, e101, hx101_0⟩ := Kd.at_int HR0.out x5_1 p101 q101
                cases e101
                replace p101 := eq_true p101
                replace q101 := eq_true q101
                have p102 : 0 ≤ (x5_1 : Int) := of_decide_eq_true (by first | (with_reducible assumption) | assumption)
                have q102 : x5_1 < (l1.length : Int) := of_decide_eq_true (by first | (with_reducible assumption) | assumption)
                obtain ⟨ad102, e102, hx102_0⟩ := Kd.at_int HR1.out x5_1 p102 q102
                cases e102
                replace p102 := eq_true p102
                replace q102 := eq_true q102
                go_wp2
                repeat (go_quiet (fail); try go_wp2)
                go_ret
                exact ⟨by first | rfl | (simp; done) | (simp [*]; done), by repeat (first | exact Drawn0.refl _ | apply Drawn0.step)⟩
            · rw [if_neg c6] at H
              exact absurd H (by simp)
          · rw [if_neg c5] at H
            exact absurd H (by simp)
        · rw [if_neg c4] at H
          have c4b0 : decide (x5_1 < (l0.length : Int)) = false := decide_eq_false c4
          clear c4
          obtain rfl := Option.some.inj H
          go_wp2
          repeat (go_quiet (fail); try go_wp2)
          go_ret
          exact ⟨by first | rfl | (simp; done) | (simp [*]; done), by repeat (first | exact Drawn0.refl _ | apply Drawn0.step)⟩
  · rw [if_neg c3] at H
    have c3b0 : ((l0.length : Int) == (l1.length : Int)) = false := beq_eq_false_iff_ne.mpr c3
    have c3b1 : ((l0.length : Int) != (l1.length : Int)) = true := bne_iff_ne.mpr c3
    have c3b2 : (l0.length == l1.length) = false := by first | simpa using c3 | (simp at c3 ⊢; omega)
    obtain rfl := Option.some.inj H
    go_enter Try.func13, Try.ntmps13
    go_wp2
    repeat (go_quiet (fail); try go_wp2)
    go_ret
    exact ⟨by first | rfl | (simp; done) | (simp [*]; done), by repeat (first | exact Drawn0.refl _ | apply Drawn0.step)⟩

/-! ### laws_markByteS: function 14 -/
def laws_markByteS.l0 : Nat → List Int → Int → Int → Option (Int × List Int)
  | 0, _, _, _ => none
  | k + 1, x0, x1, x5 => if x5 < (x0.length : Int) then (if 0 ≤ x5 then (laws_markByteS.l0 k (x0.set (x5 : Int).toNat ((x1) % 256)) (wrap64 (x1 + 1)) (wrap64 (x5 + 1))) else (none)) else (some (x1, x0))
def laws_markByteS.f (k : Nat) (l0 : List Int) (a1 : Int) : Option (Int × List Int) := laws_markByteS.l0 k l0 a1 0
theorem laws_markByteS.mono_l : ∀ k, (∀ y0 y1 y2, LeO (laws_markByteS.l0 k y0 y1 y2) (laws_markByteS.l0 (k + 1) y0 y1 y2))
  | 0 => fun _ _ _ r h => by simp [laws_markByteS.l0] at h
  | k + 1 => by
    have ih0 := laws_markByteS.mono_l k
    · intro y0 y1 y2
      unfold laws_markByteS.l0
      repeat' with_reducible first | exact ih0 _ _ _ | exact LeO.refl _ | exact LeO.none _ | refine LeO.ite ?_ ?_ | refine LeO.bind ?_ (fun _ => ?_)
theorem laws_markByteS.mono : ∀ a0 a1 k, LeO (laws_markByteS.f k a0 a1) (laws_markByteS.f (k + 1) a0 a1) := by
  intro a0 a1 k
  have ih0 := laws_markByteS.mono_l k
  unfold laws_markByteS.f
  repeat' with_reducible first | exact ih0 _ _ _ | exact LeO.refl _ | exact LeO.none _ | refine LeO.ite ?_ ?_ | refine LeO.bind ?_ (fun _ => ?_)
set_option maxHeartbeats 8000000 in
set_option maxRecDepth 100000 in
theorem laws_markByteS.calls (k : Nat) (P0_ : Nat → Prop) (u9000_ : Value) (l0 : List Int) (a1 : Int) (r1 : Int) (r2 : List Int) (w0 w : World) (hB : Below w0.heap.size w0 w) (ho0 : Kd.R (Kd.int .u8) 5 w w0.heap.size P0_ u9000_ l0) (h : laws_markByteS.f k l0 a1 = some (r1, r2)) :
    Calls Try.prog 14 #[u9000_, .int .i64 a1] w fun e w' => e = .returned (.int .i64 r1) ∧ Kd.R (Kd.int .u8) 5 w' w0.heap.size (fun k_ => (P0_ k_ ∨ w.heap.size ≤ k_)) u9000_ r2 ∧ Below w0.heap.size w0 w' ∧ Kept w w' (fun k_ => P0_ k_) := by
  have HO0 := Aside0.mk (show Kd.R (Kd.int .u8) 5 w w0.heap.size (fun k_ => (P0_ k_ ∨ w.heap.size ≤ k_)) u9000_ l0 from Kd.R_mono ho0 (fun k_ hk => (.inl hk)))
  have HK := Aside0.mk (Kept.refl w (fun k_ => P0_ k_))
  have HW0 := Aside0.mk hB.size
  have HB := Aside0.mk hB
  clear hB
  have H : (laws_markByteS.l0 k l0 a1 0) = some (r1, r2) := h
  clear h
  have H' := Aside0.mk H
  clear H
  go_enter Try.func14, Try.ntmps14
  go_wp2
  go_loopg [1, 5] k (fun kq v1 v5 w' => ∃ (x0_1 : List Int) (x1_1 : Int) (x5_1 : Int), v1 = .int .i64 x1_1 ∧ v5 = .int .i64 x5_1 ∧ Aside0 (laws_markByteS.l0 kq x0_1 x1_1 x5_1 = some (r1, r2)) ∧ Aside0 (kq ≤ k) ∧ Aside0 (Kd.R (Kd.int .u8) 5 w' w0.heap.size (fun k_ => (P0_ k_ ∨ w.heap.size ≤ k_)) u9000_ x0_1) ∧ Aside0 (Kept w w' (fun k_ => P0_ k_)) ∧ Aside0 (Below w0.heap.size w0 w'))
  case atStart => exact ⟨(l0), (a1), (0), (by first | rfl | (simp; done) | (simp [*]; done)), (by first | rfl | (simp; done) | (simp [*]; done)), H', ⟨Nat.le_refl _⟩, ⟨by exact Kd.rup HO0.out⟩, ⟨by repeat (first | (with_reducible first | exact HK.out | apply Kept.alloc | apply Kept.drewN | apply Kept.drew) | exact HK.out)⟩, ⟨by with_reducible repeat (first | exact HB.out | apply h1 | apply h2 | apply h3)⟩⟩
  case round =>
    clear H'
    try clear c1
    try clear p2
    obtain ⟨x0_1, x1_1, x5_1, rfl, rfl, HA, HK1, HO_0, HK, HB⟩ := hrel
    cases gk with
    | zero => exact absurd HA.out (by simp [laws_markByteS.l0])
    | succ k1 =>
      have H := HA.out
      clear HA
      simp only [laws_markByteS.l0] at H
      by_cases c3 : x5_1 < (x0_1.length : Int)
      · rw [if_pos c3] at H
        have c3b0 : decide (x5_1 < (x0_1.length : Int)) = true := decide_eq_true c3
        clear c3
        by_cases c4 : 0 ≤ x5_1
        · rw [if_pos c4] at H
          have c4b0 : decide (0 ≤ x5_1) = true := decide_eq_true c4
          clear c4
          obtain ⟨y103, hy103⟩ : ∃ y_ : List Int, y_ = (x0_1.set (x5_1 : Int).toNat ((x1_1) % 256)) := ⟨_, rfl⟩
          replace H : (laws_markByteS.l0 k1 y103 (wrap64 (x1_1 + 1)) (wrap64 (x5_1 + 1))) = some (r1, r2) := by first | (rw [hy103]; with_reducible exact H) | (have H2_ := (Option.bind_some _ _).symm.trans H; rw [hy103]; with_reducible exact H2_) | (have H2_ := (Option.bind_some _ _).symm.trans H; with_reducible exact H2_) | with_reducible exact H | (rw [hy103]; exact H) | exact H
          have Ny103 := Aside0.mk hy103
          clear hy103
          have H' := Aside0.mk H
          clear H
          obtain ⟨Ao6, co6, eo6⟩ := Kd.R_slice HO_0.out
          subst eo6
          have p5 : 0 ≤ (x5_1 : Int) := of_decide_eq_true (by first | (with_reducible assumption) | assumption)
          have q5 : (x5_1 : Int) < ((x0_1.length : Int) : Int) := of_decide_eq_true (by first | (with_reducible assumption) | assumption)
          obtain ⟨go5, co5, eo5, gb5, gl5, cl5, HG5⟩ := Kd.R_form HO_0.out (by omega)
          (first | cases eo5 | (injection eo5 with ea_ en_ ec_; (first | subst ea_ | (injection ea_ with ea_; subst ea_)); subst ec_; clear en_))
          have GB5 := Aside0.mk gb5
          have GG5 := Aside0.mk HG5
          clear gb5 gl5 HG5
          have HMgo5 := Aside0.mk (show (P0_ go5 ∨ w.heap.size ≤ go5) from (HO_0.out.1 _ rfl))
          obtain ⟨hx5_0, hf5_0⟩ := Kd.R_celln 0 HO_0.out (x5_1 : Int) p5 q5
          replace p5 := eq_true p5
          replace q5 := eq_true q5
          have HP7 := Kd.R_putg HO_0.out (x5_1 : Int) ((x1_1) % 256)
          go_wp2_with (first | ((with_reducible refine gate_store (t := 5) (p := 16) rfl ?_); refine store_event (t := 5) (p := 16) (v := ?vo_w8) (w1 := (wr.setCell ⟨go5, (x5_1 : Int).toNat, none⟩ (.int .u8 ((x1_1) % 256)))) ?hg ?ho ?hn ?hr ?_; (case ho => rfl); (case hg => rfl); (case hn => rfl); (case hr => first | (go_simp; done) | (go_simp; rfl)); intro w8 hw; have hg : wr.grownBy w8 (some go5) := (by rw [hw]; exact HP7.2); have hp_ : Kd.R (Kd.int .u8) 5 w8 w0.heap.size (fun k_ => (P0_ k_ ∨ w.heap.size ≤ k_)) (.slice (some ⟨go5, 0, none⟩) x0_1.length co6) y103 := (by rw [hw, Ny103.out]; exact HP7.1); clear HP7; have n0_ := Aside0.mk (hp_); have n1_ := Aside0.mk ((by rw [hw]; exact below_set (HB.out) GB5.out : Below w0.heap.size w0 w8)); have n2_ := Aside0.mk (Kept.of_grown (S := (fun k_ => P0_ k_)) hg (by repeat (first | (with_reducible first | exact HK.out | apply Kept.alloc | apply Kept.drewN | apply Kept.drew) | exact HK.out)) (fun k_ e_ => (HO_0.out.1 k_ e_))); clear HO_0; clear HB; clear HK; have HO_0 := n0_; have HB := n1_; have HK := n2_; clear n0_ n1_ n2_; clear hg hw hp_))
          go_roundg k1
          case measure => have := HK1.out; omega
          case rel => exact ⟨(y103), (wrap64 (x1_1 + 1)), (wrap64 (x5_1 + 1)), (by first | rfl | (simp; done) | (simp [*]; done)), (by first | rfl | (simp; done) | (simp [*]; done)), H', ⟨by have := HK1.out; omega⟩, ⟨by exact Kd.rup HO_0.out⟩, ⟨by repeat (first | (with_reducible first | exact HK.out | apply Kept.alloc | apply Kept.drewN | apply Kept.drew) | exact HK.out)⟩, ⟨by with_reducible repeat (first | exact HB.out | apply h1 | apply h2 | apply h3)⟩⟩
        · rw [if_neg c4] at H
          exact absurd H (by simp)
      · rw [if_neg c3] at H
        have c3b0 : decide (x5_1 < (x0_1.length : Int)) = false := decide_eq_false c3
        clear c3
        simp only [Option.some.injEq, Prod.mk.injEq] at H
        obtain ⟨rfl, rfl⟩ := H
        obtain ⟨Ao9, co9, eo9⟩ := Kd.R_slice HO_0.out
        subst eo9
        go_wp2
        go_ret
        exact ⟨by first | rfl | (simp [errW_none, errW_some] <;> rfl) | (simp [*, errW_none, errW_some] <;> rfl), by exact Kd.rup HO_0.out, by with_reducible repeat (first | exact HB.out | apply h1 | apply h2 | apply h3), by repeat (first | (with_reducible first | exact HK.out | apply Kept.alloc | apply Kept.drewN | apply Kept.drew) | exact HK.out)⟩

/-! ### laws_szByteS: function 95 -/
def laws_szByteS.f (l0 : List Int) (a1 : Int) : Option (Int) := if (wrap64 (a1 - (l0.length : Int))) < 0 then (some (-1)) else (some (wrap64 (a1 - (l0.length : Int))))
set_option maxHeartbeats 8000000 in
set_option maxRecDepth 100000 in
theorem laws_szByteS.calls (A0 : Option Addr) (c0 : Nat) (l0 : List Int) (a1 : Int) (r : Int) (w : World) (hr0 : Kd.C (Kd.int .u8) w A0 l0.length l0) (hc0 : l0.length ≤ c0) (h : laws_szByteS.f l0 a1 = some r) :
    Calls Try.prog 95 #[.slice A0 l0.length c0, .int .i64 a1] w fun e w' => e = .returned (.int .i64 r) ∧ Drawn0 w w' := by
  have HR0 := Aside0.mk hr0
  have HC0 := Aside0.mk hc0
  clear hr0 hc0
  have H : (if (wrap64 (a1 - (l0.length : Int))) < 0 then (some (-1)) else (some (wrap64 (a1 - (l0.length : Int))))) = some r := h
  clear h
  by_cases c3 : (wrap64 (a1 - (l0.length : Int))) < 0
  · rw [if_pos c3] at H
    have c3b0 : decide ((wrap64 (a1 - (l0.length : Int))) < 0) = true := decide_eq_true c3
    clear c3
    obtain rfl := Option.some.inj H
    go_enter Try.func95, Try.ntmps95
    go_wp2
    go_ret
    exact ⟨by first | rfl | (simp; done) | (simp [*]; done), by repeat (first | exact Drawn0.refl _ | apply Drawn0.step)⟩
  · rw [if_neg c3] at H
    have c3b0 : decide ((wrap64 (a1 - (l0.length : Int))) < 0) = false := decide_eq_false c3
    clear c3
    obtain rfl := Option.some.inj H
    go_enter Try.func95, Try.ntmps95
    go_wp2
    go_ret
    exact ⟨by first | rfl | (simp; done) | (simp [*]; done), by repeat (first | exact Drawn0.refl _ | apply Drawn0.step)⟩

/-! ### laws_szItem: function 70 -/
def laws_szItem.f (a0_0 : Int) (a0_1 : Int) (a0_2 : Nat) (l0_3 : List Int) (a1 : Int) : Option (Int) := (laws_szByteS.f l0_3 a1).bind fun t105 => (if t105 < 0 then (some (-1)) else (some t105))
set_option maxHeartbeats 8000000 in
set_option maxRecDepth 100000 in
theorem laws_szItem.calls (a0_0 : Int) (a0_1 : Int) (a0_2 : Nat) (A0_3 : Option Addr) (c0_3 : Nat) (l0_3 : List Int) (a1 : Int) (r : Int) (w : World) (hr0_3 : Kd.C (Kd.int .u8) w A0_3 l0_3.length l0_3) (hc0_3 : l0_3.length ≤ c0_3) (h : laws_szItem.f a0_0 a0_1 a0_2 l0_3 a1 = some r) :
    Calls Try.prog 70 #[.agg #[.int .i64 a0_0, .int .i64 a0_1, .float .f64 a0_2, .slice A0_3 l0_3.length c0_3], .int .i64 a1] w fun e w' => e = .returned (.int .i64 r) ∧ Below w.heap.size w w' := by
  have hu43 := Try.underlying43
  have HR0_3 := Aside0.mk hr0_3
  have HC0_3 := Aside0.mk hc0_3
  clear hr0_3 hc0_3
  have HB := Aside0.mk (Below.refl w.heap.size w)
  have H : ((laws_szByteS.f l0_3 a1).bind fun t105 => (if t105 < 0 then (some (-1)) else (some t105))) = some r := h
  clear h
  replace H := Option.bind_eq_some_iff.mp H
  obtain ⟨t105, A30, H⟩ := H
  replace H : (if t105 < 0 then (some (-1)) else (some t105)) = some r := H
  have A3 := Aside0.mk A30
  clear A30
  by_cases c4 : t105 < 0
  · rw [if_pos c4] at H
    have c4b0 : decide (t105 < 0) = true := decide_eq_true c4
    clear c4
    obtain rfl := Option.some.inj H
    go_enter Try.func70, Try.ntmps70
    go_wp2_with (first | ((with_reducible refine gate_dst (N := 2) rfl ?_); refine box_event ?hg (N := 2) ?hd (cs := #[.int .i64 a0_0, .int .i64 a0_1, .float .f64 a0_2, .slice A0_3 l0_3.length c0_3]) (t := 43) ?hr ?_; (case hd => rfl); (case hg => rfl); (case hr => first | (go_simp; done) | (go_simp; rfl)); intro gb104 hg w5 hbox hb; have n0_ := Aside0.mk (below_step (hup HB.out) hb); have n1_ := Aside0.mk (hbox); have n2_ := Aside0.mk ((by rw [hg]; exact (below_size (hup HB.out)) : w.heap.size ≤ gb104)); have n3_ := Aside0.mk ((by rw [hg]; exact (below_size (hup HB.out)) : w.heap.size ≤ gb104)); clear HB; have HB := n0_; have BK104 := n1_; have GW104 := n2_; have GE104 := n3_; clear n0_ n1_ n2_ n3_; clear hb hbox hg; obtain ⟨hcz6_0, hcz6_1, hcz6_2, hcz6_3⟩ := blk_cells4 BK104.out; obtain ⟨hfz6_0, hfz6_1, hfz6_2, hfz6_3⟩ := blk_frozens4 BK104.out) | ((with_reducible refine gate_callee (f := 95) rfl ?_); refine goesL_ (some 8) rfl rfl Try.func95 (by kernel_rfl) rfl #[.slice A0_3 l0_3.length c0_3, .int .i64 a1] rfl (by (try simp only [List.map_toArray, List.map_cons, List.map_nil]); first | done | rfl) ?_; (with_reducible refine (laws_szByteS.calls _ _ l0_3 a1 t105 _ ?side1 ?side2 A3.out).mono ?_); (case side1 => repeat (first | exact (Kd.C_below HR0_3.out HB.out) | (with_reducible refine Kd.C_alloc ?_ _) | (with_reducible refine Kd.C_drewN ?_ _) | (with_reducible refine Kd.C_drew ?_))); (case side2 => exact HC0_3.out); rintro e w' ⟨rfl, ⟨nd, rfl⟩⟩; refine ⟨_, rfl, ?_⟩))
    go_ret
    exact ⟨by first | rfl | (simp [errW_none, errW_some] <;> rfl) | (simp [*, errW_none, errW_some] <;> rfl), by with_reducible repeat (first | exact HB.out | refine h4 ?_ GE104.out | apply h1 | apply h2 | apply h3)⟩
  · rw [if_neg c4] at H
    have c4b0 : decide (t105 < 0) = false := decide_eq_false c4
    clear c4
    obtain rfl := Option.some.inj H
    go_enter Try.func70, Try.ntmps70
    go_wp2_with (first | ((with_reducible refine gate_dst (N := 2) rfl ?_); refine box_event ?hg (N := 2) ?hd (cs := #[.int .i64 a0_0, .int .i64 a0_1, .float .f64 a0_2, .slice A0_3 l0_3.length c0_3]) (t := 43) ?hr ?_; (case hd => rfl); (case hg => rfl); (case hr => first | (go_simp; done) | (go_simp; rfl)); intro gb104 hg w7 hbox hb; have n0_ := Aside0.mk (below_step (hup HB.out) hb); have n1_ := Aside0.mk (hbox); have n2_ := Aside0.mk ((by rw [hg]; exact (below_size (hup HB.out)) : w.heap.size ≤ gb104)); have n3_ := Aside0.mk ((by rw [hg]; exact (below_size (hup HB.out)) : w.heap.size ≤ gb104)); clear HB; have HB := n0_; have BK104 := n1_; have GW104 := n2_; have GE104 := n3_; clear n0_ n1_ n2_ n3_; clear hb hbox hg; obtain ⟨hcz8_0, hcz8_1, hcz8_2, hcz8_3⟩ := blk_cells4 BK104.out; obtain ⟨hfz8_0, hfz8_1, hfz8_2, hfz8_3⟩ := blk_frozens4 BK104.out) | ((with_reducible refine gate_callee (f := 95) rfl ?_); refine goesL_ (some 8) rfl rfl Try.func95 (by kernel_rfl) rfl #[.slice A0_3 l0_3.length c0_3, .int .i64 a1] rfl (by (try simp only [List.map_toArray, List.map_cons, List.map_nil]); first | done | rfl) ?_; (with_reducible refine (laws_szByteS.calls _ _ l0_3 a1 t105 _ ?side1 ?side2 A3.out).mono ?_); (case side1 => repeat (first | exact (Kd.C_below HR0_3.out HB.out) | (with_reducible refine Kd.C_alloc ?_ _) | (with_reducible refine Kd.C_drewN ?_ _) | (with_reducible refine Kd.C_drew ?_))); (case side2 => exact HC0_3.out); rintro e w' ⟨rfl, ⟨nd, rfl⟩⟩; refine ⟨_, rfl, ?_⟩))
    go_ret
    exact ⟨by first | rfl | (simp [errW_none, errW_some] <;> rfl) | (simp [*, errW_none, errW_some] <;> rfl), by with_reducible repeat (first | exact HB.out | refine h4 ?_ GE104.out | apply h1 | apply h2 | apply h3)⟩

/-! ### laws_szTuple: function 31 -/
def laws_szTuple.f (a0_0 : Int) (a0_1 : Int) (a0_2 : Int) (a0_3 : Int) (a0_4 : Nat) (l0_5 : List Int) (a0_6 : Int) (a0_7 : Int) (a0_8 : Nat) (l0_9 : List Int) (a1 : Int) : Option (Int) := (laws_szItem.f a0_2 a0_3 a0_4 l0_5 a1).bind fun t107 => (if t107 < 0 then (some (-1)) else ((laws_szItem.f a0_6 a0_7 a0_8 l0_9 t107).bind fun t108 => (if t108 < 0 then (some (-1)) else (some t108))))
set_option maxHeartbeats 8000000 in
set_option maxRecDepth 100000 in
theorem laws_szTuple.calls (a0_0 : Int) (a0_1 : Int) (a0_2 : Int) (a0_3 : Int) (a0_4 : Nat) (A0_5 : Option Addr) (c0_5 : Nat) (l0_5 : List Int) (a0_6 : Int) (a0_7 : Int) (a0_8 : Nat) (A0_9 : Option Addr) (c0_9 : Nat) (l0_9 : List Int) (a1 : Int) (r : Int) (w : World) (hr0_5 : Kd.C (Kd.int .u8) w A0_5 l0_5.length l0_5) (hc0_5 : l0_5.length ≤ c0_5) (hr0_9 : Kd.C (Kd.int .u8) w A0_9 l0_9.length l0_9) (hc0_9 : l0_9.length ≤ c0_9) (h : laws_szTuple.f a0_0 a0_1 a0_2 a0_3 a0_4 l0_5 a0_6 a0_7 a0_8 l0_9 a1 = some r) :
  Calls Try.prog 31 #[.agg #[.int .i64 a0_0, .int .i64 a0_1, .int .i64 a0_2, .int .i64 a0_3, .float .f64 a0_4, .slice A0_5 l0_5.length c0_5, .int .i64 a0_6, .int .i64 a0_7, .float .f64 a0_8, .slice A0_9 l0_9.length c0_9], .int .i64 a1] w fun e w' => e = .returned (.int .i64 r) ∧ Below w.heap.size w w' := by
 have hu45 := Try.underlying45
 have hu43 := Try.underlying43
 have HR0_5 := Aside0.mk hr0_5
 have HC0_5 := Aside0.mk hc0_5
 clear hr0_5 hc0_5
 have HR0_9 := Aside0.mk hr0_9
 have HC0_9 := Aside0.mk hc0_9
 clear hr0_9 hc0_9
 have HB := Aside0.mk (Below.refl w.heap.size w)
 have H : ((laws_szItem.f a0_2 a0_3 a0_4 l0_5 a1).bind fun t107 => (if t107 < 0 then (some (-1)) else ((laws_szItem.f a0_6 a0_7 a0_8 l0_9 t107).bind fun t108 => (if t108 < 0 then (some (-1)) else (some t108))))) = some r := h
 clear h
 replace H := Option.bind_eq_some_iff.mp H
 obtain ⟨t107, A30, H⟩ := H
 replace H : (if t107 < 0 then (some (-1)) else ((laws_szItem.f a0_6 a0_7 a0_8 l0_9 t107).bind fun t108 => (if t108 < 0 then (some (-1)) else (some t108)))) = some r := H
 have A3 := Aside0.mk A30
 clear A30
 by_cases c4 : t107 < 0
 ·rw [if_pos c4] at H
  have c4b0 : decide (t107 < 0) = true := decide_eq_true c4
  clear c4
  obtain rfl := Option.some.inj H
  go_enter Try.func31, Try.ntmps31
  go_wp2_with (first | ((with_reducible refine gate_dst (N := 2) rfl ?_); refine box_event ?hg (N := 2) ?hd (cs := #[.int .i64 a0_0, .int .i64 a0_1, .int .i64 a0_2, .int .i64 a0_3, .float .f64 a0_4, .slice A0_5 l0_5.length c0_5, .int .i64 a0_6, .int .i64 a0_7, .float .f64 a0_8, .slice A0_9 l0_9.length c0_9]) (t := 45) ?hr ?_; (case hd => rfl); (case hg => rfl); (case hr => first | (go_simp; done) | (go_simp; rfl)); intro gb106 hg w5 hbox hb; have n0_ := Aside0.mk (below_step (hup HB.out) hb); have n1_ := Aside0.mk (hbox); have n2_ := Aside0.mk ((by rw [hg]; exact (below_size (hup HB.out)) : w.heap.size ≤ gb106)); have n3_ := Aside0.mk ((by rw [hg]; exact (below_size (hup HB.out)) : w.heap.size ≤ gb106)); clear HB; have HB := n0_; have BK106 := n1_; have GW106 := n2_; have GE106 := n3_; clear n0_ n1_ n2_ n3_; clear hb hbox hg; obtain ⟨hcz6_0, hcz6_1, hcz6_2, hcz6_3, hcz6_4, hcz6_5, hcz6_6, hcz6_7, hcz6_8, hcz6_9⟩ := blk_cells10 BK106.out; obtain ⟨hfz6_0, hfz6_1, hfz6_2, hfz6_3, hfz6_4, hfz6_5, hfz6_6, hfz6_7, hfz6_8, hfz6_9⟩ := blk_frozens10 BK106.out) | ((with_reducible refine gate_callee (f := 70) rfl ?_); refine goesL_ (some 8) rfl rfl Try.func70 (by kernel_rfl) rfl #[.agg #[.int .i64 a0_2, .int .i64 a0_3, .float .f64 a0_4, .slice A0_5 l0_5.length c0_5], .int .i64 a1] rfl (by (try simp only [List.map_toArray, List.map_cons, List.map_nil]); first | done | rfl) ?_; (with_reducible refine (laws_szItem.calls a0_2 a0_3 a0_4 _ _ l0_5 a1 t107 _ ?side1 ?side2 A3.out).mono ?_); (case side1 => repeat (first | exact (Kd.C_below HR0_5.out HB.out) | (with_reducible refine Kd.C_alloc ?_ _) | (with_reducible refine Kd.C_drewN ?_ _) | (with_reducible refine Kd.C_drew ?_))); (case side2 => exact HC0_5.out); rintro e w7 ⟨rfl, hb⟩; refine ⟨_, rfl, ?_⟩; have n0_ := Aside0.mk (blk_below (g := gb106) (o := .cells #[.int .i64 a0_0, .int .i64 a0_1, .int .i64 a0_2, .int .i64 a0_3, .float .f64 a0_4, .slice A0_5 l0_5.length c0_5, .int .i64 a0_6, .int .i64 a0_7, .float .f64 a0_8, .slice A0_9 l0_9.length c0_9] 45 (0, 0)) (bup BK106.out) hb); have n1_ := Aside0.mk (below_step (by with_reducible repeat (first | exact HB.out | refine h4 ?_ GE106.out | apply h1 | apply h2 | apply h3)) hb); clear BK106; clear HB; have BK106 := n0_; have HB := n1_; clear n0_ n1_; (try clear hb); (try clear hb2); (try clear hk); (try clear hi)))
  go_ret
  exact ⟨by first | rfl | (simp [errW_none, errW_some] <;> rfl) | (simp [*, errW_none, errW_some] <;> rfl), by with_reducible repeat (first | exact HB.out | refine h4 ?_ GE106.out | apply h1 | apply h2 | apply h3)⟩
 ·rw [if_neg c4] at H
  have c4b0 : decide (t107 < 0) = false := decide_eq_false c4
  clear c4
  replace H := Option.bind_eq_some_iff.mp H
  obtain ⟨t108, A80, H⟩ := H
  replace H : (if t108 < 0 then (some (-1)) else (some t108)) = some r := H
  have A8 := Aside0.mk A80
  clear A80
  by_cases c9 : t108 < 0
  ·rw [if_pos c9] at H
   have c9b0 : decide (t108 < 0) = true := decide_eq_true c9
   clear c9
   obtain rfl := Option.some.inj H
   go_enter Try.func31, Try.ntmps31
   go_wp2_with (first | ((with_reducible refine gate_dst (N := 2) rfl ?_); refine box_event ?hg (N := 2) ?hd (cs := #[.int .i64 a0_0, .int .i64 a0_1, .int .i64 a0_2, .int .i64 a0_3, .float .f64 a0_4, .slice A0_5 l0_5.length c0_5, .int .i64 a0_6, .int .i64 a0_7, .float .f64 a0_8, .slice A0_9 l0_9.length c0_9]) (t := 45) ?hr ?_; (case hd => rfl); (case hg => rfl); (case hr => first | (go_simp; done) | (go_simp; rfl)); intro gb106 hg w10 hbox hb; have n0_ := Aside0.mk (below_step (hup HB.out) hb); have n1_ := Aside0.mk (hbox); have n2_ := Aside0.mk ((by rw [hg]; exact (below_size (hup HB.out)) : w.heap.size ≤ gb106)); have n3_ := Aside0.mk ((by rw [hg]; exact (below_size (hup HB.out)) : w.heap.size ≤ gb106)); clear HB; have HB := n0_; have BK106 := n1_; have GW106 := n2_; have GE106 := n3_; clear n0_ n1_ n2_ n3_; clear hb hbox hg; obtain ⟨hcz11_0, hcz11_1, hcz11_2, hcz11_3, hcz11_4, hcz11_5, hcz11_6, hcz11_7, hcz11_8, hcz11_9⟩ := blk_cells10 BK106.out; obtain ⟨hfz11_0, hfz11_1, hfz11_2, hfz11_3, hfz11_4, hfz11_5, hfz11_6, hfz11_7, hfz11_8, hfz11_9⟩ := blk_frozens10 BK106.out) | ((with_reducible refine gate_callee (f := 70) rfl ?_); refine goesL_ (some 8) rfl rfl Try.func70 (by kernel_rfl) rfl #[.agg #[.int .i64 a0_2, .int .i64 a0_3, .float .f64 a0_4, .slice A0_5 l0_5.length c0_5], .int .i64 a1] rfl (by (try simp only [List.map_toArray, List.map_cons, List.map_nil]); first | done | rfl) ?_; (with_reducible refine (laws_szItem.calls a0_2 a0_3 a0_4 _ _ l0_5 a1 t107 _ ?side1 ?side2 A3.out).mono ?_); (case side1 => repeat (first | exact (Kd.C_below HR0_5.out HB.out) | (with_reducible refine Kd.C_alloc ?_ _) | (with_reducible refine Kd.C_drewN ?_ _) | (with_reducible refine Kd.C_drew ?_))); (case side2 => exact HC0_5.out); rintro e w12 ⟨rfl, hb⟩; refine ⟨_, rfl, ?_⟩; have n0_ := Aside0.mk (blk_below (g := gb106) (o := .cells #[.int .i64 a0_0, .int .i64 a0_1, .int .i64 a0_2, .int .i64 a0_3, .float .f64 a0_4, .slice A0_5 l0_5.length c0_5, .int .i64 a0_6, .int .i64 a0_7, .float .f64 a0_8, .slice A0_9 l0_9.length c0_9] 45 (0, 0)) (bup BK106.out) hb); have n1_ := Aside0.mk (below_step (by with_reducible repeat (first | exact HB.out | refine h4 ?_ GE106.out | apply h1 | apply h2 | apply h3)) hb); clear BK106; clear HB; have BK106 := n0_; have HB := n1_; clear n0_ n1_; (try clear hb); (try clear hb2); (try clear hk); (try clear hi); obtain ⟨hcz13_0, hcz13_1, hcz13_2, hcz13_3, hcz13_4, hcz13_5, hcz13_6, hcz13_7, hcz13_8, hcz13_9⟩ := blk_cells10 BK106.out; obtain ⟨hfz13_0, hfz13_1, hfz13_2, hfz13_3, hfz13_4, hfz13_5, hfz13_6, hfz13_7, hfz13_8, hfz13_9⟩ := blk_frozens10 BK106.out) | ((with_reducible refine gate_callee (f := 70) rfl ?_); refine goesL_ (some 14) rfl rfl Try.func70 (by kernel_rfl) rfl #[.agg #[.int .i64 a0_6, .int .i64 a0_7, .float .f64 a0_8, .slice A0_9 l0_9.length c0_9], .int .i64 t107] rfl (by (try simp only [List.map_toArray, List.map_cons, List.map_nil]); first | done | rfl) ?_; (with_reducible refine (laws_szItem.calls a0_6 a0_7 a0_8 _ _ l0_9 t107 t108 _ ?side1 ?side2 A8.out).mono ?_); (case side1 => repeat (first | exact (Kd.C_below HR0_9.out HB.out) | (with_reducible refine Kd.C_alloc ?_ _) | (with_reducible refine Kd.C_drewN ?_ _) | (with_reducible refine Kd.C_drew ?_))); (case side2 => exact HC0_9.out); rintro e w14 ⟨rfl, hb⟩; refine ⟨_, rfl, ?_⟩; have n0_ := Aside0.mk (blk_below (g := gb106) (o := .cells #[.int .i64 a0_0, .int .i64 a0_1, .int .i64 a0_2, .int .i64 a0_3, .float .f64 a0_4, .slice A0_5 l0_5.length c0_5, .int .i64 a0_6, .int .i64 a0_7, .float .f64 a0_8, .slice A0_9 l0_9.length c0_9] 45 (0, 0)) (bup BK106.out) hb); have n1_ := Aside0.mk (below_step (by with_reducible repeat (first | exact HB.out | refine h4 ?_ GE106.out | apply h1 | apply h2 | apply h3)) hb); clear BK106; clear HB; have BK106 := n0_; have HB := n1_; clear n0_ n1_; (try clear hb); (try clear hb2); (try clear hk); (try clear hi)))
   go_ret
   exact ⟨by first | rfl | (simp [errW_none, errW_some] <;> rfl) | (simp [*, errW_none, errW_some] <;> rfl), by with_reducible repeat (first | exact HB.out | refine h4 ?_ GE106.out | apply h1 | apply h2 | apply h3)⟩
  ·rw [if_neg c9] at H
   have c9b0 : decide (t108 < 0) = false := decide_eq_false c9
   clear c9
   obtain rfl := Option.some.inj H
   go_enter Try.func31, Try.ntmps31
   go_wp2_with (first | ((with_reducible refine gate_dst (N := 2) rfl ?_); refine box_event ?hg (N := 2) ?hd (cs := #[.int .i64 a0_0, .int .i64 a0_1, .int .i64 a0_2, .int .i64 a0_3, .float .f64 a0_4, .slice A0_5 l0_5.length c0_5, .int .i64 a0_6, .int .i64 a0_7, .float .f64 a0_8, .slice A0_9 l0_9.length c0_9]) (t := 45) ?hr ?_; (case hd => rfl); (case hg => rfl); (case hr => first | (go_simp; done) | (go_simp; rfl)); intro gb106 hg w15 hbox hb; have n0_ := Aside0.mk (below_step (hup HB.out) hb); have n1_ := Aside0.mk (hbox); have n2_ := Aside0.mk ((by rw [hg]; exact (below_size (hup HB.out)) : w.heap.size ≤ gb106)); have n3_ := Aside0.mk ((by rw [hg]; exact (below_size (hup HB.out)) : w.heap.size ≤ gb106)); clear HB; have HB := n0_; have BK106 := n1_; have GW106 := n2_; have GE106 := n3_; clear n0_ n1_ n2_ n3_; clear hb hbox hg; obtain ⟨hcz16_0, hcz16_1, hcz16_2, hcz16_3, hcz16_4, hcz16_5, hcz16_6, hcz16_7, hcz16_8, hcz16_9⟩ := blk_cells10 BK106.out; obtain ⟨hfz16_0, hfz16_1, hfz16_2, hfz16_3, hfz16_4, hfz16_5, hfz16_6, hfz16_7, hfz16_8, hfz16_9⟩ := blk_frozens10 BK106.out) | ((with_reducible refine gate_callee (f := 70) rfl ?_); refine goesL_ (some 8) rfl rfl Try.func70 (by kernel_rfl) rfl #[.agg #[.int .i64 a0_2, .int .i64 a0_3, .float .f64 a0_4, .slice A0_5 l0_5.length c0_5], .int .i64 a1] rfl (by (try simp only [List.map_toArray, List.map_cons, List.map_nil]); first | done | rfl) ?_; (with_reducible refine (laws_szItem.calls a0_2 a0_3 a0_4 _ _ l0_5 a1 t107 _ ?side1 ?side2 A3.out).mono ?_); (case side1 => repeat (first | exact (Kd.C_below HR0_5.out HB.out) | (with_reducible refine Kd.C_alloc ?_ _) | (with_reducible refine Kd.C_drewN ?_ _) | (with_reducible refine Kd.C_drew ?_))); (case side2 => exact HC0_5.out); rintro e w17 ⟨rfl, hb⟩; refine ⟨_, rfl, ?_⟩; have n0_ := Aside0.mk (blk_below (g := gb106) (o := .cells #[.int .i64 a0_0, .int .i64 a0_1, .int .i64 a0_2, .int .i64 a0_3, .float .f64 a0_4, .slice A0_5 l0_5.length c0_5, .int .i64 a0_6, .int .i64 a0_7, .float .f64 a0_8, .slice A0_9 l0_9.length c0_9] 45 (0, 0)) (bup BK106.out) hb); have n1_ := Aside0.mk (below_step (by with_reducible repeat (first | exact HB.out | refine h4 ?_ GE106.out | apply h1 | apply h2 | apply h3)) hb); clear BK106; clear HB; have BK106 := n0_; have HB := n1_; clear n0_ n1_; (try clear hb); (try clear hb2); (try clear hk); (try clear hi); obtain ⟨hcz18_0, hcz18_1, hcz18_2, hcz18_3, hcz18_4, hcz18_5, hcz18_6, hcz18_7, hcz18_8, hcz18_9⟩ := blk_cells10 BK106.out; obtain ⟨hfz18_0, hfz18_1, hfz18_2, hfz18_3, hfz18_4, hfz18_5, hfz18_6, hfz18_7, hfz18_8, hfz18_9⟩ := blk_frozens10 BK106.out) | ((with_reducible refine gate_callee (f := 70) rfl ?_); refine goesL_ (some 14) rfl rfl Try.func70 (by kernel_rfl) rfl #[.agg #[.int .i64 a0_6, .int .i64 a0_7, .float .f64 a0_8, .slice A0_9 l0_9.length c0_9], .int .i64 t107] rfl (by (try simp only [List.map_toArray, List.map_cons, List.map_nil]); first | done | rfl) ?_; (with_reducible refine (laws_szItem.calls a0_6 a0_7 a0_8 _ _ l0_9 t107 t108 _ ?side1 ?side2 A8.out).mono ?_); (case side1 => repeat (first | exact (Kd.C_below HR0_9.out HB.out) | (with_reducible refine Kd.C_alloc ?_ _) | (with_reducible refine Kd.C_drewN ?_ _) | (with_reducible refine Kd.C_drew ?_))); (case side2 => exact HC0_9.out); rintro e w19 ⟨rfl, hb⟩; refine ⟨_, rfl, ?_⟩; have n0_ := Aside0.mk (blk_below (g := gb106) (o := .cells #[.int .i64 a0_0, .int .i64 a0_1, .int .i64 a0_2, .int .i64 a0_3, .float .f64 a0_4, .slice A0_5 l0_5.length c0_5, .int .i64 a0_6, .int .i64 a0_7, .float .f64 a0_8, .slice A0_9 l0_9.length c0_9] 45 (0, 0)) (bup BK106.out) hb); have n1_ := Aside0.mk (below_step (by with_reducible repeat (first | exact HB.out | refine h4 ?_ GE106.out | apply h1 | apply h2 | apply h3)) hb); clear BK106; clear HB; have BK106 := n0_; have HB := n1_; clear n0_ n1_; (try clear hb); (try clear hb2); (try clear hk); (try clear hi)))
   go_ret
   exact ⟨by first | rfl | (simp [errW_none, errW_some] <;> rfl) | (simp [*, errW_none, errW_some] <;> rfl), by with_reducible repeat (first | exact HB.out | refine h4 ?_ GE106.out | apply h1 | apply h2 | apply h3)⟩

/-! ### spec_FloatBits: function 30 -/
mutual
def spec_FloatBits.j0 : Nat → Nat → Int → Nat → Bool → Option (Int)
 | 0, _, _, _, _ => none
 | k + 1, x0, x3, x4, x20 => if x20 = true then (spec_FloatBits.j1 k 9223372036854775808 (fneg x0)) else (spec_FloatBits.j1 k x3 x4)
def spec_FloatBits.j1 : Nat → Int → Nat → Option (Int)
 | 0, _, _ => none
 | k + 1, x3, x4 => if (feq x4 0) = true then (some x3) else (if (fgt x4 9218868437227405311) = true then (some (Go.bits .or .u64 x3 9218868437227405312)) else (spec_FloatBits.l0 k x3 x4 0))
def spec_FloatBits.l0 : Nat → Int → Nat → Int → Option (Int)
 | 0, _, _, _ => none
 | k + 1, x3, x4, x5 => if (fge x4 4611686018427387904) = true then (if (fok .quo x4 4611686018427387904) = true then (spec_FloatBits.l0 k x3 (fval .quo x4 4611686018427387904) (wrap64 (x5 + 1))) else (none)) else (spec_FloatBits.l1 k x3 x4 x5)
def spec_FloatBits.l1 : Nat → Int → Nat → Int → Option (Int)
 | 0, _, _, _ => none
 | k + 1, x3, x4, x5 => if (fls x4 4607182418800017408) = true then (if x5 > (-1022) then (if (fok .mul x4 4611686018427387904) = true then (spec_FloatBits.l1 k x3 (fval .mul x4 4611686018427387904) (wrap64 (x5 - 1))) else (none)) else (if (fok .mul x4 4841369599423283200) = true then (if (fiok .u64 (fval .mul x4 4841369599423283200)) = true then (some (Go.bits .or .u64 x3 (fival .u64 (fval .mul x4 4841369599423283200)))) else (none)) else (none))) else (if (fok .sub x4 4607182418800017408) = true then (if (fok .mul (fval .sub x4 4607182418800017408) 4841369599423283200) = true then (if (fiok .u64 (fval .mul (fval .sub x4 4607182418800017408) 4841369599423283200)) = true then (some (Go.bits .or .u64 (Go.bits .or .u64 x3 (IntKind.u64.wrap ((IntKind.u64.wrap (wrap64 (x5 + 1023))) * 4503599627370496))) (fival .u64 (fval .mul (fval .sub x4 4607182418800017408) 4841369599423283200)))) else (none)) else (none)) else (none))
end
def spec_FloatBits.f (k : Nat) (a0 : Nat) : Option (Int) := if ((feq a0 a0) = true) then (if (fls a0 0) = true then (spec_FloatBits.j0 k a0 0 a0 true) else (if (feq a0 0) = true then (if (fok .quo 4607182418800017408 a0) = true then (spec_FloatBits.j0 k a0 0 a0 (fls (fval .quo 4607182418800017408 a0) 0)) else (none)) else (spec_FloatBits.j0 k a0 0 a0 false))) else (some 9221120237041090560)
theorem spec_FloatBits.mono_l : ∀ k, (∀ y0 y1 y2 y3, LeO (spec_FloatBits.j0 k y0 y1 y2 y3) (spec_FloatBits.j0 (k + 1) y0 y1 y2 y3)) ∧ (∀ y0 y1, LeO (spec_FloatBits.j1 k y0 y1) (spec_FloatBits.j1 (k + 1) y0 y1)) ∧ (∀ y0 y1 y2, LeO (spec_FloatBits.l0 k y0 y1 y2) (spec_FloatBits.l0 (k + 1) y0 y1 y2)) ∧ (∀ y0 y1 y2, LeO (spec_FloatBits.l1 k y0 y1 y2) (spec_FloatBits.l1 (k + 1) y0 y1 y2))
 | 0 => ⟨fun _ _ _ _ r h => by simp [spec_FloatBits.j0] at h, fun _ _ r h => by simp [spec_FloatBits.j1] at h, fun _ _ _ r h => by simp [spec_FloatBits.l0] at h, fun _ _ _ r h => by simp [spec_FloatBits.l1] at h⟩
 | k + 1 => by
  obtain ⟨ih0, ih1, ih2, ih3⟩ := spec_FloatBits.mono_l k
  refine ⟨?_, ?_, ?_, ?_⟩
  ·intro y0 y1 y2 y3
   unfold spec_FloatBits.j0
   repeat' with_reducible first | exact ih0 _ _ _ _ | exact ih1 _ _ | exact ih2 _ _ _ | exact ih3 _ _ _ | exact LeO.refl _ | exact LeO.none _ | refine LeO.ite ?_ ?_ | refine LeO.bind ?_ (fun _ => ?_)
  ·intro y0 y1
   unfold spec_FloatBits.j1
   repeat' with_reducible first | exact ih0 _ _ _ _ | exact ih1 _ _ | exact ih2 _ _ _ | exact ih3 _ _ _ | exact LeO.refl _ | exact LeO.none _ | refine LeO.ite ?_ ?_ | refine LeO.bind ?_ (fun _ => ?_)
  ·intro y0 y1 y2
   unfold spec_FloatBits.l0
   repeat' with_reducible first | exact ih0 _ _ _ _ | exact ih1 _ _ | exact ih2 _ _ _ | exact ih3 _ _ _ | exact LeO.refl _ | exact LeO.none _ | refine LeO.ite ?_ ?_ | refine LeO.bind ?_ (fun _ => ?_)
  ·intro y0 y1 y2
   unfold spec_FloatBits.l1
   repeat' with_reducible first | exact ih0 _ _ _ _ | exact ih1 _ _ | exact ih2 _ _ _ | exact ih3 _ _ _ | exact LeO.refl _ | exact LeO.none _ | refine LeO.ite ?_ ?_ | refine LeO.bind ?_ (fun _ => ?_)
theorem spec_FloatBits.mono : ∀ a0 k, LeO (spec_FloatBits.f k a0) (spec_FloatBits.f (k + 1) a0) := by
 intro a0 k
 obtain ⟨ih0, ih1, ih2, ih3⟩ := spec_FloatBits.mono_l k
 unfold spec_FloatBits.f
 repeat' with_reducible first | exact ih0 _ _ _ _ | exact ih1 _ _ | exact ih2 _ _ _ | exact ih3 _ _ _ | exact LeO.refl _ | exact LeO.none _ | refine LeO.ite ?_ ?_ | refine LeO.bind ?_ (fun _ => ?_)
set_option maxHeartbeats 8000000 in
set_option maxRecDepth 100000 in
theorem spec_FloatBits.calls (k : Nat) (a0 : Nat) (r : Int) (w : World) (h : spec_FloatBits.f k a0 = some r) :
  Calls Try.prog 30 #[.float .f64 a0] w fun e w' => e = .returned (.int .u64 r) ∧ Drawn0 w w' := by
 have H : (if ((feq a0 a0) = true) then (if (fls a0 0) = true then (spec_FloatBits.j0 k a0 0 a0 true) else (if (feq a0 0) = true then (if (fok .quo 4607182418800017408 a0) = true then (spec_FloatBits.j0 k a0 0 a0 (fls (fval .quo 4607182418800017408 a0) 0)) else (none)) else (spec_FloatBits.j0 k a0 0 a0 false))) else (some 9221120237041090560)) = some r := h
 clear h
 by_cases c2 : ((feq a0 a0) = true)
 ·rw [if_pos c2] at H
  have c2b0 : (feq a0 a0) = true := c2
  clear c2
  have HC3 := Aside0.mk H
  clear H
  go_enter Try.func30, Try.ntmps30
  go_upto_region 5 with (fail)
  go_cut [20] (fun v20 wc => ∃ (kq : Nat) (x20_2 : Bool), v20 = .bool x20_2 ∧ Aside0 (spec_FloatBits.j0 kq a0 0 a0 x20_2 = some r) ∧ Aside0 (kq ≤ k) ∧ Drawn0 w wc)
  case first =>
   have H := HC3.out
   clear HC3
   by_cases c4 : (fls a0 0) = true
   ·rw [if_pos c4] at H
    have c4b0 : (fls a0 0) = true := c4
    clear c4
    (first | rw [c4b0] | (simp only [i64_w, i32_w]; rw [c4b0]) | skip)
    have H' := Aside0.mk H
    clear H
    go_wp2
    go_meet
    case rel => exact ⟨_, (true), (by first | rfl | (simp; done) | (simp [*]; done)), H', ⟨by first | omega | exact Nat.le_refl _⟩, by repeat (first | exact Drawn0.refl _ | apply Drawn0.step)⟩
   ·rw [if_neg c4] at H
    have c4b0 : (fls a0 0) = false := by simpa using c4
    clear c4
    (first | rw [c4b0] | (simp only [i64_w, i32_w]; rw [c4b0]) | skip)
    by_cases c5 : (feq a0 0) = true
    ·rw [if_pos c5] at H
     have c5b0 : (feq a0 0) = true := c5
     clear c5
     by_cases c6 : (fok .quo 4607182418800017408 a0) = true
     ·rw [if_pos c6] at H
      have c6b0 : (fok .quo 4607182418800017408 a0) = true := c6
      clear c6
      have H' := Aside0.mk H
      clear H
      go_wp2
      go_meet
      case rel => exact ⟨_, ((fls (fval .quo 4607182418800017408 a0) 0)), (by first | rfl | (simp; done) | (simp [*]; done)), H', ⟨by first | omega | exact Nat.le_refl _⟩, by repeat (first | exact Drawn0.refl _ | apply Drawn0.step)⟩
     ·rw [if_neg c6] at H
      exact absurd H (by simp)
    ·rw [if_neg c5] at H
     have c5b0 : (feq a0 0) = false := by simpa using c5
     clear c5
     have H' := Aside0.mk H
     clear H
     go_wp2
     go_meet
     case rel => exact ⟨_, (false), (by first | rfl | (simp; done) | (simp [*]; done)), H', ⟨by first | omega | exact Nat.le_refl _⟩, by repeat (first | exact Drawn0.refl _ | apply Drawn0.step)⟩
  case rest =>
   clear HC3
   try clear c2
   try clear c2b0
   try clear p2
   try clear c3
   try clear c4
   try clear c4b0
   try clear c5
   try clear c5b0
   try clear c6
   try clear c6b0
   obtain ⟨kq, x20_2, rfl, HA, HJ2, ⟨mc2, rfl⟩⟩ := hcut
   cases kq with
   | zero => exact absurd HA.out (by simp [spec_FloatBits.j0])
   | succ kj2 =>
    have H := HA.out
    clear HA
    simp only [spec_FloatBits.j0] at H
    have HC7 := Aside0.mk H
    clear H
    go_upto_if 20 with (fail)
    go_cut [3, 4] (fun v3 v4 wc => ∃ (kq : Nat) (x3_6 : Int) (x4_6 : Nat), v3 = .int .u64 x3_6 ∧ v4 = .float .f64 x4_6 ∧ Aside0 (spec_FloatBits.j1 kq x3_6 x4_6 = some r) ∧ Aside0 (kq ≤ kj2) ∧ Drawn0 w wc)
    case first =>
     have H := HC7.out
     clear HC7
     by_cases c8 : x20_2 = true
     ·subst c8
      have H1 : (spec_FloatBits.j1 kj2 9223372036854775808 (fneg a0)) = some r := by rw [if_pos rfl] at H; exact H
      clear H
      have H := H1
      clear H1
      have H' := Aside0.mk H
      clear H
      go_wp2
      go_meet
      case rel => exact ⟨_, (9223372036854775808), (fneg a0), (by first | rfl | (simp; done) | (simp [*]; done)), (by first | rfl | (simp; done) | (simp [*]; done)), H', ⟨by have := HJ2.out; first | omega | exact Nat.le_refl _⟩, by repeat (first | exact Drawn0.refl _ | apply Drawn0.step)⟩
     ·replace c8 := Bool.eq_false_iff.mpr c8
      subst c8
      have H1 : (spec_FloatBits.j1 kj2 0 a0) = some r := by rw [if_neg (show ¬ (false = true) by decide)] at H; exact H
      clear H
      have H := H1
      clear H1
      have H' := Aside0.mk H
      clear H
      go_wp2
      go_meet
      case rel => exact ⟨_, (0), (a0), (by first | rfl | (simp; done) | (simp [*]; done)), (by first | rfl | (simp; done) | (simp [*]; done)), H', ⟨by have := HJ2.out; first | omega | exact Nat.le_refl _⟩, by repeat (first | exact Drawn0.refl _ | apply Drawn0.step)⟩
    case rest =>
     clear HC7
     try clear c2
     try clear c2b0
     try clear p2
     try clear c3
     try clear c4
     try clear c4b0
     try clear c5
     try clear c5b0
     try clear c6
     try clear c6b0
     try clear c8
     try clear p2
     obtain ⟨kq, x3_6, x4_6, rfl, rfl, HA, HJ6, ⟨mc6, rfl⟩⟩ := hcut
     cases kq with
     | zero => exact absurd HA.out (by simp [spec_FloatBits.j1])
     | succ kj6 =>
      have H := HA.out
      clear HA
      simp only [spec_FloatBits.j1] at H
      by_cases c9 : (feq x4_6 0) = true
      ·rw [if_pos c9] at H
       have c9b0 : (feq x4_6 0) = true := c9
       clear c9
       obtain rfl := Option.some.inj H
       go_wp2
       go_ret
       exact ⟨by first | rfl | (simp; done) | (simp [*]; done), by repeat (first | exact Drawn0.refl _ | apply Drawn0.step)⟩
      ·rw [if_neg c9] at H
       have c9b0 : (feq x4_6 0) = false := by simpa using c9
       clear c9
       by_cases c10 : (fgt x4_6 9218868437227405311) = true
       ·rw [if_pos c10] at H
        have c10b0 : (fgt x4_6 9218868437227405311) = true := c10
        clear c10
        obtain rfl := Option.some.inj H
        go_wp2
        go_ret
        exact ⟨by first | rfl | (simp; done) | (simp [*]; done), by repeat (first | exact Drawn0.refl _ | apply Drawn0.step)⟩
       ·rw [if_neg c10] at H
        have c10b0 : (fgt x4_6 9218868437227405311) = false := by simpa using c10
        clear c10
        have H' := Aside0.mk H
        clear H
        go_wp2
        go_loopg [4, 5] kj6 (fun kq v4 v5 w' => ∃ (x4_3 : Nat) (x5_3 : Int), v4 = .float .f64 x4_3 ∧ v5 = .int .i64 x5_3 ∧ Aside0 (spec_FloatBits.l0 kq x3_6 x4_3 x5_3 = some r) ∧ Aside0 (kq ≤ kj6) ∧ Drawn0 w w')
        case atStart => exact ⟨(x4_6), (0), (by first | rfl | (simp; done) | (simp [*]; done)), (by first | rfl | (simp; done) | (simp [*]; done)), H', ⟨Nat.le_refl _⟩, by repeat (first | exact Drawn0.refl _ | apply Drawn0.step)⟩
        case round =>
         clear H'
         try clear c1
         try clear c2
         try clear c2b0
         try clear p2
         try clear c3
         try clear c4
         try clear c4b0
         try clear c5
         try clear c5b0
         try clear c6
         try clear c6b0
         try clear c8
         try clear c9
         try clear c9b0
         try clear c10
         try clear c10b0
         try clear p2
         obtain ⟨x4_3, x5_3, rfl, rfl, HA, HK3, ⟨m3, rfl⟩⟩ := hrel
         cases gk with
         | zero => exact absurd HA.out (by simp [spec_FloatBits.l0])
         | succ k3 =>
          have H := HA.out
          clear HA
          simp only [spec_FloatBits.l0] at H
          by_cases c11 : (fge x4_3 4611686018427387904) = true
          ·rw [if_pos c11] at H
           have c11b0 : (fge x4_3 4611686018427387904) = true := c11
           clear c11
           by_cases c12 : (fok .quo x4_3 4611686018427387904) = true
           ·rw [if_pos c12] at H
            have c12b0 : (fok .quo x4_3 4611686018427387904) = true := c12
            clear c12
            have H' := Aside0.mk H
            clear H
            go_wp2
            go_roundg k3
            case measure => have := HJ2.out; have := HJ6.out; have := HK3.out; omega
            case rel => exact ⟨(fval .quo x4_3 4611686018427387904), (wrap64 (x5_3 + 1)), (by first | rfl | (simp; done) | (simp [*]; done)), (by first | rfl | (simp; done) | (simp [*]; done)), H', ⟨by have := HJ2.out; have := HJ6.out; have := HK3.out; omega⟩, by repeat (first | exact Drawn0.refl _ | apply Drawn0.step)⟩
           ·rw [if_neg c12] at H
            exact absurd H (by simp)
          ·rw [if_neg c11] at H
           have c11b0 : (fge x4_3 4611686018427387904) = false := by simpa using c11
           clear c11
           have H' := Aside0.mk H
           clear H
           go_wp2
           go_loopg [4, 5] k3 (fun kq v4 v5 w' => ∃ (x4_4 : Nat) (x5_4 : Int), v4 = .float .f64 x4_4 ∧ v5 = .int .i64 x5_4 ∧ Aside0 (spec_FloatBits.l1 kq x3_6 x4_4 x5_4 = some r) ∧ Aside0 (kq ≤ k3) ∧ Drawn0 w w')
           case atStart => exact ⟨(x4_3), (x5_3), (by first | rfl | (simp; done) | (simp [*]; done)), (by first | rfl | (simp; done) | (simp [*]; done)), H', ⟨Nat.le_refl _⟩, by repeat (first | exact Drawn0.refl _ | apply Drawn0.step)⟩
           case round =>
            clear H'
            try clear c1
            try clear c2
            try clear c2b0
            try clear p2
            try clear c3
            try clear c4
            try clear c4b0
            try clear c5
            try clear c5b0
            try clear c6
            try clear c6b0
            try clear p6
            try clear c8
            try clear c9
            try clear c9b0
            try clear c10
            try clear c10b0
            try clear c11
            try clear c11b0
            try clear c12
            try clear c12b0
            try clear p2
            obtain ⟨x4_4, x5_4, rfl, rfl, HA, HK4, ⟨m4, rfl⟩⟩ := hrel
            cases gk with
            | zero => exact absurd HA.out (by simp [spec_FloatBits.l1])
            | succ k4 =>
             have H := HA.out
             clear HA
             simp only [spec_FloatBits.l1] at H
             by_cases c13 : (fls x4_4 4607182418800017408) = true
             ·rw [if_pos c13] at H
              have c13b0 : (fls x4_4 4607182418800017408) = true := c13
              clear c13
              by_cases c14 : x5_4 > (-1022)
              ·rw [if_pos c14] at H
               have c14b0 : decide ((-1022) < x5_4) = true := decide_eq_true c14
               clear c14
               by_cases c15 : (fok .mul x4_4 4611686018427387904) = true
               ·rw [if_pos c15] at H
                have c15b0 : (fok .mul x4_4 4611686018427387904) = true := c15
                clear c15
                have H' := Aside0.mk H
                clear H
                go_wp2
                go_roundg k4
                case measure => have := HJ2.out; have := HJ6.out; have := HK3.out; have := HK4.out; omega
                case rel => exact ⟨(fval .mul x4_4 4611686018427387904), (wrap64 (x5_4 - 1)), (by first | rfl | (simp; done) | (simp [*]; done)), (by first | rfl | (simp; done) | (simp [*]; done)), H', ⟨by have := HJ2.out; have := HJ6.out; have := HK3.out; have := HK4.out; omega⟩, by repeat (first | exact Drawn0.refl _ | apply Drawn0.step)⟩
               ·rw [if_neg c15] at H
                exact absurd H (by simp)
              ·rw [if_neg c14] at H
               have c14b0 : decide ((-1022) < x5_4) = false := decide_eq_false c14
               clear c14
               by_cases c16 : (fok .mul x4_4 4841369599423283200) = true
               ·rw [if_pos c16] at H
                have c16b0 : (fok .mul x4_4 4841369599423283200) = true := c16
                clear c16
                by_cases c17 : (fiok .u64 (fval .mul x4_4 4841369599423283200)) = true
                ·rw [if_pos c17] at H
                 have c17b0 : (fiok .u64 (fval .mul x4_4 4841369599423283200)) = true := c17
                 clear c17
                 obtain rfl := Option.some.inj H
                 go_wp2
                 go_ret
                 exact ⟨by first | rfl | (simp; done) | (simp [*]; done), by repeat (first | exact Drawn0.refl _ | apply Drawn0.step)⟩
                ·rw [if_neg c17] at H
                 exact absurd H (by simp)
               ·rw [if_neg c16] at H
                exact absurd H (by simp)
             ·rw [if_neg c13] at H
              have c13b0 : (fls x4_4 4607182418800017408) = false := by simpa using c13
              clear c13
              by_cases c18 : (fok .sub x4_4 4607182418800017408) = true
              ·rw [if_pos c18] at H
               have c18b0 : (fok .sub x4_4 4607182418800017408) = true := c18
               clear c18
               by_cases c19 : (fok .mul (fval .sub x4_4 4607182418800017408) 4841369599423283200) = true
               ·rw [if_pos c19] at H
                have c19b0 : (fok .mul (fval .sub x4_4 4607182418800017408) 4841369599423283200) = true := c19
                clear c19
                by_cases c20 : (fiok .u64 (fval .mul (fval .sub x4_4 4607182418800017408) 4841369599423283200)) = true
                ·rw [if_pos c20] at H
                 have c20b0 : (fiok .u64 (fval .mul (fval .sub x4_4 4607182418800017408) 4841369599423283200)) = true := c20
                 clear c20
                 obtain rfl := Option.some.inj H
                 go_wp2
                 go_ret
                 exact ⟨by first | rfl | (simp; done) | (simp [*]; done), by repeat (first | exact Drawn0.refl _ | apply Drawn0.step)⟩
                ·rw [if_neg c20] at H
                 exact absurd H (by simp)
               ·rw [if_neg c19] at H
                exact absurd H (by simp)
              ·rw [if_neg c18] at H
               exact absurd H (by simp)
 ·rw [if_neg c2] at H
  have c2b0 : (feq a0 a0) = false := by simpa using c2
  clear c2
  obtain rfl := Option.some.inj H
  go_enter Try.func30, Try.ntmps30
  go_wp2
  go_ret
  exact ⟨by first | rfl | (simp; done) | (simp [*]; done), by repeat (first | exact Drawn0.refl _ | apply Drawn0.step)⟩

end Go.Proofs.Ytjjkhlphdbmdfaa.PFnExactTupleBytes
