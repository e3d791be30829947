-- By this session's own program (wip/xprint.py), over the kit's print.
import Derived.Test.YtkbclccnnllddaaPFnExactRecordAtx0
import Derived.Test.YtkbclccnnllddaaPFnExactRecordAtx3
namespace Go.Proofs.Ytkbclccnnllddaa.PFnExactRecordAt
open Go.RowKit Go.Proofs.YtkbclccnnllddaaW.PrintWords Go.Proofs.YtkbclccnnllddaaW.PrintLast Go.Proofs.YtkbclccnnllddaaW.PrintMore
attribute [local go_sem] max2_int min2_int max_two min_two max_three min_three max_four min_four   -- for this text's walks alone
attribute [local go_sem high] fl_eql fl_neq fl_lss fl_leq fl_gtr fl_geq fl_add fl_sub fl_mul fl_quo fl_neg fl_ofInt fl_toInt fl_store
set_option linter.unusedVariables false
set_option linter.unusedSimpArgs false

/-! ### impl_GetNum: function 46 -/
mutual
def impl_GetNum.j0 : Nat → List Int → Int → Int → Bool → Option (Int × Bool)
  | 0, _, _, _, _ => none
  | k + 1, x0, x1, x2, x19 => if x19 = true then (some (0, false)) else (impl_GetNum.l0 k x0 x1 0 (wrap64 (x2 - 1)))
def impl_GetNum.l0 : Nat → List Int → Int → Int → Int → Option (Int × Bool)
  | 0, _, _, _, _ => none
  | k + 1, x0, x1, x8, x9 => if x9 ≥ 0 then (if 0 ≤ (wrap64 (x1 + x9)) then (if (wrap64 (x1 + x9)) < (x0.length : Int) then (impl_GetNum.l0 k x0 x1 (Go.bits .or .u64 (IntKind.u64.wrap (x8 * 256)) (IntKind.u64.wrap (rd x0 (wrap64 (x1 + x9))))) (wrap64 (x9 - 1))) else (none)) else (none)) else (if x8 ≥ 9223372036854775808 then (some (0, false)) else (some (wrap64 (x8), true)))
end
def impl_GetNum.f (k : Nat) (l0 : List Int) (a1 : Int) (a2 : Int) : Option (Int × Bool) := (impl_within.f a2 1 8).bind fun t167 => (if t167 = true then ((impl_hasBytes.f l0 a1 a2).bind fun t168 => (impl_GetNum.j0 k l0 a1 a2 (!t168))) else (impl_GetNum.j0 k l0 a1 a2 true))
theorem impl_GetNum.mono_l : ∀ k, (∀ y0 y1 y2 y3, LeO (impl_GetNum.j0 k y0 y1 y2 y3) (impl_GetNum.j0 (k + 1) y0 y1 y2 y3)) ∧ (∀ y0 y1 y2 y3, LeO (impl_GetNum.l0 k y0 y1 y2 y3) (impl_GetNum.l0 (k + 1) y0 y1 y2 y3))
  | 0 => ⟨fun _ _ _ _ r h => by simp [impl_GetNum.j0] at h, fun _ _ _ _ r h => by simp [impl_GetNum.l0] at h⟩
  | k + 1 => by
    obtain ⟨ih0, ih1⟩ := impl_GetNum.mono_l k
    refine ⟨?_, ?_⟩
    · intro y0 y1 y2 y3
      unfold impl_GetNum.j0
      repeat' first
      | (with_reducible exact ih0 _ _ _ _)
      | (with_reducible exact ih1 _ _ _ _)
      | (with_reducible exact LeO.refl _)
      | (with_reducible exact LeO.none _)
      | (with_reducible refine LeO.ite ?_ ?_)
      | (with_reducible refine LeO.bind ?_ (fun _ => ?_))
      | exact ih0 _ _ _ _
      | exact ih1 _ _ _ _
      | exact LeO.none _
      | refine LeO.ite ?_ ?_
      | refine LeO.bind ?_ (fun _ => ?_)
    · intro y0 y1 y2 y3
      unfold impl_GetNum.l0
      repeat' first
      | (with_reducible exact ih0 _ _ _ _)
      | (with_reducible exact ih1 _ _ _ _)
      | (with_reducible exact LeO.refl _)
      | (with_reducible exact LeO.none _)
      | (with_reducible refine LeO.ite ?_ ?_)
      | (with_reducible refine LeO.bind ?_ (fun _ => ?_))
      | exact ih0 _ _ _ _
      | exact ih1 _ _ _ _
      | exact LeO.none _
      | refine LeO.ite ?_ ?_
      | refine LeO.bind ?_ (fun _ => ?_)
theorem impl_GetNum.mono : ∀ a0 a1 a2 k, LeO (impl_GetNum.f k a0 a1 a2) (impl_GetNum.f (k + 1) a0 a1 a2) := by
  intro a0 a1 a2 k
  obtain ⟨ih0, ih1⟩ := impl_GetNum.mono_l k
  unfold impl_GetNum.f
  repeat' first
      | (with_reducible exact ih0 _ _ _ _)
      | (with_reducible exact ih1 _ _ _ _)
      | (with_reducible exact LeO.refl _)
      | (with_reducible exact LeO.none _)
      | (with_reducible refine LeO.ite ?_ ?_)
      | (with_reducible refine LeO.bind ?_ (fun _ => ?_))
      | exact ih0 _ _ _ _
      | exact ih1 _ _ _ _
      | exact LeO.none _
      | refine LeO.ite ?_ ?_
      | refine LeO.bind ?_ (fun _ => ?_)
set_option maxHeartbeats 8000000 in
set_option maxRecDepth 100000 in
theorem impl_GetNum.calls (k : Nat) (A0 : Option Addr) (c0 : Nat) (l0 : List Int) (a1 : Int) (a2 : Int) (r1 : Int) (r2 : Bool) (w : World) (hr0 : Kd.C (Kd.int .u8) w A0 l0.length l0) (hc0 : l0.length ≤ c0) (h : impl_GetNum.f k l0 a1 a2 = some (r1, r2)) :
    Calls Try.prog 46 #[.slice A0 l0.length c0, .int .i64 a1, .int .i64 a2] w fun e w' => e = .returned (.tuple #[.int .i64 r1, .bool r2]) ∧ Drawn0 w w' := by
  have HR0 := Aside0.mk hr0
  have HC0 := Aside0.mk hc0
  clear hr0 hc0
  have H : ((impl_within.f a2 1 8).bind fun t167 => (if t167 = true then ((impl_hasBytes.f l0 a1 a2).bind fun t168 => (impl_GetNum.j0 k l0 a1 a2 (!t168))) else (impl_GetNum.j0 k l0 a1 a2 true))) = some (r1, r2) := h
  clear h
  have HC4 := Aside0.mk H
  clear H
  go_enter Try.func46, Try.ntmps46
  go_upto_region 1 with (fail)
  go_cut [19] (fun v19 wc => ∃ (kq : Nat) (x19_3 : Bool), v19 = .bool x19_3 ∧ Aside0 (impl_GetNum.j0 kq l0 a1 a2 x19_3 = some (r1, r2)) ∧ Aside0 (kq ≤ k) ∧ Drawn0 w wc)
  case first =>
    have H := HC4.out
    clear HC4
    replace H := Option.bind_eq_some_iff.mp H
    obtain ⟨t167, A50, H⟩ := H
    replace H : (if t167 = true then ((impl_hasBytes.f l0 a1 a2).bind fun t168 => (impl_GetNum.j0 k l0 a1 a2 (!t168))) else (impl_GetNum.j0 k l0 a1 a2 true)) = some (r1, r2) := H
    have A5 := Aside0.mk A50
    clear A50
    by_cases c6 : t167 = true
    · subst c6
      have H1 : ((impl_hasBytes.f l0 a1 a2).bind fun t168 => (impl_GetNum.j0 k l0 a1 a2 (!t168))) = some (r1, r2) := by rw [if_pos rfl] at H; exact H
      clear H
      have H := H1
      clear H1
      replace H := Option.bind_eq_some_iff.mp H
      obtain ⟨t168, A70, H⟩ := H
      replace H : (impl_GetNum.j0 k l0 a1 a2 (!t168)) = some (r1, r2) := H
      have A7 := Aside0.mk A70
      clear A70
      have H' := Aside0.mk H
      clear H
      go_wp2_with (first | ((with_reducible refine gate_callee (f := 42) rfl ?_); refine goesL_ (some 11) rfl rfl Try.func42 (by kernel_rfl) rfl #[.int .i64 a2, .int .i64 1, .int .i64 8] rfl (by (try simp only [List.map_toArray, List.map_cons, List.map_nil]); first | done | rfl | (simp only [List.length_drop, List.length_take]; rfl)) ?_; (with_reducible refine (impl_within.calls a2 1 8 true _ A5.out).mono ?_); rintro e w' ⟨rfl, ⟨nd, rfl⟩⟩; refine ⟨_, rfl, ?_⟩) | (go_at_call 45; (with_reducible refine (impl_hasBytes.calls _ _ l0 a1 a2 t168 _ ?side1 ?side2 A7.out).mono ?_); (case side1 => repeat (first | exact HR0.out | (with_reducible refine Kd.C_alloc ?_ _) | (with_reducible refine Kd.C_drewN ?_ _) | (with_reducible refine Kd.C_drew ?_))); (case side2 => exact HC0.out); rintro e w' ⟨rfl, ⟨nd, rfl⟩⟩))
      go_meet
      case rel => exact ⟨_, (!t168), (by first | rfl | (simp; done) | (simp [*]; done)), H', ⟨by first | omega | exact Nat.le_refl _⟩, by repeat (first | exact Drawn0.refl _ | apply Drawn0.step)⟩
    · replace c6 := Bool.eq_false_iff.mpr c6
      subst c6
      have H1 : (impl_GetNum.j0 k l0 a1 a2 true) = some (r1, r2) := by rw [if_neg (show ¬ (false = true) by decide)] at H; exact H
      clear H
      have H := H1
      clear H1
      have H' := Aside0.mk H
      clear H
      go_wp2_with (first | ((with_reducible refine gate_callee (f := 42) rfl ?_); refine goesL_ (some 11) rfl rfl Try.func42 (by kernel_rfl) rfl #[.int .i64 a2, .int .i64 1, .int .i64 8] rfl (by (try simp only [List.map_toArray, List.map_cons, List.map_nil]); first | done | rfl | (simp only [List.length_drop, List.length_take]; rfl)) ?_; (with_reducible refine (impl_within.calls a2 1 8 false _ A5.out).mono ?_); rintro e w' ⟨rfl, ⟨nd, rfl⟩⟩; refine ⟨_, rfl, ?_⟩))
      go_meet
      case rel => exact ⟨_, (true), (by first | rfl | (simp; done) | (simp [*]; done)), H', ⟨by first | omega | exact Nat.le_refl _⟩, by repeat (first | exact Drawn0.refl _ | apply Drawn0.step)⟩
  case rest =>
    clear HC4
    try clear p2
    try clear c4
    try clear c6
    obtain ⟨kq, x19_3, rfl, HA, HJ3, ⟨mc3, rfl⟩⟩ := hcut
    cases kq with
    | zero => exact absurd HA.out (by simp [impl_GetNum.j0])
    | succ kj3 =>
      have H := HA.out
      clear HA
      simp only [impl_GetNum.j0] at H
      by_cases c8 : x19_3 = true
      · subst c8
        have H1 : (some (0, false)) = some (r1, r2) := by rw [if_pos rfl] at H; exact H
        clear H
        have H := H1
        clear H1
        simp only [Option.some.injEq, Prod.mk.injEq] at H
        obtain ⟨rfl, rfl⟩ := H
        go_wp2
        go_ret2
        exact ⟨by first | rfl | (simp; done) | (simp [*]; done), by repeat (first | exact Drawn0.refl _ | apply Drawn0.step)⟩
      · replace c8 := Bool.eq_false_iff.mpr c8
        subst c8
        have H1 : (impl_GetNum.l0 kj3 l0 a1 0 (wrap64 (a2 - 1))) = some (r1, r2) := by rw [if_neg (show ¬ (false = true) by decide)] at H; exact H
        clear H
        have H := H1
        clear H1
        have H' := Aside0.mk H
        clear H
        go_wp2
        go_loopg [8, 9] kj3 (fun kq v8 v9 w' => ∃ (x8_2 : Int) (x9_2 : Int), v8 = .int .u64 x8_2 ∧ v9 = .int .i64 x9_2 ∧ Aside0 (impl_GetNum.l0 kq l0 a1 x8_2 x9_2 = some (r1, r2)) ∧ Aside0 (kq ≤ kj3) ∧ Drawn0 w w')
        case atStart => exact ⟨(0), (wrap64 (a2 - 1)), (by first | rfl | (simp; done) | (simp [*]; done)), (by first | rfl | (simp; done) | (simp [*]; done)), H', ⟨Nat.le_refl _⟩, by repeat (first | exact Drawn0.refl _ | apply Drawn0.step)⟩
        case round =>
          clear H'
          try clear p2
          try clear c3
          try clear c4
          try clear c6
          try clear p6
          try clear c8
          try clear p2
          obtain ⟨x8_2, x9_2, rfl, rfl, HA, HK2, ⟨m2, rfl⟩⟩ := hrel
          cases gk with
          | zero => exact absurd HA.out (by simp [impl_GetNum.l0])
          | succ k2 =>
            have H := HA.out
            clear HA
            simp only [impl_GetNum.l0] at H
            by_cases c9 : x9_2 ≥ 0
            · rw [if_pos c9] at H
              have c9b0 : decide (0 ≤ x9_2) = true := decide_eq_true c9
              clear c9
              obtain ⟨ji10, hji10⟩ : ∃ j_ : Int, (wrap64 (a1 + x9_2)) = j_ := ⟨_, rfl⟩
              replace H : (if 0 ≤ (ji10) then (if (ji10) < (l0.length : Int) then (impl_GetNum.l0 k2 l0 a1 (Go.bits .or .u64 (IntKind.u64.wrap (x8_2 * 256)) (IntKind.u64.wrap (rd l0 (ji10)))) (wrap64 (x9_2 - 1))) else (none)) else (none)) = some (r1, r2) := by first | (rw [hji10] at H; exact H) | (simp only [hji10] at H ⊢; exact H)
              have hji10w : (IntKind.i64.wrap (a1 + x9_2)) = ji10 := (i64_w _).trans hji10
              by_cases c11 : 0 ≤ (ji10)
              · rw [if_pos c11] at H
                have c11b0 : decide (0 ≤ (ji10)) = true := decide_eq_true c11
                clear c11
                by_cases c12 : (ji10) < (l0.length : Int)
                · rw [if_pos c12] at H
                  have c12b0 : decide ((ji10) < (l0.length : Int)) = true := decide_eq_true c12
                  clear c12
                  have H' := Aside0.mk H
                  clear H
                  have p169 : 0 ≤ ((ji10) : Int) := of_decide_eq_true (by first | (with_reducible assumption) | assumption)
                  have q169 : (ji10) < (l0.length : Int) := of_decide_eq_true (by first | (with_reducible assumption) | assumption)
                  obtain ⟨ad169, e169, hx169_0⟩ := Kd.at_int HR0.out (ji10) p169 q169
                  cases e169
                  replace p169 := eq_true p169
                  replace q169 := eq_true q169
                  go_wp2
                  go_roundg k2
                  case measure => have := HJ3.out; have := HK2.out; omega
                  case rel => exact ⟨(Go.bits .or .u64 (IntKind.u64.wrap (x8_2 * 256)) (IntKind.u64.wrap (rd l0 (ji10)))), (wrap64 (x9_2 - 1)), (by first | rfl | (simp; done) | (simp only [← hji10] <;> (first | rfl | simp)) | (simp [*]; done)), (by first | rfl | (simp; done) | (simp [*]; done)), H', ⟨by have := HJ3.out; have := HK2.out; omega⟩, by repeat (first | exact Drawn0.refl _ | apply Drawn0.step)⟩
                · rw [if_neg c12] at H
                  exact absurd H (by simp)
              · rw [if_neg c11] at H
                exact absurd H (by simp)
            · rw [if_neg c9] at H
              have c9b0 : decide (0 ≤ x9_2) = false := decide_eq_false c9
              clear c9
              by_cases c13 : x8_2 ≥ 9223372036854775808
              · rw [if_pos c13] at H
                have c13b0 : decide (9223372036854775808 ≤ x8_2) = true := decide_eq_true c13
                clear c13
                simp only [Option.some.injEq, Prod.mk.injEq] at H
                obtain ⟨rfl, rfl⟩ := H
                go_wp2
                go_ret2
                exact ⟨by first | rfl | (simp; done) | (simp [*]; done), by repeat (first | exact Drawn0.refl _ | apply Drawn0.step)⟩
              · rw [if_neg c13] at H
                have c13b0 : decide (9223372036854775808 ≤ x8_2) = false := decide_eq_false c13
                clear c13
                simp only [Option.some.injEq, Prod.mk.injEq] at H
                obtain ⟨rfl, rfl⟩ := H
                go_wp2
                go_ret2
                exact ⟨by first | rfl | (simp; done) | (simp [*]; done), by repeat (first | exact Drawn0.refl _ | apply Drawn0.step)⟩

/-! ### slices_Clone_byte_byte: function 47 -/
def slices_Clone_byte_byte.f (l0 : List Int) : Option (List Int) := (some (([] : List Int) : List Int)).bind fun y170 => (if y170.length + l0.length < 140737488355328 then (some (y170 ++ l0)) else (none))
set_option maxHeartbeats 8000000 in
set_option maxRecDepth 100000 in
theorem slices_Clone_byte_byte.calls (A0 : Option Addr) (c0 : Nat) (l0 : List Int) (r : List Int) (w : World) (hr0 : Kd.C (Kd.int .u8) w A0 l0.length l0) (hc0 : l0.length ≤ c0) (h : slices_Clone_byte_byte.f l0 = some r) :
    Calls Try.prog 47 #[.slice A0 l0.length c0] w fun e w' => ∃ v0_ : Value, e = .returned (v0_) ∧ Kd.R (Kd.int .u8) 5 w' w.heap.size (fun _ => True) v0_ r ∧ Below w.heap.size w w' := by
  rcases A0 with _ | ad0
  · have hl0 : l0 = [] := by
      rcases Nat.eq_zero_or_pos l0.length with hz | hz
      · exact List.eq_nil_of_length_eq_zero hz
      · obtain ⟨ad, e, _⟩ := hr0.2.2 hz
        cases e
    subst hl0
    have hr : r = [] := by simpa [slices_Clone_byte_byte.f] using h.symm
    subst hr
    have hq := fun (w : World) (a : Option Addr) (n c : Nat) => Lib.run_eql_slice_nil (P := Try.prog) w 22 5 a n c 0 0 Try.underlying22
    go_enter Try.func47, Try.ntmps47
    go_wp2
    go_ret
    exact ⟨_, rfl, Kd.R_nil _ _ _ _ _, by repeat (first | exact Below.refl _ _ | apply below_alloc | apply pw_below_drewN | apply below_drew1)⟩
  · have HR0 := Aside0.mk hr0
    have HC0 := Aside0.mk hc0
    clear hr0 hc0
    have HB := Aside0.mk (Below.refl w.heap.size w)
    have H : ((some (([] : List Int) : List Int)).bind fun y170 => (if y170.length + l0.length < 140737488355328 then (some (y170 ++ l0)) else (none))) = some r := h
    clear h
    obtain ⟨y170, hy170⟩ : ∃ y_ : List Int, y_ = (([] : List Int)) := ⟨_, rfl⟩
    replace H : (if y170.length + l0.length < 140737488355328 then (some (y170 ++ l0)) else (none)) = some r := by first | (rw [hy170]; with_reducible exact H) | (have H2_ := (Option.bind_some _ _).symm.trans H; rw [hy170]; with_reducible exact H2_) | (have H2_ := (Option.bind_some _ _).symm.trans H; with_reducible exact H2_) | with_reducible exact H | (rw [hy170]; exact H) | exact H
    have Ny170 := Aside0.mk hy170
    clear hy170
    by_cases c2 : y170.length + l0.length < 140737488355328
    · rw [if_pos c2] at H
      have LMc2 := Aside0.mk c2
      clear c2
      obtain ⟨y173, hy173⟩ : ∃ y_ : List Int, y_ = (y170 ++ l0) := ⟨_, rfl⟩
      replace H : (some y173) = some r := by first | (rw [hy173]; with_reducible exact H) | (have H2_ := (Option.bind_some _ _).symm.trans H; rw [hy173]; with_reducible exact H2_) | (have H2_ := (Option.bind_some _ _).symm.trans H; with_reducible exact H2_) | with_reducible exact H | (rw [hy173]; exact H) | exact H
      have Ny173 := Aside0.mk hy173
      clear hy173
      obtain rfl := Option.some.inj H
      have hq := fun (w : World) (a : Option Addr) (n c : Nat) => Lib.run_eql_slice_nil (P := Try.prog) w 22 5 a n c 0 0 Try.underlying22
      go_enter Try.func47, Try.ntmps47
      go_wp2_with (first | ((with_reducible refine gate_dst (N := 5) rfl ?_); refine Kd.R_lit (Kd.int .u8) _ 5 ?hg (N := 5) ?hd (xs := ([] : List Int)) (inner := []) (ok := fun _ => True) (okp := fun _ => True) ?hr ?hp (fun _ hk => hk) trivial (Below.refl _ _) (Nat.le_refl _) (by simp) ?_; (case hd => rfl); (case hg => rfl); (case hr => first | (go_simp; done) | (go_simp; rfl)); (case hp => exact (Reps.none _ _)); intro v171 w3 ho4 hb hg_ hnew_; clear hg_ hnew_; (first | rw [← Ny170.out] at ho4 | (simp only [Int.reduceToNat] at ho4; rw [← Ny170.out] at ho4)); have n0_ := Aside0.mk (Kd.R_lower ho4 (below_size (by repeat (first | (with_reducible first | exact HB.out | apply below_alloc | apply pw_below_drewN | apply below_drew1) | exact HB.out)))); have n1_ := Aside0.mk (below_step (by repeat (first | (with_reducible first | exact HB.out | apply below_alloc | apply pw_below_drewN | apply below_drew1) | exact HB.out)) hb); clear HB; have HO172 := n0_; have HB := n1_; clear n0_ n1_; clear hb ho4) | ((with_reducible refine gate_builtin (b := .append) (xs := #[.tmp 5, .tmp 6]) rfl ?_); at_builtin; refine Kd.R_append_rows (Kd.int .u8) (w0 := w) w.heap.size rfl (.tmp 5) (.tmp 6) 22 5 (.int .u8 0) 1 rfl Try.underlying22 info5 rfl (by decide) (by omega) v171 y170 l0 _ _ _ (fun _ => True) (fun _ => False) rfl rfl ?aO ?aR (fun _ _ h => h) (fun _ h => h.elim) ?aF ?aB ?aS ?aL ?_; (case aR => repeat (first | exact (Kd.C_below HR0.out HB.out) | (with_reducible refine Kd.C_alloc ?_ _) | (with_reducible refine Kd.C_drewN ?_ _) | (with_reducible refine Kd.C_drew ?_))); (case aB => exact (by repeat (first | (with_reducible first | exact HB.out | apply below_alloc | apply pw_below_drewN | apply below_drew1) | exact HB.out))); (case aF => exact (fun _ _ => trivial)); (case aO => exact (by (with_reducible repeat (first | apply Kd.R_alloc | apply Kd.R_drewN | apply Kd.R_drew)); exact HO172.out)); (case aS => exact (below_size (by repeat (first | (with_reducible first | exact HB.out | apply below_alloc | apply pw_below_drewN | apply below_drew1) | exact HB.out)))); (case aL => have := LMc2.out; omega); intro v174 w5 ho hb hg hat; rw [← Ny173.out] at ho; have n0_ := Aside0.mk (hb); have n1_ := Aside0.mk (ho); clear HB; clear HO172; have HB := n0_; have HO175 := n1_; clear n0_ n1_; clear ho hb hg hat))
      go_ret
      exact ⟨_, by first | rfl | (simp [errW_none, errW_some] <;> rfl) | (simp [*, errW_none, errW_some] <;> rfl), by (with_reducible repeat (first | apply Kd.R_alloc | apply Kd.R_drewN | apply Kd.R_drew)); exact HO175.out, by repeat (first | (with_reducible first | exact HB.out | apply below_alloc | apply pw_below_drewN | apply below_drew1) | exact HB.out)⟩
    · rw [if_neg c2] at H
      exact absurd H (by simp)
  
/-! ### impl_FrameAt: function 20 -/
mutual
def impl_FrameAt.j0 : Nat → List Int → Int → Bool → Option (Int × List Int × Int × Int)
  | 0, _, _, _ => none
  | k + 1, x0, x1, x22 => if x22 = true then (some (0, ([] : List Int), 0, 1)) else (if 0 ≤ x1 then (if x1 < (x0.length : Int) then ((impl_GetNum.f k x0 (wrap64 (x1 + 1)) 2).bind fun bt178 => (if (wrap64 (rd x0 x1)) = 0 then (impl_FrameAt.j1 k x0 x1 (wrap64 (rd x0 x1)) bt178.1 true) else (impl_FrameAt.j1 k x0 x1 (wrap64 (rd x0 x1)) bt178.1 (decide (bt178.1 > 1000))))) else (none)) else (none))
def impl_FrameAt.j1 : Nat → List Int → Int → Int → Int → Bool → Option (Int × List Int × Int × Int)
  | 0, _, _, _, _, _ => none
  | k + 1, x0, x1, x8, x9, x40 => if x40 = true then (some (0, ([] : List Int), 0, 2)) else ((impl_GetNum.f k x0 (wrap64 ((wrap64 (x1 + 3)) + x9)) 4).bind fun bt180 => (if bt180.2 = true then (if 0 ≤ x1 then (if x1 ≤ (wrap64 ((wrap64 (x1 + 3)) + x9)) then (if (wrap64 ((wrap64 (x1 + 3)) + x9)) ≤ (x0.length : Int) then ((impl_Crc.f ((x0.take ((wrap64 ((wrap64 (x1 + 3)) + x9)) : Int).toNat).drop (x1 : Int).toNat)).bind fun t183 => (if bt180.1 = t183 then (if 0 ≤ (wrap64 (x1 + 3)) then (if (wrap64 (x1 + 3)) ≤ (wrap64 ((wrap64 (x1 + 3)) + x9)) then ((slices_Clone_byte_byte.f ((x0.take ((wrap64 ((wrap64 (x1 + 3)) + x9)) : Int).toNat).drop ((wrap64 (x1 + 3)) : Int).toNat)).bind fun t185 => (some (x8, t185, wrap64 ((wrap64 ((wrap64 (x1 + 3)) + x9)) + 4), 0))) else (none)) else (none)) else (some (0, ([] : List Int), 0, 3)))) else (none)) else (none)) else (none)) else (some (0, ([] : List Int), 0, 1))))
end
def impl_FrameAt.f (k : Nat) (l0 : List Int) (a1 : Int) : Option (Int × List Int × Int × Int) := if (l0.length : Int) > 65536 then (impl_FrameAt.j0 k l0 a1 true) else ((impl_hasBytes.f l0 a1 3).bind fun t176 => (impl_FrameAt.j0 k l0 a1 (!t176)))
theorem impl_FrameAt.mono_l : ∀ k, (∀ y0 y1 y2, LeO (impl_FrameAt.j0 k y0 y1 y2) (impl_FrameAt.j0 (k + 1) y0 y1 y2)) ∧ (∀ y0 y1 y2 y3 y4, LeO (impl_FrameAt.j1 k y0 y1 y2 y3 y4) (impl_FrameAt.j1 (k + 1) y0 y1 y2 y3 y4))
  | 0 => ⟨fun _ _ _ r h => by simp [impl_FrameAt.j0] at h, fun _ _ _ _ _ r h => by simp [impl_FrameAt.j1] at h⟩
  | k + 1 => by
    obtain ⟨ih0, ih1⟩ := impl_FrameAt.mono_l k
    refine ⟨?_, ?_⟩
    · intro y0 y1 y2
      unfold impl_FrameAt.j0
      repeat' first
      | (with_reducible exact ih0 _ _ _)
      | (with_reducible exact ih1 _ _ _ _ _)
      | (with_reducible exact impl_GetNum.mono _ _ _ _)
      | (with_reducible exact LeO.refl _)
      | (with_reducible exact LeO.none _)
      | (with_reducible refine LeO.ite ?_ ?_)
      | (with_reducible refine LeO.bind ?_ (fun _ => ?_))
      | exact ih0 _ _ _
      | exact ih1 _ _ _ _ _
      | exact impl_GetNum.mono _ _ _ _
      | exact LeO.none _
      | refine LeO.ite ?_ ?_
      | refine LeO.bind ?_ (fun _ => ?_)
    · intro y0 y1 y2 y3 y4
      unfold impl_FrameAt.j1
      repeat' first
      | (with_reducible exact ih0 _ _ _)
      | (with_reducible exact ih1 _ _ _ _ _)
      | (with_reducible exact impl_GetNum.mono _ _ _ _)
      | (with_reducible exact LeO.refl _)
      | (with_reducible exact LeO.none _)
      | (with_reducible refine LeO.ite ?_ ?_)
      | (with_reducible refine LeO.bind ?_ (fun _ => ?_))
      | exact ih0 _ _ _
      | exact ih1 _ _ _ _ _
      | exact impl_GetNum.mono _ _ _ _
      | exact LeO.none _
      | refine LeO.ite ?_ ?_
      | refine LeO.bind ?_ (fun _ => ?_)
theorem impl_FrameAt.mono : ∀ a0 a1 k, LeO (impl_FrameAt.f k a0 a1) (impl_FrameAt.f (k + 1) a0 a1) := by
  intro a0 a1 k
  obtain ⟨ih0, ih1⟩ := impl_FrameAt.mono_l k
  unfold impl_FrameAt.f
  repeat' first
      | (with_reducible exact ih0 _ _ _)
      | (with_reducible exact ih1 _ _ _ _ _)
      | (with_reducible exact impl_GetNum.mono _ _ _ _)
      | (with_reducible exact LeO.refl _)
      | (with_reducible exact LeO.none _)
      | (with_reducible refine LeO.ite ?_ ?_)
      | (with_reducible refine LeO.bind ?_ (fun _ => ?_))
      | exact ih0 _ _ _
      | exact ih1 _ _ _ _ _
      | exact impl_GetNum.mono _ _ _ _
      | exact LeO.none _
      | refine LeO.ite ?_ ?_
      | refine LeO.bind ?_ (fun _ => ?_)
set_option maxHeartbeats 8000000 in
set_option maxRecDepth 100000 in
theorem impl_FrameAt.calls (k : Nat) (A0 : Option Addr) (c0 : Nat) (l0 : List Int) (a1 : Int) (r1 : Int) (r2 : List Int) (r3 : Int) (r4 : Int) (w : World) (hr0 : Kd.C (Kd.int .u8) w A0 l0.length l0) (hc0 : l0.length ≤ c0) (h : impl_FrameAt.f k l0 a1 = some (r1, r2, r3, r4)) :
    Calls Try.prog 20 #[.slice A0 l0.length c0, .int .i64 a1] w fun e w' => ∃ v1_ : Value, e = .returned (.tuple #[.int .i64 r1, v1_, .int .i64 r3, .int .i64 r4]) ∧ Kd.R (Kd.int .u8) 5 w' w.heap.size (fun _ => True) v1_ r2 ∧ Below w.heap.size w w' := by
  have HR0 := Aside0.mk hr0
  have HC0 := Aside0.mk hc0
  clear hr0 hc0
  have HB := Aside0.mk (Below.refl w.heap.size w)
  have H : (if (l0.length : Int) > 65536 then (impl_FrameAt.j0 k l0 a1 true) else ((impl_hasBytes.f l0 a1 3).bind fun t176 => (impl_FrameAt.j0 k l0 a1 (!t176)))) = some (r1, r2, r3, r4) := h
  clear h
  have HC3 := Aside0.mk H
  clear H
  go_enter Try.func20, Try.ntmps20
  go_upto_region 1 with (fail)
  go_cut [22] (fun v22 wc => ∃ (kq : Nat) (x22_2 : Bool), v22 = .bool x22_2 ∧ Aside0 (impl_FrameAt.j0 kq l0 a1 x22_2 = some (r1, r2, r3, r4)) ∧ Aside0 (kq ≤ k) ∧ Aside0 (Below w.heap.size w wc))
  case first =>
    have H := HC3.out
    clear HC3
    by_cases c4 : (l0.length : Int) > 65536
    · rw [if_pos c4] at H
      have c4b0 : decide (65536 < (l0.length : Int)) = true := decide_eq_true c4
      have c4b1 : decide (65536 < l0.length) = true := decide_eq_true (by omega)
      clear c4
      (first | rw [c4b0] | (simp only [i64_w, i32_w]; rw [c4b0]) | skip)
      have H' := Aside0.mk H
      clear H
      go_wp2
      go_meet
      case rel => exact ⟨_, (true), (by first | rfl | (simp; done) | (simp [*]; done)), H', ⟨by first | omega | exact Nat.le_refl _⟩, ⟨by repeat (first | (with_reducible first | exact HB.out | apply below_alloc | apply pw_below_drewN | apply below_drew1) | exact HB.out)⟩⟩
    · rw [if_neg c4] at H
      have c4b0 : decide (65536 < (l0.length : Int)) = false := decide_eq_false c4
      have c4b1 : decide (65536 < l0.length) = false := decide_eq_false (by omega)
      clear c4
      (first | rw [c4b0] | (simp only [i64_w, i32_w]; rw [c4b0]) | skip)
      replace H := Option.bind_eq_some_iff.mp H
      obtain ⟨t176, A50, H⟩ := H
      replace H : (impl_FrameAt.j0 k l0 a1 (!t176)) = some (r1, r2, r3, r4) := H
      have A5 := Aside0.mk A50
      clear A50
      have H' := Aside0.mk H
      clear H
      go_wp2_with (first | (go_at_call 45; (with_reducible refine (impl_hasBytes.calls _ _ l0 a1 3 t176 _ ?side1 ?side2 A5.out).mono ?_); (case side1 => repeat (first | exact (Kd.C_below HR0.out HB.out) | (with_reducible refine Kd.C_alloc ?_ _) | (with_reducible refine Kd.C_drewN ?_ _) | (with_reducible refine Kd.C_drew ?_))); (case side2 => exact HC0.out); rintro e w' ⟨rfl, ⟨nd, rfl⟩⟩))
      go_meet
      case rel => exact ⟨_, (!t176), (by first | rfl | (simp; done) | (simp [*]; done)), H', ⟨by first | omega | exact Nat.le_refl _⟩, ⟨by repeat (first | (with_reducible first | exact HB.out | apply below_alloc | apply pw_below_drewN | apply below_drew1) | exact HB.out)⟩⟩
  case rest =>
    clear HC3
    try clear c2
    try clear p2
    try clear c4
    try clear c4b0
    try clear c4b1
    obtain ⟨kq, x22_2, rfl, HA, HJ2, HB⟩ := hcut
    cases kq with
    | zero => exact absurd HA.out (by simp [impl_FrameAt.j0])
    | succ kj2 =>
      have H := HA.out
      clear HA
      simp only [impl_FrameAt.j0] at H
      by_cases c6 : x22_2 = true
      · subst c6
        have H1 : (some (0, ([] : List Int), 0, 1)) = some (r1, r2, r3, r4) := by rw [if_pos rfl] at H; exact H
        clear H
        have H := H1
        clear H1
        simp only [Option.some.injEq, Prod.mk.injEq] at H
        obtain ⟨rfl, rfl, rfl, rfl⟩ := H
        go_wp2
        refine bodyPost_ret (results_list (rs := [.tmp 4, .tmp 5, .tmp 6, .tmp 7]) rfl (by simp) (.tmp (.tmp (.tmp (.tmp .nil))))) rfl ?_
        exact ⟨_, by first | rfl | (simp [errW_none, errW_some] <;> rfl) | (simp [*, errW_none, errW_some] <;> rfl), by first | exact Kd.R_nil _ _ _ _ _ | exact Kd.N_nil _ _ _ _ _ | exact Kd.V_nil _ _ _ _ _ | exact Kd.Q_nil _ _ _ _ _ | exact Kd.S_nil _ _ _ _ _, by repeat (first | (with_reducible first | exact HB.out | apply below_alloc | apply pw_below_drewN | apply below_drew1) | exact HB.out)⟩
      · replace c6 := Bool.eq_false_iff.mpr c6
        subst c6
        have H1 : (if 0 ≤ a1 then (if a1 < (l0.length : Int) then ((impl_GetNum.f kj2 l0 (wrap64 (a1 + 1)) 2).bind fun bt178 => (if (wrap64 (rd l0 a1)) = 0 then (impl_FrameAt.j1 kj2 l0 a1 (wrap64 (rd l0 a1)) bt178.1 true) else (impl_FrameAt.j1 kj2 l0 a1 (wrap64 (rd l0 a1)) bt178.1 (decide (bt178.1 > 1000))))) else (none)) else (none)) = some (r1, r2, r3, r4) := by rw [if_neg (show ¬ (false = true) by decide)] at H; exact H
        clear H
        have H := H1
        clear H1
        by_cases c7 : 0 ≤ a1
        · rw [if_pos c7] at H
          have c7b0 : decide (0 ≤ a1) = true := decide_eq_true c7
          clear c7
          by_cases c8 : a1 < (l0.length : Int)
          · rw [if_pos c8] at H
            have c8b0 : decide (a1 < (l0.length : Int)) = true := decide_eq_true c8
            clear c8
            replace H := Option.bind_eq_some_iff.mp H
            obtain ⟨⟨t178, t179⟩, A90, H⟩ := H
            replace H : (if (wrap64 (rd l0 a1)) = 0 then (impl_FrameAt.j1 kj2 l0 a1 (wrap64 (rd l0 a1)) t178 true) else (impl_FrameAt.j1 kj2 l0 a1 (wrap64 (rd l0 a1)) t178 (decide (t178 > 1000)))) = some (r1, r2, r3, r4) := H
            have A9 := Aside0.mk A90
            clear A90
            have HC10 := Aside0.mk H
            clear H
            have p177 : 0 ≤ (a1 : Int) := of_decide_eq_true (by first | (with_reducible assumption) | assumption)
            have q177 : a1 < (l0.length : Int) := of_decide_eq_true (by first | (with_reducible assumption) | assumption)
            obtain ⟨ad177, e177, hx177_0⟩ := Kd.at_int HR0.out a1 p177 q177
            cases e177
            replace hx177_0 := (HB.out.cell (World.block_lt_of_cell? w _ hx177_0)).trans hx177_0
            replace p177 := eq_true p177
            replace q177 := eq_true q177
            go_upto_region 5 with (first | ((with_reducible refine gate_callee (f := 46) rfl ?_); refine goesL_ (some 32) rfl rfl Try.func46 (by kernel_rfl) rfl #[.slice (some ad177) l0.length c0, .int .i64 (wrap64 (a1 + 1)), .int .i64 2] rfl (by (try simp only [List.map_toArray, List.map_cons, List.map_nil]); first | done | rfl | (simp only [List.length_drop, List.length_take]; rfl)) ?_; (with_reducible refine (impl_GetNum.calls kj2 _ _ l0 (wrap64 (a1 + 1)) 2 t178 t179 _ ?side1 ?side2 A9.out).mono ?_); (case side1 => repeat (first | exact (Kd.C_below HR0.out HB.out) | (with_reducible refine Kd.C_alloc ?_ _) | (with_reducible refine Kd.C_drewN ?_ _) | (with_reducible refine Kd.C_drew ?_))); (case side2 => exact HC0.out); rintro e w' ⟨rfl, ⟨nd, rfl⟩⟩; refine ⟨_, rfl, ?_⟩))
            (try simp only [Act.put, List.setIfInBounds_toArray, List.set_cons_zero, List.set_cons_succ])
            go_cut [40] (fun v40 wc => ∃ (kq : Nat) (x40_9 : Bool), v40 = .bool x40_9 ∧ Aside0 (impl_FrameAt.j1 kq l0 a1 (wrap64 (rd l0 a1)) t178 x40_9 = some (r1, r2, r3, r4)) ∧ Aside0 (kq ≤ kj2) ∧ Aside0 (Below w.heap.size w wc))
            case first =>
              have H := HC10.out
              clear HC10
              by_cases c11 : (wrap64 (rd l0 a1)) = 0
              · rw [if_pos c11] at H
                have c11b0 : ((wrap64 (rd l0 a1)) == 0) = true := beq_iff_eq.mpr c11
                have c11b1 : ((wrap64 (rd l0 a1)) != 0) = false := bne_eq_false_iff_eq.mpr c11
                clear c11
                (first | rw [c11b0] | (simp only [i64_w, i32_w]; rw [c11b0]) | skip)
                have H' := Aside0.mk H
                clear H
                go_wp2
                go_meet
                case rel => exact ⟨_, (true), (by first | rfl | (simp; done) | (simp [*]; done)), H', ⟨by have := HJ2.out; first | omega | exact Nat.le_refl _⟩, ⟨by repeat (first | (with_reducible first | exact HB.out | apply below_alloc | apply pw_below_drewN | apply below_drew1) | exact HB.out)⟩⟩
              · rw [if_neg c11] at H
                have c11b0 : ((wrap64 (rd l0 a1)) == 0) = false := beq_eq_false_iff_ne.mpr c11
                have c11b1 : ((wrap64 (rd l0 a1)) != 0) = true := bne_iff_ne.mpr c11
                (first | rw [c11b0] | (simp only [i64_w, i32_w]; rw [c11b0]) | skip)
                have H' := Aside0.mk H
                clear H
                go_wp2
                go_meet
                case rel => exact ⟨_, (decide (t178 > 1000)), (by first | rfl | (simp; done) | (simp [*]; done)), H', ⟨by have := HJ2.out; first | omega | exact Nat.le_refl _⟩, ⟨by repeat (first | (with_reducible first | exact HB.out | apply below_alloc | apply pw_below_drewN | apply below_drew1) | exact HB.out)⟩⟩
            case rest =>
              clear HC10
              try clear c1
              try clear p1
              try clear q1
              try clear hx1
              try clear c2
              try clear p2
              try clear c4
              try clear c4b0
              try clear c4b1
              try clear c6
              try clear p6
              try clear c7
              try clear c7b0
              try clear c8
              try clear c8b0
              try clear c11
              try clear c11b0
              try clear c11b1
              try clear hx177_0
              try clear p177
              try clear p2
              try clear q177
              obtain ⟨kq, x40_9, rfl, HA, HJ9, HB⟩ := hcut
              cases kq with
              | zero => exact absurd HA.out (by simp [impl_FrameAt.j1])
              | succ kj9 =>
                have H := HA.out
                clear HA
                simp only [impl_FrameAt.j1] at H
                by_cases c12 : x40_9 = true
                · subst c12
                  have H1 : (some (0, ([] : List Int), 0, 2)) = some (r1, r2, r3, r4) := by rw [if_pos rfl] at H; exact H
                  clear H
                  have H := H1
                  clear H1
                  simp only [Option.some.injEq, Prod.mk.injEq] at H
                  obtain ⟨rfl, rfl, rfl, rfl⟩ := H
                  go_wp2
                  refine bodyPost_ret (results_list (rs := [.tmp 4, .tmp 5, .tmp 6, .tmp 7]) rfl (by simp) (.tmp (.tmp (.tmp (.tmp .nil))))) rfl ?_
                  exact ⟨_, by first | rfl | (simp [errW_none, errW_some] <;> rfl) | (simp [*, errW_none, errW_some] <;> rfl), by first | exact Kd.R_nil _ _ _ _ _ | exact Kd.N_nil _ _ _ _ _ | exact Kd.V_nil _ _ _ _ _ | exact Kd.Q_nil _ _ _ _ _ | exact Kd.S_nil _ _ _ _ _, by repeat (first | (with_reducible first | exact HB.out | apply below_alloc | apply pw_below_drewN | apply below_drew1) | exact HB.out)⟩
                · replace c12 := Bool.eq_false_iff.mpr c12
                  subst c12
                  have H1 : ((impl_GetNum.f kj9 l0 (wrap64 ((wrap64 (a1 + 3)) + t178)) 4).bind fun bt180 => (if bt180.2 = true then (if 0 ≤ a1 then (if a1 ≤ (wrap64 ((wrap64 (a1 + 3)) + t178)) then (if (wrap64 ((wrap64 (a1 + 3)) + t178)) ≤ (l0.length : Int) then ((impl_Crc.f ((l0.take ((wrap64 ((wrap64 (a1 + 3)) + t178)) : Int).toNat).drop (a1 : Int).toNat)).bind fun t183 => (if bt180.1 = t183 then (if 0 ≤ (wrap64 (a1 + 3)) then (if (wrap64 (a1 + 3)) ≤ (wrap64 ((wrap64 (a1 + 3)) + t178)) then ((slices_Clone_byte_byte.f ((l0.take ((wrap64 ((wrap64 (a1 + 3)) + t178)) : Int).toNat).drop ((wrap64 (a1 + 3)) : Int).toNat)).bind fun t185 => (some ((wrap64 (rd l0 a1)), t185, wrap64 ((wrap64 ((wrap64 (a1 + 3)) + t178)) + 4), 0))) else (none)) else (none)) else (some (0, ([] : List Int), 0, 3)))) else (none)) else (none)) else (none)) else (some (0, ([] : List Int), 0, 1)))) = some (r1, r2, r3, r4) := by rw [if_neg (show ¬ (false = true) by decide)] at H; exact H
                  clear H
                  have H := H1
                  clear H1
                  replace H := Option.bind_eq_some_iff.mp H
                  obtain ⟨⟨t180, t181⟩, A130, H⟩ := H
                  replace H : (if t181 = true then (if 0 ≤ a1 then (if a1 ≤ (wrap64 ((wrap64 (a1 + 3)) + t178)) then (if (wrap64 ((wrap64 (a1 + 3)) + t178)) ≤ (l0.length : Int) then ((impl_Crc.f ((l0.take ((wrap64 ((wrap64 (a1 + 3)) + t178)) : Int).toNat).drop (a1 : Int).toNat)).bind fun t183 => (if t180 = t183 then (if 0 ≤ (wrap64 (a1 + 3)) then (if (wrap64 (a1 + 3)) ≤ (wrap64 ((wrap64 (a1 + 3)) + t178)) then ((slices_Clone_byte_byte.f ((l0.take ((wrap64 ((wrap64 (a1 + 3)) + t178)) : Int).toNat).drop ((wrap64 (a1 + 3)) : Int).toNat)).bind fun t185 => (some ((wrap64 (rd l0 a1)), t185, wrap64 ((wrap64 ((wrap64 (a1 + 3)) + t178)) + 4), 0))) else (none)) else (none)) else (some (0, ([] : List Int), 0, 3)))) else (none)) else (none)) else (none)) else (some (0, ([] : List Int), 0, 1))) = some (r1, r2, r3, r4) := H
                  have A13 := Aside0.mk A130
                  clear A130
                  by_cases c14 : t181 = true
                  · subst c14
                    have H1 : (if 0 ≤ a1 then (if a1 ≤ (wrap64 ((wrap64 (a1 + 3)) + t178)) then (if (wrap64 ((wrap64 (a1 + 3)) + t178)) ≤ (l0.length : Int) then ((impl_Crc.f ((l0.take ((wrap64 ((wrap64 (a1 + 3)) + t178)) : Int).toNat).drop (a1 : Int).toNat)).bind fun t183 => (if t180 = t183 then (if 0 ≤ (wrap64 (a1 + 3)) then (if (wrap64 (a1 + 3)) ≤ (wrap64 ((wrap64 (a1 + 3)) + t178)) then ((slices_Clone_byte_byte.f ((l0.take ((wrap64 ((wrap64 (a1 + 3)) + t178)) : Int).toNat).drop ((wrap64 (a1 + 3)) : Int).toNat)).bind fun t185 => (some ((wrap64 (rd l0 a1)), t185, wrap64 ((wrap64 ((wrap64 (a1 + 3)) + t178)) + 4), 0))) else (none)) else (none)) else (some (0, ([] : List Int), 0, 3)))) else (none)) else (none)) else (none)) = some (r1, r2, r3, r4) := by rw [if_pos rfl] at H; exact H
                    clear H
                    have H := H1
                    clear H1
                    by_cases c15 : 0 ≤ a1
                    · rw [if_pos c15] at H
                      have c15b0 := eq_true c15
                      have c15b1 : decide (0 ≤ a1) = true := decide_eq_true c15
                      clear c15
                      by_cases c16 : a1 ≤ (wrap64 ((wrap64 (a1 + 3)) + t178))
                      · rw [if_pos c16] at H
                        have c16b0 := eq_true c16
                        have c16b1 : decide (a1 ≤ (wrap64 ((wrap64 (a1 + 3)) + t178))) = true := decide_eq_true c16
                        by_cases c17 : (wrap64 ((wrap64 (a1 + 3)) + t178)) ≤ (l0.length : Int)
                        · rw [if_pos c17] at H
                          have c17b0 := eq_true c17
                          have c17b1 : decide ((wrap64 ((wrap64 (a1 + 3)) + t178)) ≤ (l0.length : Int)) = true := decide_eq_true c17
                          replace H := Option.bind_eq_some_iff.mp H
                          obtain ⟨t183, A180, H⟩ := H
                          replace H : (if t180 = t183 then (if 0 ≤ (wrap64 (a1 + 3)) then (if (wrap64 (a1 + 3)) ≤ (wrap64 ((wrap64 (a1 + 3)) + t178)) then ((slices_Clone_byte_byte.f ((l0.take ((wrap64 ((wrap64 (a1 + 3)) + t178)) : Int).toNat).drop ((wrap64 (a1 + 3)) : Int).toNat)).bind fun t185 => (some ((wrap64 (rd l0 a1)), t185, wrap64 ((wrap64 ((wrap64 (a1 + 3)) + t178)) + 4), 0))) else (none)) else (none)) else (some (0, ([] : List Int), 0, 3))) = some (r1, r2, r3, r4) := H
                          have A18 := Aside0.mk A180
                          clear A180
                          by_cases c19 : t180 = t183
                          · rw [if_pos c19] at H
                            have c19b0 : (t180 == t183) = true := beq_iff_eq.mpr c19
                            have c19b1 : (t180 != t183) = false := bne_eq_false_iff_eq.mpr c19
                            clear c19
                            obtain ⟨ji20, hji20⟩ : ∃ j_ : Int, (wrap64 (a1 + 3)) = j_ := ⟨_, rfl⟩
                            replace H : (if 0 ≤ (ji20) then (if (ji20) ≤ (wrap64 ((ji20) + t178)) then ((slices_Clone_byte_byte.f ((l0.take ((wrap64 ((ji20) + t178)) : Int).toNat).drop ((ji20) : Int).toNat)).bind fun t185 => (some ((wrap64 (rd l0 a1)), t185, wrap64 ((wrap64 ((ji20) + t178)) + 4), 0))) else (none)) else (none)) = some (r1, r2, r3, r4) := by first | (rw [hji20] at H; exact H) | (simp only [hji20] at H ⊢; exact H)
                            (try rw [hji20] at c16b0)
                            (try rw [hji20] at c16b1)
                            (try rw [hji20] at c16)
                            (try rw [hji20] at c17b0)
                            (try rw [hji20] at c17b1)
                            (try rw [hji20] at c17)
                            (try rw [hji20] at A13)
                            (try rw [hji20] at A18)
                            have hji20w : (IntKind.i64.wrap (a1 + 3)) = ji20 := (i64_w _).trans hji20
                            by_cases c21 : 0 ≤ (ji20)
                            · rw [if_pos c21] at H
                              have c21b0 := eq_true c21
                              have c21b1 : decide (0 ≤ (ji20)) = true := decide_eq_true c21
                              clear c21
                              by_cases c22 : (ji20) ≤ (wrap64 ((ji20) + t178))
                              · rw [if_pos c22] at H
                                have c22b0 := eq_true c22
                                have c22b1 : decide ((ji20) ≤ (wrap64 ((ji20) + t178))) = true := decide_eq_true c22
                                have c23b0 := eq_true (of_decide_eq_true (by first | (with_reducible assumption) | assumption) : (wrap64 ((ji20) + t178)) ≤ (l0.length : Int))
                                replace H := Option.bind_eq_some_iff.mp H
                                obtain ⟨t185, A240, H⟩ := H
                                replace H : (some ((wrap64 (rd l0 a1)), t185, wrap64 ((wrap64 ((ji20) + t178)) + 4), 0)) = some (r1, r2, r3, r4) := H
                                have A24 := Aside0.mk A240
                                clear A240
                                simp only [Option.some.injEq, Prod.mk.injEq] at H
                                obtain ⟨rfl, rfl, rfl, rfl⟩ := H
                                go_wp2_with (first | ((with_reducible refine gate_callee (f := 46) rfl ?_); refine goesL_ (some 48) rfl rfl Try.func46 (by kernel_rfl) rfl #[.slice (some ad177) l0.length c0, .int .i64 (wrap64 ((ji20) + t178)), .int .i64 4] rfl (by (try simp only [List.map_toArray, List.map_cons, List.map_nil]); first | done | (simp only [hji20]; rfl) | rfl | (simp only [List.length_drop, List.length_take]; rfl)) ?_; (with_reducible refine (impl_GetNum.calls kj9 _ _ l0 (wrap64 ((ji20) + t178)) 4 t180 true _ ?side1 ?side2 A13.out).mono ?_); (case side1 => repeat (first | exact (Kd.C_below HR0.out HB.out) | (with_reducible refine Kd.C_alloc ?_ _) | (with_reducible refine Kd.C_drewN ?_ _) | (with_reducible refine Kd.C_drew ?_))); (case side2 => exact HC0.out); rintro e w' ⟨rfl, ⟨nd, rfl⟩⟩; refine ⟨_, rfl, ?_⟩; obtain ⟨i025, hi025, _, hsz25, _⟩ := info_parts info5; obtain ⟨A25, hcut25, hA25, hC25⟩ := print_mid_of (P := Try.prog) (Value.int .u8) 0 22 5 .i64 .i64 Try.underlying22 hi025 hsz25 (some ad177) c0 l0 a1 (wrap64 ((ji20) + t178)) (of_decide_eq_true (by first | (with_reducible assumption) | assumption)) (by first | omega | exact of_decide_eq_true (by first | (with_reducible assumption) | assumption)) (of_decide_eq_true (by first | (with_reducible assumption) | assumption)) HC0.out; have HR182 := Aside0.mk (Kd.C_of_reads (h1 := fun _ => rfl) (hA25 _ (Kd.reads_of_C HR0.out))); have HC182 := Aside0.mk hC25; clear hA25 hC25 hi025 hsz25) | ((with_reducible refine gate_callee (f := 13) rfl ?_); refine goesL_ (some 60) rfl rfl Try.func13 (by kernel_rfl) rfl #[.slice A25 ((l0.take ((wrap64 ((ji20) + t178)) : Int).toNat).drop (a1 : Int).toNat).length (c0 - a1.toNat)] rfl (by (try simp only [List.map_toArray, List.map_cons, List.map_nil]); first | done | (rw [show ((l0.take ((wrap64 ((ji20) + t178)) : Int).toNat).drop (a1 : Int).toNat).length = ((wrap64 ((ji20) + t178)).toNat - a1.toNat) from (by rw [List.length_drop, List.length_take]; have h_ : ((wrap64 ((ji20) + t178)) : Int) ≤ (l0.length : Int) := of_decide_eq_true (by first | (with_reducible assumption) | assumption); omega)] <;> rfl) | (simp only [hji20]; rfl) | rfl | (simp only [List.length_drop, List.length_take]; rfl)) ?_; (with_reducible refine (impl_Crc.calls _ _ ((l0.take ((wrap64 ((ji20) + t178)) : Int).toNat).drop (a1 : Int).toNat) t183 _ ?side1 ?side2 A18.out).mono ?_); (case side1 => repeat (first | exact (Kd.C_below HR182.out (by repeat (first | (with_reducible first | exact HB.out | apply below_alloc | apply pw_below_drewN | apply below_drew1) | exact HB.out))) | (with_reducible refine Kd.C_alloc ?_ _) | (with_reducible refine Kd.C_drewN ?_ _) | (with_reducible refine Kd.C_drew ?_))); (case side2 => exact HC182.out); rintro e w26 ⟨rfl, hb⟩; refine ⟨_, rfl, ?_⟩; have n0_ := Aside0.mk (below_step (by repeat (first | (with_reducible first | exact HB.out | apply below_alloc | apply pw_below_drewN | apply below_drew1) | exact HB.out)) hb); clear HB; have HB := n0_; clear n0_; (try clear hb); (try clear hb2); (try clear hk); (try clear hi); obtain ⟨i027, hi027, _, hsz27, _⟩ := info_parts info5; obtain ⟨A27, hcut27, hA27, hC27⟩ := print_mid_of (P := Try.prog) (Value.int .u8) 0 22 5 .i64 .i64 Try.underlying22 hi027 hsz27 (some ad177) c0 l0 (ji20) (wrap64 ((ji20) + t178)) (of_decide_eq_true (by first | (with_reducible assumption) | assumption)) (by first | omega | exact of_decide_eq_true (by first | (with_reducible assumption) | assumption)) (of_decide_eq_true (by first | (with_reducible assumption) | assumption)) HC0.out; have HR184 := Aside0.mk (Kd.C_of_reads (h1 := fun _ => rfl) (hA27 _ (Kd.reads_of_C HR0.out))); have HC184 := Aside0.mk hC27; clear hA27 hC27 hi027 hsz27) | ((with_reducible refine gate_callee (f := 47) rfl ?_); refine goesL_ (some 68) rfl rfl Try.func47 (by kernel_rfl) rfl #[.slice A27 ((l0.take ((wrap64 ((ji20) + t178)) : Int).toNat).drop ((ji20) : Int).toNat).length (c0 - (ji20).toNat)] rfl (by (try simp only [List.map_toArray, List.map_cons, List.map_nil]); first | done | (rw [show ((l0.take ((wrap64 ((ji20) + t178)) : Int).toNat).drop ((ji20) : Int).toNat).length = ((wrap64 ((ji20) + t178)).toNat - (ji20).toNat) from (by rw [List.length_drop, List.length_take]; have h_ : ((wrap64 ((ji20) + t178)) : Int) ≤ (l0.length : Int) := of_decide_eq_true (by first | (with_reducible assumption) | assumption); omega)] <;> rfl) | (simp only [hji20]; rfl) | rfl | (simp only [List.length_drop, List.length_take]; rfl)) ?_; (with_reducible refine (slices_Clone_byte_byte.calls _ _ ((l0.take ((wrap64 ((ji20) + t178)) : Int).toNat).drop ((ji20) : Int).toNat) t185 _ ?side1 ?side2 A24.out).mono ?_); (case side1 => repeat (first | exact (Kd.C_below HR184.out HB.out) | (with_reducible refine Kd.C_alloc ?_ _) | (with_reducible refine Kd.C_drewN ?_ _) | (with_reducible refine Kd.C_drew ?_))); (case side2 => exact HC184.out); rintro e w28 ⟨v186, rfl, ho0, hb⟩; refine ⟨_, rfl, ?_⟩; have n0_ := Aside0.mk (Kd.R_lower ho0 (below_size (by repeat (first | (with_reducible first | exact HB.out | apply below_alloc | apply pw_below_drewN | apply below_drew1) | exact HB.out)))); have n1_ := Aside0.mk (below_step (by repeat (first | (with_reducible first | exact HB.out | apply below_alloc | apply pw_below_drewN | apply below_drew1) | exact HB.out)) hb); clear HB; have HO187 := n0_; have HB := n1_; clear n0_ n1_; (try clear hb); (try clear hb2); (try clear hk); (try clear hi); (try clear ho0)))
                                refine bodyPost_ret (results_list (rs := [.tmp 4, .tmp 5, .tmp 6, .tmp 7]) rfl (by simp) (.tmp (.tmp (.tmp (.tmp .nil))))) rfl ?_
                                exact ⟨_, by first | rfl | (simp [errW_none, errW_some] <;> rfl) | (simp only [← hji20]; first | rfl | (simp [errW_none, errW_some] <;> rfl)) | (simp [*, errW_none, errW_some] <;> rfl), by (with_reducible repeat (first | apply Kd.R_alloc | apply Kd.R_drewN | apply Kd.R_drew)); exact HO187.out, by repeat (first | (with_reducible first | exact HB.out | apply below_alloc | apply pw_below_drewN | apply below_drew1) | exact HB.out)⟩
                              · rw [if_neg c22] at H
                                exact absurd H (by simp)
                            · rw [if_neg c21] at H
                              exact absurd H (by simp)
                          · rw [if_neg c19] at H
                            have c19b0 : (t180 == t183) = false := beq_eq_false_iff_ne.mpr c19
                            have c19b1 : (t180 != t183) = true := bne_iff_ne.mpr c19
                            simp only [Option.some.injEq, Prod.mk.injEq] at H
                            obtain ⟨rfl, rfl, rfl, rfl⟩ := H
                            go_wp2_with (first | ((with_reducible refine gate_callee (f := 46) rfl ?_); refine goesL_ (some 48) rfl rfl Try.func46 (by kernel_rfl) rfl #[.slice (some ad177) l0.length c0, .int .i64 (wrap64 ((wrap64 (a1 + 3)) + t178)), .int .i64 4] rfl (by (try simp only [List.map_toArray, List.map_cons, List.map_nil]); first | done | rfl | (simp only [List.length_drop, List.length_take]; rfl)) ?_; (with_reducible refine (impl_GetNum.calls kj9 _ _ l0 (wrap64 ((wrap64 (a1 + 3)) + t178)) 4 t180 true _ ?side1 ?side2 A13.out).mono ?_); (case side1 => repeat (first | exact (Kd.C_below HR0.out HB.out) | (with_reducible refine Kd.C_alloc ?_ _) | (with_reducible refine Kd.C_drewN ?_ _) | (with_reducible refine Kd.C_drew ?_))); (case side2 => exact HC0.out); rintro e w' ⟨rfl, ⟨nd, rfl⟩⟩; refine ⟨_, rfl, ?_⟩; obtain ⟨i029, hi029, _, hsz29, _⟩ := info_parts info5; obtain ⟨A29, hcut29, hA29, hC29⟩ := print_mid_of (P := Try.prog) (Value.int .u8) 0 22 5 .i64 .i64 Try.underlying22 hi029 hsz29 (some ad177) c0 l0 a1 (wrap64 ((wrap64 (a1 + 3)) + t178)) (of_decide_eq_true (by first | (with_reducible assumption) | assumption)) (by first | omega | exact of_decide_eq_true (by first | (with_reducible assumption) | assumption)) (of_decide_eq_true (by first | (with_reducible assumption) | assumption)) HC0.out; have HR182 := Aside0.mk (Kd.C_of_reads (h1 := fun _ => rfl) (hA29 _ (Kd.reads_of_C HR0.out))); have HC182 := Aside0.mk hC29; clear hA29 hC29 hi029 hsz29) | ((with_reducible refine gate_callee (f := 13) rfl ?_); refine goesL_ (some 60) rfl rfl Try.func13 (by kernel_rfl) rfl #[.slice A29 ((l0.take ((wrap64 ((wrap64 (a1 + 3)) + t178)) : Int).toNat).drop (a1 : Int).toNat).length (c0 - a1.toNat)] rfl (by (try simp only [List.map_toArray, List.map_cons, List.map_nil]); first | done | (rw [show ((l0.take ((wrap64 ((wrap64 (a1 + 3)) + t178)) : Int).toNat).drop (a1 : Int).toNat).length = ((wrap64 ((wrap64 (a1 + 3)) + t178)).toNat - a1.toNat) from (by rw [List.length_drop, List.length_take]; have h_ : ((wrap64 ((wrap64 (a1 + 3)) + t178)) : Int) ≤ (l0.length : Int) := of_decide_eq_true (by first | (with_reducible assumption) | assumption); omega)] <;> rfl) | rfl | (simp only [List.length_drop, List.length_take]; rfl)) ?_; (with_reducible refine (impl_Crc.calls _ _ ((l0.take ((wrap64 ((wrap64 (a1 + 3)) + t178)) : Int).toNat).drop (a1 : Int).toNat) t183 _ ?side1 ?side2 A18.out).mono ?_); (case side1 => repeat (first | exact (Kd.C_below HR182.out (by repeat (first | (with_reducible first | exact HB.out | apply below_alloc | apply pw_below_drewN | apply below_drew1) | exact HB.out))) | (with_reducible refine Kd.C_alloc ?_ _) | (with_reducible refine Kd.C_drewN ?_ _) | (with_reducible refine Kd.C_drew ?_))); (case side2 => exact HC182.out); rintro e w30 ⟨rfl, hb⟩; refine ⟨_, rfl, ?_⟩; have n0_ := Aside0.mk (below_step (by repeat (first | (with_reducible first | exact HB.out | apply below_alloc | apply pw_below_drewN | apply below_drew1) | exact HB.out)) hb); clear HB; have HB := n0_; clear n0_; (try clear hb); (try clear hb2); (try clear hk); (try clear hi)))
                            refine bodyPost_ret (results_list (rs := [.tmp 4, .tmp 5, .tmp 6, .tmp 7]) rfl (by simp) (.tmp (.tmp (.tmp (.tmp .nil))))) rfl ?_
                            exact ⟨_, by first | rfl | (simp [errW_none, errW_some] <;> rfl) | (simp [*, errW_none, errW_some] <;> rfl), by first | exact Kd.R_nil _ _ _ _ _ | exact Kd.N_nil _ _ _ _ _ | exact Kd.V_nil _ _ _ _ _ | exact Kd.Q_nil _ _ _ _ _ | exact Kd.S_nil _ _ _ _ _, by repeat (first | (with_reducible first | exact HB.out | apply below_alloc | apply pw_below_drewN | apply below_drew1) | exact HB.out)⟩
                        · rw [if_neg c17] at H
                          exact absurd H (by simp)
                      · rw [if_neg c16] at H
                        exact absurd H (by simp)
                    · rw [if_neg c15] at H
                      exact absurd H (by simp)
                  · replace c14 := Bool.eq_false_iff.mpr c14
                    subst c14
                    have H1 : (some (0, ([] : List Int), 0, 1)) = some (r1, r2, r3, r4) := by rw [if_neg (show ¬ (false = true) by decide)] at H; exact H
                    clear H
                    have H := H1
                    clear H1
                    simp only [Option.some.injEq, Prod.mk.injEq] at H
                    obtain ⟨rfl, rfl, rfl, rfl⟩ := H
                    go_wp2_with (first | ((with_reducible refine gate_callee (f := 46) rfl ?_); refine goesL_ (some 48) rfl rfl Try.func46 (by kernel_rfl) rfl #[.slice (some ad177) l0.length c0, .int .i64 (wrap64 ((wrap64 (a1 + 3)) + t178)), .int .i64 4] rfl (by (try simp only [List.map_toArray, List.map_cons, List.map_nil]); first | done | rfl | (simp only [List.length_drop, List.length_take]; rfl)) ?_; (with_reducible refine (impl_GetNum.calls kj9 _ _ l0 (wrap64 ((wrap64 (a1 + 3)) + t178)) 4 t180 false _ ?side1 ?side2 A13.out).mono ?_); (case side1 => repeat (first | exact (Kd.C_below HR0.out HB.out) | (with_reducible refine Kd.C_alloc ?_ _) | (with_reducible refine Kd.C_drewN ?_ _) | (with_reducible refine Kd.C_drew ?_))); (case side2 => exact HC0.out); rintro e w' ⟨rfl, ⟨nd, rfl⟩⟩; refine ⟨_, rfl, ?_⟩))
                    refine bodyPost_ret (results_list (rs := [.tmp 4, .tmp 5, .tmp 6, .tmp 7]) rfl (by simp) (.tmp (.tmp (.tmp (.tmp .nil))))) rfl ?_
                    exact ⟨_, by first | rfl | (simp [errW_none, errW_some] <;> rfl) | (simp [*, errW_none, errW_some] <;> rfl), by first | exact Kd.R_nil _ _ _ _ _ | exact Kd.N_nil _ _ _ _ _ | exact Kd.V_nil _ _ _ _ _ | exact Kd.Q_nil _ _ _ _ _ | exact Kd.S_nil _ _ _ _ _, by repeat (first | (with_reducible first | exact HB.out | apply below_alloc | apply pw_below_drewN | apply below_drew1) | exact HB.out)⟩
          · rw [if_neg c8] at H
            exact absurd H (by simp)
        · rw [if_neg c7] at H
          exact absurd H (by simp)

/-! ### impl_isLsn: function 50 -/
def impl_isLsn.f (a0 : Int) : Option (Bool) := (impl_within.f a0 1 1000000).bind fun t188 => (some t188)
set_option maxHeartbeats 8000000 in
set_option maxRecDepth 100000 in
theorem impl_isLsn.calls (a0 : Int) (r : Bool) (w : World) (h : impl_isLsn.f a0 = some r) :
    Calls Try.prog 50 #[.int .i64 a0] w fun e w' => e = .returned (.bool r) ∧ Drawn0 w w' := by
  have H : ((impl_within.f a0 1 1000000).bind fun t188 => (some t188)) = some r := h
  clear h
  replace H := Option.bind_eq_some_iff.mp H
  obtain ⟨t188, A20, H⟩ := H
  replace H : (some t188) = some r := H
  have A2 := Aside0.mk A20
  clear A20
  obtain rfl := Option.some.inj H
  go_enter Try.func50, Try.ntmps50
  go_wp2_with (first | ((with_reducible refine gate_callee (f := 42) rfl ?_); refine goesL_ (some 4) rfl rfl Try.func42 (by kernel_rfl) rfl #[.int .i64 a0, .int .i64 1, .int .i64 1000000] rfl (by (try simp only [List.map_toArray, List.map_cons, List.map_nil]); first | done | rfl | (simp only [List.length_drop, List.length_take]; rfl)) ?_; (with_reducible refine (impl_within.calls a0 1 1000000 t188 _ A2.out).mono ?_); rintro e w' ⟨rfl, ⟨nd, rfl⟩⟩; refine ⟨_, rfl, ?_⟩))
  go_ret
  exact ⟨by first | rfl | (simp; done) | (simp [*]; done), by repeat (first | exact Drawn0.refl _ | apply Drawn0.step)⟩

/-! ### impl_isPage: function 51 -/
def impl_isPage.f (a0 : Int) : Option (Bool) := (impl_within.f a0 0 15).bind fun t189 => (some t189)
set_option maxHeartbeats 8000000 in
set_option maxRecDepth 100000 in
theorem impl_isPage.calls (a0 : Int) (r : Bool) (w : World) (h : impl_isPage.f a0 = some r) :
    Calls Try.prog 51 #[.int .i64 a0] w fun e w' => e = .returned (.bool r) ∧ Drawn0 w w' := by
  have H : ((impl_within.f a0 0 15).bind fun t189 => (some t189)) = some r := h
  clear h
  replace H := Option.bind_eq_some_iff.mp H
  obtain ⟨t189, A20, H⟩ := H
  replace H : (some t189) = some r := H
  have A2 := Aside0.mk A20
  clear A20
  obtain rfl := Option.some.inj H
  go_enter Try.func51, Try.ntmps51
  go_wp2_with (first | ((with_reducible refine gate_callee (f := 42) rfl ?_); refine goesL_ (some 4) rfl rfl Try.func42 (by kernel_rfl) rfl #[.int .i64 a0, .int .i64 0, .int .i64 15] rfl (by (try simp only [List.map_toArray, List.map_cons, List.map_nil]); first | done | rfl | (simp only [List.length_drop, List.length_take]; rfl)) ?_; (with_reducible refine (impl_within.calls a0 0 15 t189 _ A2.out).mono ?_); rintro e w' ⟨rfl, ⟨nd, rfl⟩⟩; refine ⟨_, rfl, ?_⟩))
  go_ret
  exact ⟨by first | rfl | (simp; done) | (simp [*]; done), by repeat (first | exact Drawn0.refl _ | apply Drawn0.step)⟩

/-! ### impl_isSlot: function 52 -/
def impl_isSlot.f (a0 : Int) : Option (Bool) := (impl_within.f a0 0 15).bind fun t190 => (some t190)
set_option maxHeartbeats 8000000 in
set_option maxRecDepth 100000 in
theorem impl_isSlot.calls (a0 : Int) (r : Bool) (w : World) (h : impl_isSlot.f a0 = some r) :
    Calls Try.prog 52 #[.int .i64 a0] w fun e w' => e = .returned (.bool r) ∧ Drawn0 w w' := by
  have H : ((impl_within.f a0 0 15).bind fun t190 => (some t190)) = some r := h
  clear h
  replace H := Option.bind_eq_some_iff.mp H
  obtain ⟨t190, A20, H⟩ := H
  replace H : (some t190) = some r := H
  have A2 := Aside0.mk A20
  clear A20
  obtain rfl := Option.some.inj H
  go_enter Try.func52, Try.ntmps52
  go_wp2_with (first | ((with_reducible refine gate_callee (f := 42) rfl ?_); refine goesL_ (some 4) rfl rfl Try.func42 (by kernel_rfl) rfl #[.int .i64 a0, .int .i64 0, .int .i64 15] rfl (by (try simp only [List.map_toArray, List.map_cons, List.map_nil]); first | done | rfl | (simp only [List.length_drop, List.length_take]; rfl)) ?_; (with_reducible refine (impl_within.calls a0 0 15 t190 _ A2.out).mono ?_); rintro e w' ⟨rfl, ⟨nd, rfl⟩⟩; refine ⟨_, rfl, ?_⟩))
  go_ret
  exact ⟨by first | rfl | (simp; done) | (simp [*]; done), by repeat (first | exact Drawn0.refl _ | apply Drawn0.step)⟩

/-! ### impl_isXid: function 53 -/
def impl_isXid.f (a0 : Int) : Option (Bool) := (impl_within.f a0 1 400).bind fun t191 => (some t191)
set_option maxHeartbeats 8000000 in
set_option maxRecDepth 100000 in
theorem impl_isXid.calls (a0 : Int) (r : Bool) (w : World) (h : impl_isXid.f a0 = some r) :
    Calls Try.prog 53 #[.int .i64 a0] w fun e w' => e = .returned (.bool r) ∧ Drawn0 w w' := by
  have H : ((impl_within.f a0 1 400).bind fun t191 => (some t191)) = some r := h
  clear h
  replace H := Option.bind_eq_some_iff.mp H
  obtain ⟨t191, A20, H⟩ := H
  replace H : (some t191) = some r := H
  have A2 := Aside0.mk A20
  clear A20
  obtain rfl := Option.some.inj H
  go_enter Try.func53, Try.ntmps53
  go_wp2_with (first | ((with_reducible refine gate_callee (f := 42) rfl ?_); refine goesL_ (some 4) rfl rfl Try.func42 (by kernel_rfl) rfl #[.int .i64 a0, .int .i64 1, .int .i64 400] rfl (by (try simp only [List.map_toArray, List.map_cons, List.map_nil]); first | done | rfl | (simp only [List.length_drop, List.length_take]; rfl)) ?_; (with_reducible refine (impl_within.calls a0 1 400 t191 _ A2.out).mono ?_); rintro e w' ⟨rfl, ⟨nd, rfl⟩⟩; refine ⟨_, rfl, ?_⟩))
  go_ret
  exact ⟨by first | rfl | (simp; done) | (simp [*]; done), by repeat (first | exact Drawn0.refl _ | apply Drawn0.step)⟩

end Go.Proofs.Ytkbclccnnllddaa.PFnExactRecordAt
