import Derived.Test.YtjjkhlphdbmdfaaZFnTuples30
import Derived.Test.YtjjkhlphdbmdfaaZFnTuples31
import Derived.Test.YtjjkhlphdbmdfaaZFnTuples32
namespace Go.Proofs.Ytjjkhlphdbmdfaa.PFnTuples
open Go.RowKit Go.Proofs.YtjjkhlphdbmdfaaW.PrintWords Go.Proofs.YtjjkhlphdbmdfaaW.PrintLast Go.Proofs.YtjjkhlphdbmdfaaW.PrintMore
attribute [local go_sem] max2_int min2_int max_two min_two max_three min_three max_four min_four   -- for this text's walks alone
attribute [local go_sem high] fl_eql fl_neq fl_lss fl_leq fl_gtr fl_geq fl_add fl_sub fl_mul fl_quo fl_neg fl_ofInt fl_toInt fl_store sub_sign ext_bits ext_from fl_nan_quo fl_nan_add fl_nan_mul fl_nan_sub
open Go.Proofs.YtjjkhlphdbmdfaaW.PrintWords renaming below_alloc → h1, pw_below_drewN → h2, below_drew1 → h3, below_set → h4, blk_drewN → b1, blk_drew → b2, blk_alloc → b3
set_option linter.unusedVariables false
set_option linter.unusedSimpArgs false
def impl_FloatOf.f (a0 : Int) : Option (Nat) := some ((a0 : Int).toNat)
set_option maxHeartbeats 8000000 in
set_option maxRecDepth 100000 in
theorem impl_FloatOf.calls (a0 : Int) (r : Nat) (w : World) (h : impl_FloatOf.f a0 = some r) :
    Calls Try.prog 49 #[.int .u64 a0] w fun e w' => e = .returned (.float .f64 r) ∧ Drawn0 w w' := by
  have H := h
  clear h
  unfold impl_FloatOf.f at H
  obtain rfl := Option.some.inj H
  go_enter Try.func49, Try.ntmps49
  go_wp2
  go_ret
  exact ⟨by first | rfl | (simp; done) | (simp [*]; done), by repeat (first | exact Drawn0.refl _ | apply Drawn0.step)⟩
def math_NaN.f  : Option (Nat) := some ((9221120237041090561 : Int).toNat)
set_option maxHeartbeats 8000000 in
set_option maxRecDepth 100000 in
theorem math_NaN.calls  (r : Nat) (w : World) (h : math_NaN.f  = some r) :
    Calls Try.prog 86 #[] w fun e w' => e = .returned (.float .f64 r) ∧ Drawn0 w w' := by
  have H := h
  clear h
  unfold math_NaN.f at H
  obtain rfl := Option.some.inj H
  go_enter Try.func86, Try.ntmps86
  go_wp2
  go_ret
  exact ⟨by first | rfl | (simp; done) | (simp [*]; done), by repeat (first | exact Drawn0.refl _ | apply Drawn0.step)⟩
def impl_FloatUnrank.j0 : Nat → Int → Int → Option (Nat × Bool)
  | 0, _, _ => none
  | k + 1, x0, x4 => if x0 = 18446744073709551615 then ((math_NaN.f).bind fun t186 => (some (t186, true))) else (if ((feq ((x4 : Int).toNat) ((x4 : Int).toNat)) = true) then ((impl_FloatRank.f ((x4 : Int).toNat)).bind fun t187 => (if t187 = x0 then (some ((x4 : Int).toNat, true)) else (some (0, false)))) else (some (0, false)))
def impl_FloatUnrank.f (k : Nat) (a0 : Int) : Option (Nat × Bool) := if a0 < 9223372036854775808 then (impl_FloatUnrank.j0 k a0 (Go.bits .xor .u64 IntKind.u64.max a0)) else (impl_FloatUnrank.j0 k a0 (Go.bits .andNot .u64 a0 9223372036854775808))
theorem impl_FloatUnrank.mono_l : ∀ k, (∀ y0 y1, LeO (impl_FloatUnrank.j0 k y0 y1) (impl_FloatUnrank.j0 (k + 1) y0 y1))
  | 0 => fun _ _ r h => by simp [impl_FloatUnrank.j0] at h
  | k + 1 => by
    have ih0 := impl_FloatUnrank.mono_l k
    · intro y0 y1
      unfold impl_FloatUnrank.j0
      repeat' with_reducible first | exact ih0 _ _ | exact LeO.refl _ | exact LeO.none _ | refine LeO.ite ?_ ?_ | refine LeO.bind ?_ (fun _ => ?_)
theorem impl_FloatUnrank.mono : ∀ a0 k, LeO (impl_FloatUnrank.f k a0) (impl_FloatUnrank.f (k + 1) a0) := by
  intro a0 k
  have ih0 := impl_FloatUnrank.mono_l k
  unfold impl_FloatUnrank.f
  repeat' with_reducible first | exact ih0 _ _ | exact LeO.refl _ | exact LeO.none _ | refine LeO.ite ?_ ?_ | refine LeO.bind ?_ (fun _ => ?_)
set_option maxHeartbeats 8000000 in
set_option maxRecDepth 100000 in
theorem impl_FloatUnrank.calls (k : Nat) (a0 : Int) (r1 : Nat) (r2 : Bool) (w : World) (h : impl_FloatUnrank.f k a0 = some (r1, r2)) :
    Calls Try.prog 56 #[.int .u64 a0] w fun e w' => e = .returned (.tuple #[.float .f64 r1, .bool r2]) ∧ Drawn0 w w' := by
  have H := h
  clear h
  unfold impl_FloatUnrank.f at H
  have HC2 := Aside0.mk H
  clear H
  go_enter Try.func56, Try.ntmps56
  go_upto_if 9 with (fail)
  go_cut [4] (fun v4 wc => ∃ (kq : Nat) (x4_1 : Int), v4 = .int .u64 x4_1 ∧ Aside0 (impl_FloatUnrank.j0 kq a0 x4_1 = some (r1, r2)) ∧ Aside0 (kq ≤ k) ∧ Drawn0 w wc)
  case first =>
    have H := HC2.out
    clear HC2
    by_cases c3 : a0 < 9223372036854775808
    · rw [if_pos c3] at H
      have c3b0 : decide (a0 < 9223372036854775808) = true := decide_eq_true c3
      clear c3
      (first | rw [c3b0] | (simp only [i64_w, i32_w]; rw [c3b0]) | skip)
      have H' := Aside0.mk H
      clear H
      go_wp2
      go_meet
      case rel => exact ⟨_, (Go.bits .xor .u64 IntKind.u64.max a0), (by first | rfl | (simp; done) | (simp [*]; done)), H', ⟨by first | omega | exact Nat.le_refl _⟩, by repeat (first | exact Drawn0.refl _ | apply Drawn0.step)⟩
    · rw [if_neg c3] at H
      have c3b0 : decide (a0 < 9223372036854775808) = false := decide_eq_false c3
      clear c3
      (first | rw [c3b0] | (simp only [i64_w, i32_w]; rw [c3b0]) | skip)
      have H' := Aside0.mk H
      clear H
      go_wp2
      go_meet
      case rel => exact ⟨_, (Go.bits .andNot .u64 a0 9223372036854775808), (by first | rfl | (simp; done) | (simp [*]; done)), H', ⟨by first | omega | exact Nat.le_refl _⟩, by repeat (first | exact Drawn0.refl _ | apply Drawn0.step)⟩
  case rest =>
    clear HC2
    try clear p2
    try clear c3
    try clear c3b0
    obtain ⟨kq, x4_1, rfl, HA, HJ1, ⟨mc1, rfl⟩⟩ := hcut
    cases kq with
    | zero => exact absurd HA.out (by simp [impl_FloatUnrank.j0])
    | succ kj1 =>
      have H := HA.out
      clear HA
      simp only [impl_FloatUnrank.j0] at H
      by_cases c4 : a0 = 18446744073709551615
      · rw [if_pos c4] at H
        have c4b0 : (a0 == 18446744073709551615) = true := beq_iff_eq.mpr c4
        have c4b1 : (a0 != 18446744073709551615) = false := bne_eq_false_iff_eq.mpr c4
        clear c4
        replace H := Option.bind_eq_some_iff.mp H
        obtain ⟨t186, A50, H⟩ := H
        (try dsimp only at H)
        have A5 := Aside0.mk A50
        clear A50
        simp only [Option.some.injEq, Prod.mk.injEq] at H
        obtain ⟨rfl, rfl⟩ := H
        go_wp2_with (first | ((with_reducible refine gate_callee (f := 86) rfl ?_); refine goesL_ (some 17) rfl rfl Try.func86 (by kernel_rfl) rfl #[] rfl (by (try simp only [List.map_toArray, List.map_cons, List.map_nil]); first | done | rfl) ?_; (with_reducible refine (math_NaN.calls  t186 _ A5.out).mono ?_); rintro e w' ⟨rfl, ⟨nd, rfl⟩⟩; refine ⟨_, rfl, ?_⟩))
        go_ret2
        exact ⟨by first | rfl | (simp; done) | (simp [*]; done), by repeat (first | exact Drawn0.refl _ | apply Drawn0.step)⟩
      · rw [if_neg c4] at H
        have c4b0 : (a0 == 18446744073709551615) = false := beq_eq_false_iff_ne.mpr c4
        have c4b1 : (a0 != 18446744073709551615) = true := bne_iff_ne.mpr c4
        by_cases c6 : ((feq ((x4_1 : Int).toNat) ((x4_1 : Int).toNat)) = true)
        · rw [if_pos c6] at H
          have c6b0 : (feq ((x4_1 : Int).toNat) ((x4_1 : Int).toNat)) = true := c6
          clear c6
          replace H := Option.bind_eq_some_iff.mp H
          obtain ⟨t187, A70, H⟩ := H
          (try dsimp only at H)
          have A7 := Aside0.mk A70
          clear A70
          try go_wp2_with (fail)
          go_at_call 65; (with_reducible refine (impl_FloatRank.calls ((x4_1 : Int).toNat) t187 _ A7.out).mono ?_); rintro e w' ⟨rfl, ⟨nd, rfl⟩⟩
          by_cases c8 : t187 = a0
          · rw [if_pos c8] at H
            have c8b0 : (t187 == a0) = true := beq_iff_eq.mpr c8
            have c8b1 : (t187 != a0) = false := bne_eq_false_iff_eq.mpr c8
            (try simp only [c8b0, c8b1, Bool.not_true, Bool.not_false])
            clear c8
            simp only [Option.some.injEq, Prod.mk.injEq] at H
            obtain ⟨rfl, rfl⟩ := H
            try go_wp2
            go_ret2
            exact ⟨by first | rfl | (simp; done) | (simp [*]; done), by repeat (first | exact Drawn0.refl _ | apply Drawn0.step)⟩
          · rw [if_neg c8] at H
            have c8b0 : (t187 == a0) = false := beq_eq_false_iff_ne.mpr c8
            have c8b1 : (t187 != a0) = true := bne_iff_ne.mpr c8
            (try simp only [c8b0, c8b1, Bool.not_true, Bool.not_false])
            simp only [Option.some.injEq, Prod.mk.injEq] at H
            obtain ⟨rfl, rfl⟩ := H
            try go_wp2
            go_ret2
            exact ⟨by first | rfl | (simp; done) | (simp [*]; done), by repeat (first | exact Drawn0.refl _ | apply Drawn0.step)⟩
        · rw [if_neg c6] at H
          have c6b0 : (feq ((x4_1 : Int).toNat) ((x4_1 : Int).toNat)) = false := by simpa using c6
          clear c6
          simp only [Option.some.injEq, Prod.mk.injEq] at H
          obtain ⟨rfl, rfl⟩ := H
          go_wp2
          go_ret2
          exact ⟨by first | rfl | (simp; done) | (simp [*]; done), by repeat (first | exact Drawn0.refl _ | apply Drawn0.step)⟩
def impl_KeyRead_1.f (k : Nat) (a0 : Int) : Option (Nat) := (impl_FloatUnrank.f k a0).bind fun bt188 => (some bt188.1)
theorem impl_KeyRead_1.mono : ∀ a0 k, LeO (impl_KeyRead_1.f k a0) (impl_KeyRead_1.f (k + 1) a0) := by
  intro a0 k
  unfold impl_KeyRead_1.f
  repeat' with_reducible first | exact impl_FloatUnrank.mono _ _ | exact LeO.refl _ | exact LeO.none _ | refine LeO.ite ?_ ?_ | refine LeO.bind ?_ (fun _ => ?_)
set_option maxHeartbeats 8000000 in
set_option maxRecDepth 100000 in
theorem impl_KeyRead_1.calls (k : Nat) (a0 : Int) (r : Nat) (w : World) (h : impl_KeyRead_1.f k a0 = some r) :
    Calls Try.prog 55 #[.int .u64 a0] w fun e w' => e = .returned (.float .f64 r) ∧ Drawn0 w w' := by
  have H := h
  clear h
  unfold impl_KeyRead_1.f at H
  replace H := Option.bind_eq_some_iff.mp H
  obtain ⟨⟨t188, t189⟩, A20, H⟩ := H
  (try dsimp only at H)
  have A2 := Aside0.mk A20
  clear A20
  obtain rfl := Option.some.inj H
  go_enter Try.func55, Try.ntmps55
  go_wp2_with (first | ((with_reducible refine gate_callee (f := 56) rfl ?_); refine goesL_ (some 7) rfl rfl Try.func56 (by kernel_rfl) rfl #[.int .u64 a0] rfl (by (try simp only [List.map_toArray, List.map_cons, List.map_nil]); first | done | rfl) ?_; (with_reducible refine (impl_FloatUnrank.calls k a0 t188 t189 _ A2.out).mono ?_); rintro e w' ⟨rfl, ⟨nd, rfl⟩⟩; refine ⟨_, rfl, ?_⟩))
  go_ret
  exact ⟨by first | rfl | (simp; done) | (simp [*]; done), by repeat (first | exact Drawn0.refl _ | apply Drawn0.step)⟩
def slices_Clone_byte_byte.f (l0 : List Int) : Option (List Int) := (some (([] : List Int) : List Int)).bind fun y190 => (if y190.length + l0.length < 140737488355328 then (some (y190 ++ l0)) else (none))
set_option maxHeartbeats 8000000 in
set_option maxRecDepth 100000 in
theorem slices_Clone_byte_byte.calls (A0 : Option Addr) (c0 : Nat) (l0 : List Int) (r : List Int) (w : World) (hr0 : Kd.C (Kd.int .u8) w A0 l0.length l0) (hc0 : l0.length ≤ c0) (h : slices_Clone_byte_byte.f l0 = some r) :
    Calls Try.prog 82 #[.slice A0 l0.length c0] w fun e w' => ∃ v0_ : Value, e = .returned (v0_) ∧ Kd.R (Kd.int .u8) 5 w' w.heap.size (fun _ => True) v0_ r ∧ Below w.heap.size w w' := by
  rcases A0 with _ | ad0
  · have hl0 : l0 = [] := by
      rcases Nat.eq_zero_or_pos l0.length with hz | hz
      · exact List.eq_nil_of_length_eq_zero hz
      · obtain ⟨ad, e, _⟩ := hr0.2.2 hz
        cases e
    subst hl0
    have hr : r = [] := by simpa [slices_Clone_byte_byte.f] using h.symm
    subst hr
    have hq := fun (w : World) (a : Option Addr) (n c : Nat) => Lib.run_eql_slice_nil (P := Try.prog) w 22 5 a n c 0 0 Try.underlying22
    go_enter Try.func82, Try.ntmps82
    go_wp2
    go_ret
    exact ⟨_, rfl, Kd.R_nil _ _ _ _ _, by repeat (first | exact Below.refl _ _ | apply h1 | apply h2 | apply h3)⟩
  · have HR0 := Aside0.mk hr0
    have HC0 := Aside0.mk hc0
    clear hr0 hc0
    have HB := Aside0.mk (Below.refl w.heap.size w)
    have H := h
    clear h
    unfold slices_Clone_byte_byte.f at H
    obtain ⟨y190, hy190⟩ : ∃ y_ : List Int, y_ = (([] : List Int)) := ⟨_, rfl⟩
    replace H : (if y190.length + l0.length < 140737488355328 then (some (y190 ++ l0)) else (none)) = some r := by first | (rw [hy190]; with_reducible exact H) | (have H2_ := (Option.bind_some _ _).symm.trans H; rw [hy190]; with_reducible exact H2_) | (have H2_ := (Option.bind_some _ _).symm.trans H; with_reducible exact H2_) | with_reducible exact H | (rw [hy190]; exact H) | exact H
    have Ny190 := Aside0.mk hy190
    clear hy190
    by_cases c2 : y190.length + l0.length < 140737488355328
    · rw [if_pos c2] at H
      have LMc2 := Aside0.mk c2
      clear c2
      obtain ⟨y193, hy193⟩ : ∃ y_ : List Int, y_ = (y190 ++ l0) := ⟨_, rfl⟩
      replace H : (some y193) = some r := by first | (rw [hy193]; with_reducible exact H) | (have H2_ := (Option.bind_some _ _).symm.trans H; rw [hy193]; with_reducible exact H2_) | (have H2_ := (Option.bind_some _ _).symm.trans H; with_reducible exact H2_) | with_reducible exact H | (rw [hy193]; exact H) | exact H
      have Ny193 := Aside0.mk hy193
      clear hy193
      obtain rfl := Option.some.inj H
      have hq := fun (w : World) (a : Option Addr) (n c : Nat) => Lib.run_eql_slice_nil (P := Try.prog) w 22 5 a n c 0 0 Try.underlying22
      go_enter Try.func82, Try.ntmps82
      go_wp2_with (first | ((with_reducible refine gate_dst (N := 5) rfl ?_); refine Kd.R_lit (Kd.int .u8) _ 5 ?hg (N := 5) ?hd (xs := ([] : List Int)) (inner := []) (ok := fun _ => True) (okp := fun _ => True) ?hr ?hp (fun _ hk => hk) trivial (Below.refl _ _) (Nat.le_refl _) (by simp) ?_; (case hd => rfl); (case hg => rfl); (case hr => first | (go_simp; done) | (go_simp; rfl)); (case hp => exact (Reps.none _ _)); intro v191 w3 ho4 hb hg_ hnew_; clear hg_ hnew_; (first | rw [← Ny190.out] at ho4 | (simp only [Int.reduceToNat] at ho4; rw [← Ny190.out] at ho4)); have n0_ := Aside0.mk (Kd.R_lower ho4 (below_size (hup HB.out))); have n1_ := Aside0.mk (below_step (hup HB.out) hb); clear HB; have HO192 := n0_; have HB := n1_; clear n0_ n1_; clear hb ho4) | ((with_reducible refine gate_builtin (b := .append) (xs := #[.tmp 5, .tmp 6]) rfl ?_); at_builtin; refine Kd.R_append_rows (Kd.int .u8) (w0 := w) w.heap.size rfl (.tmp 5) (.tmp 6) 22 5 (.int .u8 0) 1 rfl Try.underlying22 info5 rfl (by decide) (by omega) v191 y190 l0 _ _ _ (fun _ => True) (fun _ => False) rfl rfl ?aO ?aR (fun _ _ h => h) (fun _ h => h.elim) ?aF ?aB ?aS ?aL ?_; (case aR => repeat (first | exact (Kd.C_below HR0.out HB.out) | (with_reducible refine Kd.C_alloc ?_ _) | (with_reducible refine Kd.C_drewN ?_ _) | (with_reducible refine Kd.C_drew ?_))); (case aB => exact (hup HB.out)); (case aF => exact (fun _ _ => trivial)); (case aO => exact (Kd.rup HO192.out)); (case aS => exact (below_size (hup HB.out))); (case aL => have := LMc2.out; omega); intro v194 w5 ho hb hg hat; rw [← Ny193.out] at ho; have n0_ := Aside0.mk (hb); have n1_ := Aside0.mk (ho); clear HB; clear HO192; have HB := n0_; have HO195 := n1_; clear n0_ n1_; clear ho hb hg hat))
      go_ret
      exact ⟨_, by first | rfl | (simp [errW_none, errW_some] <;> rfl) | (simp [*, errW_none, errW_some] <;> rfl), by exact Kd.rup HO195.out, by with_reducible repeat (first | exact HB.out | apply h1 | apply h2 | apply h3)⟩
    · rw [if_neg c2] at H
      exact absurd H (by simp)
  
def impl_fromHigh.l0 : Nat → Int → List Int → Int → Int → Option (Int)
  | 0, _, _, _, _ => none
  | k + 1, x3, x6, x7, x8 => if x8 < x7 then (if 0 ≤ x8 then (if x8 < (x6.length : Int) then (impl_fromHigh.l0 k (Go.bits .or .u64 (IntKind.u64.wrap (x3 * 256)) (IntKind.u64.wrap (rd x6 x8))) x6 x7 (wrap64 (x8 + 1))) else (none)) else (none)) else (some x3)
def impl_fromHigh.f (k : Nat) (l0 : List Int) : Option (Int) := impl_fromHigh.l0 k 0 l0 (l0.length : Int) 0
theorem impl_fromHigh.mono_l : ∀ k, (∀ y0 y1 y2 y3, LeO (impl_fromHigh.l0 k y0 y1 y2 y3) (impl_fromHigh.l0 (k + 1) y0 y1 y2 y3))
  | 0 => fun _ _ _ _ r h => by simp [impl_fromHigh.l0] at h
  | k + 1 => by
    have ih0 := impl_fromHigh.mono_l k
    · intro y0 y1 y2 y3
      unfold impl_fromHigh.l0
      repeat' with_reducible first | exact ih0 _ _ _ _ | exact LeO.refl _ | exact LeO.none _ | refine LeO.ite ?_ ?_ | refine LeO.bind ?_ (fun _ => ?_)
theorem impl_fromHigh.mono : ∀ a0 k, LeO (impl_fromHigh.f k a0) (impl_fromHigh.f (k + 1) a0) := by
  intro a0 k
  have ih0 := impl_fromHigh.mono_l k
  unfold impl_fromHigh.f
  repeat' with_reducible first | exact ih0 _ _ _ _ | exact LeO.refl _ | exact LeO.none _ | refine LeO.ite ?_ ?_ | refine LeO.bind ?_ (fun _ => ?_)
set_option maxHeartbeats 8000000 in
set_option maxRecDepth 100000 in
theorem impl_fromHigh.calls (k : Nat) (A0 : Option Addr) (c0 : Nat) (l0 : List Int) (r : Int) (w : World) (hr0 : Kd.C (Kd.int .u8) w A0 l0.length l0) (hc0 : l0.length ≤ c0) (h : impl_fromHigh.f k l0 = some r) :
    Calls Try.prog 83 #[.slice A0 l0.length c0] w fun e w' => e = .returned (.int .u64 r) ∧ Drawn0 w w' := by
  have HR0 := Aside0.mk hr0
  have HC0 := Aside0.mk hc0
  clear hr0 hc0
  have H := h
  clear h
  unfold impl_fromHigh.f at H
  have H' := Aside0.mk H
  clear H
  go_enter Try.func83, Try.ntmps83
  go_wp2
  go_loopg [3, 8] k (fun kq v3 v8 w' => ∃ (x3_1 : Int) (x8_1 : Int), v3 = .int .u64 x3_1 ∧ v8 = .int .i64 x8_1 ∧ Aside0 (impl_fromHigh.l0 kq x3_1 l0 (l0.length : Int) x8_1 = some r) ∧ Aside0 (kq ≤ k) ∧ Drawn0 w w')
  case atStart => exact ⟨(0), (0), (by first | rfl | (simp; done) | (simp [*]; done)), (by first | rfl | (simp; done) | (simp [*]; done)), H', ⟨Nat.le_refl _⟩, by repeat (first | exact Drawn0.refl _ | apply Drawn0.step)⟩
  case round =>
    clear H'
    obtain ⟨x3_1, x8_1, rfl, rfl, HA, HK1, ⟨m1, rfl⟩⟩ := hrel
    cases gk with
    | zero => exact absurd HA.out (by simp [impl_fromHigh.l0])
    | succ k1 =>
      have H := HA.out
      clear HA
      simp only [impl_fromHigh.l0] at H
      by_cases c2 : x8_1 < (l0.length : Int)
      · rw [if_pos c2] at H
        have c2b0 : decide (x8_1 < (l0.length : Int)) = true := decide_eq_true c2
        clear c2
        by_cases c3 : 0 ≤ x8_1
        · rw [if_pos c3] at H
          have c3b0 : decide (0 ≤ x8_1) = true := decide_eq_true c3
          clear c3
          by_cases c4 : x8_1 < (l0.length : Int)
          · rw [if_pos c4] at H
            have c4b0 : decide (x8_1 < (l0.length : Int)) = true := decide_eq_true c4
            clear c4
            have H' := Aside0.mk H
            clear H
            have p196 : 0 ≤ (x8_1 : Int) := of_decide_eq_true (by first | (with_reducible assumption) | assumption)
            have q196 : x8_1 < (l0.length : Int) := of_decide_eq_true (by first | (with_reducible assumption) | assumption)
            obtain ⟨ad196, e196, hx196_0⟩ := Kd.at_int HR0.out x8_1 p196 q196
            cases e196
            replace p196 := eq_true p196
            replace q196 := eq_true q196
            go_wp2
            go_roundg k1
            case measure => have := HK1.out; omega
            case rel => exact ⟨(Go.bits .or .u64 (IntKind.u64.wrap (x3_1 * 256)) (IntKind.u64.wrap (rd l0 x8_1))), (wrap64 (x8_1 + 1)), (by first | rfl | (simp; done) | (simp [*]; done)), (by first | rfl | (simp; done) | (simp [*]; done)), H', ⟨by have := HK1.out; omega⟩, by repeat (first | exact Drawn0.refl _ | apply Drawn0.step)⟩
          · rw [if_neg c4] at H
            exact absurd H (by simp)
        · rw [if_neg c3] at H
          exact absurd H (by simp)
      · rw [if_neg c2] at H
        have c2b0 : decide (x8_1 < (l0.length : Int)) = false := decide_eq_false c2
        clear c2
        obtain rfl := Option.some.inj H
        go_wp2
        go_ret
        exact ⟨by first | rfl | (simp; done) | (simp [*]; done), by repeat (first | exact Drawn0.refl _ | apply Drawn0.step)⟩
def impl_readItem.f (k : Nat) (l0 : List Int) : Option (Int × Int × Nat × List Int) := if (l0.length : Int) = 0 then (some (0, 0, 0, ([] : List Int))) else (if 0 < (l0.length : Int) then (if 1 ≤ (l0.length : Int) then (if (wrap64 (rd l0 0)) = 3 then ((slices_Clone_byte_byte.f (l0.drop 1)).bind fun t201 => (some (wrap64 (rd l0 0), 0, 0, t201))) else (if ((l0.drop 1).length : Int) = 8 then (if (wrap64 (rd l0 0)) = 1 then ((impl_fromHigh.f k (l0.drop 1)).bind fun t204 => (some (wrap64 (rd l0 0), wrap64 (subSign t204), 0, ([] : List Int)))) else (if (wrap64 (rd l0 0)) = 2 then ((impl_fromHigh.f k (l0.drop 1)).bind fun t205 => ((impl_KeyRead_1.f k t205).bind fun t206 => (some (wrap64 (rd l0 0), 0, t206, ([] : List Int))))) else (some (wrap64 (rd l0 0), 0, 0, ([] : List Int))))) else (some (0, 0, 0, ([] : List Int))))) else (none)) else (none))
theorem impl_readItem.mono : ∀ a0 k, LeO (impl_readItem.f k a0) (impl_readItem.f (k + 1) a0) := by
 intro a0 k
 unfold impl_readItem.f
 repeat' with_reducible first | exact impl_KeyRead_1.mono _ _ | exact impl_fromHigh.mono _ _ | exact LeO.refl _ | exact LeO.none _ | refine LeO.ite ?_ ?_ | refine LeO.bind ?_ (fun _ => ?_)
set_option maxHeartbeats 8000000 in
set_option maxRecDepth 100000 in
theorem impl_readItem.calls (k : Nat) (A0 : Option Addr) (c0 : Nat) (l0 : List Int) (r1 : Int) (r2 : Int) (r3 : Nat) (r4 : List Int) (w : World) (hr0 : Kd.C (Kd.int .u8) w A0 l0.length l0) (hc0 : l0.length ≤ c0) (h : impl_readItem.f k l0 = some (r1, r2, r3, r4)) :
  Calls Try.prog 48 #[.slice A0 l0.length c0, .func (.func 55) #[] #[]] w fun e w' => ∃ v3_ : Value, e = .returned (.agg #[.int .i64 r1, .int .i64 r2, .float .f64 r3, v3_]) ∧ Kd.R (Kd.int .u8) 5 w' w.heap.size (fun _ => True) v3_ r4 ∧ Below w.heap.size w w' := by
 have hu25 := Try.underlying25
 have HR0 := Aside0.mk hr0
 have HC0 := Aside0.mk hc0
 clear hr0 hc0
 have HB := Aside0.mk (Below.refl w.heap.size w)
 have H := h
 clear h
 unfold impl_readItem.f at H
 by_cases c2 : (l0.length : Int) = 0
 ·rw [if_pos c2] at H
  have c2b0 : ((l0.length : Int) == 0) = true := beq_iff_eq.mpr c2
  have c2b1 : ((l0.length : Int) != 0) = false := bne_eq_false_iff_eq.mpr c2
  clear c2
  simp only [Option.some.injEq, Prod.mk.injEq] at H
  obtain ⟨rfl, rfl, rfl, rfl⟩ := H
  go_enter Try.func48, Try.ntmps48
  go_wp2_with (first | ((with_reducible refine gate_dst (N := 4) rfl ?_); refine box_event ?hg (N := 4) ?hd (cs := #[.int .i64 0, .int .i64 0, .float .f64 0, .slice none 0 0]) (t := 25) ?hr ?_; (case hd => rfl); (case hg => rfl); (case hr => first | (go_simp; done) | (go_simp; rfl)); intro gb197 hg w3 hbox hb; have n0_ := Aside0.mk (below_step (hup HB.out) hb); have n1_ := Aside0.mk (hbox); have n2_ := Geq.mk ((by rw [hg]; exact (below_size (hup HB.out)) : w.heap.size ≤ gb197)); have n3_ := Geq.mk ((by rw [hg]; exact (below_size (hup HB.out)) : w.heap.size ≤ gb197)); clear HB; have HB := n0_; have BK197 := n1_; have GW197 := n2_; have GE197 := n3_; clear n0_ n1_ n2_ n3_; clear hb hbox hg; obtain ⟨hcz4_0, hcz4_1, hcz4_2, hcz4_3⟩ := blk_cells4 BK197.out; obtain ⟨hfz4_0, hfz4_1, hfz4_2, hfz4_3⟩ := blk_frozens4 BK197.out))
  refine bodyPost_ret (results_cell_row rfl _ _ gb197 25 #[.int .i64 0, .int .i64 0, .float .f64 0, .slice none 0 0] (0, 0) _ rfl (bput BK197.out) Try.underlying25 rfl (by kernel_rfl)) rfl ?_
  exact ⟨_, by first | rfl | (simp [errW_none, errW_some] <;> rfl) | (simp [*, errW_none, errW_some] <;> rfl), by first | exact Kd.R_nil _ _ _ _ _ | exact Kd.N_nil _ _ _ _ _ | exact Kd.V_nil _ _ _ _ _ | exact Kd.Q_nil _ _ _ _ _ | exact Kd.S_nil _ _ _ _ _, hset HB.out⟩
 ·rw [if_neg c2] at H
  have c2b0 : ((l0.length : Int) == 0) = false := beq_eq_false_iff_ne.mpr c2
  have c2b1 : ((l0.length : Int) != 0) = true := bne_iff_ne.mpr c2
  have c2b2 : ¬ (l0 = []) := fun h_ => c2 (by rw [h_]; rfl)
  by_cases c5 : 0 < (l0.length : Int)
  ·rw [if_pos c5] at H
   have c5b0 : decide (0 < (l0.length : Int)) = true := decide_eq_true c5
   have c5b1 : decide (0 < l0.length) = true := decide_eq_true (by omega)
   clear c5
   by_cases c6 : 1 ≤ (l0.length : Int)
   ·rw [if_pos c6] at H
    have c6b0 := eq_true c6
    have c6b1 : decide (1 ≤ (l0.length : Int)) = true := decide_eq_true c6
    clear c6
    by_cases c7 : (wrap64 (rd l0 0)) = 3
    ·rw [if_pos c7] at H
     have c7b0 : ((wrap64 (rd l0 0)) == 3) = true := beq_iff_eq.mpr c7
     have c7b1 : ((wrap64 (rd l0 0)) != 3) = false := bne_eq_false_iff_eq.mpr c7
     clear c7
     replace H := Option.bind_eq_some_iff.mp H
     obtain ⟨t201, A80, H⟩ := H
     (try dsimp only at H)
     have A8 := Aside0.mk A80
     clear A80
     simp only [Option.some.injEq, Prod.mk.injEq] at H
     obtain ⟨rfl, rfl, rfl, rfl⟩ := H
     go_enter Try.func48, Try.ntmps48
     go_wp2_with (first | ((with_reducible refine gate_dst (N := 4) rfl ?_); refine box_event ?hg (N := 4) ?hd (cs := #[.int .i64 0, .int .i64 0, .float .f64 0, .slice none 0 0]) (t := 25) ?hr ?_; (case hd => rfl); (case hg => rfl); (case hr => first | (go_simp; done) | (go_simp; rfl)); intro gb197 hg w9 hbox hb; have n0_ := Aside0.mk (below_step (hup HB.out) hb); have n1_ := Aside0.mk (hbox); have n2_ := Geq.mk ((by rw [hg]; exact (below_size (hup HB.out)) : w.heap.size ≤ gb197)); have n3_ := Geq.mk ((by rw [hg]; exact (below_size (hup HB.out)) : w.heap.size ≤ gb197)); clear HB; have HB := n0_; have BK197 := n1_; have GW197 := n2_; have GE197 := n3_; clear n0_ n1_ n2_ n3_; clear hb hbox hg; have p198 : 0 ≤ (0 : Int) := (by omega); have q198 : 0 < (l0.length : Int) := of_decide_eq_true (by first | (with_reducible assumption) | assumption); obtain ⟨ad198, e198, hx198_0⟩ := Kd.at_int HR0.out 0 p198 q198; cases e198; have qi198 : (0 < l0.length) = True := eq_true (by omega); (try rw [show ((0 : Int)).toNat = 0 from rfl] at hx198_0); (try rw [Addr.add_zero'] at hx198_0); replace hx198_0 := (HB.out.cell (World.block_lt_of_cell? w _ hx198_0)).trans hx198_0; replace p198 := eq_true p198; replace q198 := eq_true q198) | ((with_reducible refine gate_dst (N := 5) rfl ?_); refine box_event ?hg (N := 5) ?hd (cs := #[.int .i64 0, .int .i64 0, .float .f64 0, .slice none 0 0]) (t := 25) ?hr ?_; (case hd => rfl); (case hg => rfl); (case hr => first | (go_simp; done) | (go_simp; rfl)); intro gb199 hg w10 hbox hb; have n0_ := Aside0.mk (blk_below (bup BK197.out) hb); have n1_ := Aside0.mk (below_step (hset HB.out) hb); have n2_ := Aside0.mk (hbox); have n3_ := Geq.mk ((by rw [hg]; exact (below_size (hset HB.out)) : w.heap.size ≤ gb199)); have n4_ := Geq.mk ((by rw [hg]; exact (below_size (hset HB.out)) : w.heap.size ≤ gb199)); have n5_ := Neq.mk ((by rw [hg]; exact Nat.ne_of_lt (blk_lt (g := gb197) (o := .cells #[.int .i64 0, .int .i64 0, .float .f64 0, .slice none 0 0] 25 (0, 0)) (bup BK197.out)) : gb197 ≠ gb199)); have n6_ := Neq.mk ((by rw [hg]; exact Nat.ne_of_gt (blk_lt (g := gb197) (o := .cells #[.int .i64 0, .int .i64 0, .float .f64 0, .slice none 0 0] 25 (0, 0)) (bup BK197.out)) : gb199 ≠ gb197)); clear BK197; clear HB; have BK197 := n0_; have HB := n1_; have BK199 := n2_; have GW199 := n3_; have GE199 := n4_; have NB197_199 := n5_; have NB199_197 := n6_; clear n0_ n1_ n2_ n3_ n4_ n5_ n6_; clear hb hbox hg; have hnb11 := NB199_197.out; have hnc11 := NB197_199.out; obtain ⟨hcz12_0, hcz12_1, hcz12_2, hcz12_3⟩ := blk_cells4 BK199.out; obtain ⟨hfz12_0, hfz12_1, hfz12_2, hfz12_3⟩ := blk_frozens4 BK199.out; obtain ⟨i013, hi013, _, hsz13, _⟩ := info_parts info5; obtain ⟨A13, hcut13, hA13, hC13⟩ := print_drop_of (P := Try.prog) (Value.int .u8) 0 22 5 .i64 Try.underlying22 hi013 hsz13 (some ad198) c0 l0 1 (by omega) (of_decide_eq_true (by first | (with_reducible assumption) | assumption)) HC0.out; have HR200 := Aside0.mk (Kd.C_of_reads (h1 := fun _ => rfl) (hA13 _ (Kd.reads_of_C HR0.out))); have HC200 := Aside0.mk hC13; clear hA13 hC13 hi013 hsz13) | ((with_reducible refine gate_callee (f := 82) rfl ?_); refine goesL_ (some 23) rfl rfl Try.func82 (by kernel_rfl) rfl #[.slice A13 (l0.drop 1).length (c0 - 1)] rfl (by (try simp only [List.map_toArray, List.map_cons, List.map_nil]); first | done | (rw [show (l0.drop 1).length = (l0.length - 1) from List.length_drop] <;> rfl) | rfl | (simp only [List.length_drop, List.length_take]; rfl)) ?_; (with_reducible refine (slices_Clone_byte_byte.calls _ _ (l0.drop 1) t201 _ ?side1 ?side2 A8.out).mono ?_); (case side1 => exact Kd.C_below HR200.out (hset HB.out)); (case side2 => exact HC200.out); rintro e w14 ⟨v202, rfl, ho0, hb⟩; refine ⟨_, rfl, ?_⟩; have n0_ := Aside0.mk (Kd.R_lower ho0 (below_size (hset HB.out))); have n1_ := Aside0.mk (blk_below (g := gb197) (o := .cells #[.int .i64 0, .int .i64 0, .float .f64 0, .slice none 0 0] 25 (0, 0)) (bput BK197.out) hb); have n2_ := Aside0.mk (blk_below (g := gb199) (o := .cells #[.int .i64 (wrap64 (rd l0 0)), .int .i64 0, .float .f64 0, .slice none 0 0] 25 (0, 0)) (bput BK199.out) hb); have n3_ := Aside0.mk (below_step (hset HB.out) hb); clear BK197; clear BK199; clear HB; have HO203 := n0_; have BK197 := n1_; have BK199 := n2_; have HB := n3_; clear n0_ n1_ n2_ n3_; (try clear hb); (try clear hb2); (try clear hk); (try clear hi); (try clear ho0); obtain ⟨Ao15, co15, eo15⟩ := Kd.R_slice HO203.out; subst eo15; obtain ⟨hcz16_0, hcz16_1, hcz16_2, hcz16_3⟩ := blk_cells4 BK199.out; obtain ⟨hfz16_0, hfz16_1, hfz16_2, hfz16_3⟩ := blk_frozens4 BK199.out; obtain ⟨hcz17_0, hcz17_1, hcz17_2, hcz17_3⟩ := blk_cells4 BK197.out; obtain ⟨hfz17_0, hfz17_1, hfz17_2, hfz17_3⟩ := blk_frozens4 BK197.out))
     refine bodyPost_ret (results_cell_row rfl _ _ gb197 25 #[.int .i64 (wrap64 (rd l0 0)), .int .i64 0, .float .f64 0, .slice Ao15 t201.length co15] (0, 0) _ rfl (bput BK197.out) Try.underlying25 rfl (by kernel_rfl)) rfl ?_
     exact ⟨_, by first | rfl | (simp [errW_none, errW_some] <;> rfl) | (simp [*, errW_none, errW_some] <;> rfl), by exact Kd.rup (Kd.R_mono (Kd.R_far (p := ⟨gb197, 3, none⟩) (Kd.R_far (p := ⟨gb197, 2, none⟩) (Kd.R_far (p := ⟨gb197, 1, none⟩) (Kd.R_far (p := ⟨gb197, 0, none⟩) (Kd.R_far (p := ⟨gb199, 3, none⟩) (Kd.R_types (Kd.R_types HO203.out BK199.out (by decide)) BK197.out (by decide)) (fun _ hk => hk.1.2) (.slice Ao15 t201.length co15)) (fun _ hk => hk.2) (.int .i64 (wrap64 (rd l0 0)))) (fun _ hk => hk.2) (.int .i64 0)) (fun _ hk => hk.2) (.float .f64 0)) (fun _ hk => hk.2) (.slice Ao15 t201.length co15)) (fun _ hk => trivial)), hset HB.out⟩
    ·rw [if_neg c7] at H
     have c7b0 : ((wrap64 (rd l0 0)) == 3) = false := beq_eq_false_iff_ne.mpr c7
     have c7b1 : ((wrap64 (rd l0 0)) != 3) = true := bne_iff_ne.mpr c7
     by_cases c18 : ((l0.drop 1).length : Int) = 8
     ·rw [if_pos c18] at H
      have c18b0 : (((l0.drop 1).length : Int) == 8) = true := beq_iff_eq.mpr c18
      have c18b7 : (((l0.length - 1 : Nat) : Int) == 8) = true := by rw [← List.length_drop]; exact c18b0
      have c18b1 : (((l0.drop 1).length : Int) != 8) = false := bne_eq_false_iff_eq.mpr c18
      have c18b8 : (((l0.length - 1 : Nat) : Int) != 8) = false := by rw [← List.length_drop]; exact c18b1
      clear c18
      by_cases c19 : (wrap64 (rd l0 0)) = 1
      ·rw [if_pos c19] at H
       have c19b0 : ((wrap64 (rd l0 0)) == 1) = true := beq_iff_eq.mpr c19
       have c19b1 : ((wrap64 (rd l0 0)) != 1) = false := bne_eq_false_iff_eq.mpr c19
       clear c19
       replace H := Option.bind_eq_some_iff.mp H
       obtain ⟨t204, A200, H⟩ := H
       (try dsimp only at H)
       have A20 := Aside0.mk A200
       clear A200
       simp only [Option.some.injEq, Prod.mk.injEq] at H
       obtain ⟨rfl, rfl, rfl, rfl⟩ := H
       have TOP := Aside0.mk (Nat.le_refl w.heap.size)
       have OW := Aside0.mk (Nat.le_refl w.heap.size)
       go_enter Try.func48, Try.ntmps48
       try go_wp2_with (first | ((with_reducible refine gate_dst (N := 4) rfl ?_); refine box_event ?hg (N := 4) ?hd (cs := #[.int .i64 0, .int .i64 0, .float .f64 0, .slice none 0 0]) (t := 25) ?hr ?_; (case hd => rfl); (case hg => rfl); (case hr => first | (go_simp; done) | (go_simp; rfl)); intro g1002 hg w1001 hbox hb; have OD1004 := Aside0.mk (show w.heap.size ≤ g1002 from by rw [hg]; exact TOP.out); have n0_ := Aside0.mk (below_step (hup HB.out) hb); have n1_ := Aside0.mk (show g1002 + 1 ≤ w1001.heap.size from blk_lt hbox); (try clear HB TOP); have HB := n0_; have TOP := n1_; clear n0_ n1_; have BK1003 := Aside0.mk (show w1001.heap[g1002]? = some (.cells #[.int .i64 0, .int .i64 0, .float .f64 0, .slice none 0 0] 25 (0, 0)) from hbox); clear hg hb hbox; have OW_ := Aside0.mk (And.intro OW.out OD1004.out); clear OW OD1004; have OW := OW_; clear OW_; obtain ⟨hz1005, hz1006, hz1007, hz1008⟩ := blk_cells4 BK1003.out; obtain ⟨hy1009, hy1010, hy1011, hy1012⟩ := blk_frozens4 BK1003.out; have p198 : 0 ≤ (0 : Int) := (by omega); have q198 : 0 < (l0.length : Int) := of_decide_eq_true (by first | (with_reducible assumption) | assumption); obtain ⟨ad198, e198, hx198_0⟩ := Kd.at_int HR0.out 0 p198 q198; cases e198; have qi198 : (0 < l0.length) = True := eq_true (by omega); (try rw [show ((0 : Int)).toNat = 0 from rfl] at hx198_0); (try rw [Addr.add_zero'] at hx198_0); replace hx198_0 := (HB.out.cell (World.block_lt_of_cell? w _ hx198_0)).trans hx198_0; replace p198 := eq_true p198; replace q198 := eq_true q198) | ((with_reducible refine gate_dst (N := 5) rfl ?_); refine box_event ?hg (N := 5) ?hd (cs := #[.int .i64 0, .int .i64 0, .float .f64 0, .slice none 0 0]) (t := 25) ?hr ?_; (case hd => rfl); (case hg => rfl); (case hr => first | (go_simp; done) | (go_simp; rfl)); intro g1014 hg w1013 hbox hb; have OD1016 := Aside0.mk (show g1002 + 1 ≤ g1014 from by rw [hg]; exact TOP.out); have n0_ := Aside0.mk (blk_below (bup BK1003.out) hb); have n1_ := Aside0.mk (below_step (hup HB.out) hb); have n2_ := Aside0.mk (show g1014 + 1 ≤ w1013.heap.size from blk_lt hbox); (try clear BK1003 HB TOP); have BK1003 := n0_; have HB := n1_; have TOP := n2_; clear n0_ n1_ n2_; have BK1015 := Aside0.mk (show w1013.heap[g1014]? = some (.cells #[.int .i64 0, .int .i64 0, .float .f64 0, .slice none 0 0] 25 (0, 0)) from hbox); clear hg hb hbox; have OW_ := Aside0.mk (And.intro OW.out OD1016.out); clear OW OD1016; have OW := OW_; clear OW_; (try clear hz1005 hz1006 hz1007 hz1008 hy1009 hy1010 hy1011 hy1012); obtain ⟨hz1017, hz1018, hz1019, hz1020⟩ := blk_cells4 BK1003.out; obtain ⟨hy1021, hy1022, hy1023, hy1024⟩ := blk_frozens4 BK1003.out; obtain ⟨hz1025, hz1026, hz1027, hz1028⟩ := blk_cells4 BK1015.out; obtain ⟨hy1029, hy1030, hy1031, hy1032⟩ := blk_frozens4 BK1015.out; obtain ⟨i025, hi025, _, hsz25, _⟩ := info_parts info5; obtain ⟨A25, hcut25, hA25, hC25⟩ := print_drop_of (P := Try.prog) (Value.int .u8) 0 22 5 .i64 Try.underlying22 hi025 hsz25 (some ad198) c0 l0 1 (by omega) (of_decide_eq_true (by first | (with_reducible assumption) | assumption)) HC0.out; have HR200 := Aside0.mk (Kd.C_of_reads (h1 := fun _ => rfl) (hA25 _ (Kd.reads_of_C HR0.out))); have HC200 := Aside0.mk hC25; clear hA25 hC25 hi025 hsz25) | ((with_reducible refine gate_store (t := 25) (p := 5) rfl ?_); refine store_event (t := 25) (p := 5) (v := ?vo1034) (w1 := ((((w1013.setCell ⟨g1014, 0, none⟩ (.int .i64 (wrap64 (rd l0 0)))).setCell ⟨g1014, 1, none⟩ (.int .i64 0)).setCell ⟨g1014, 2, none⟩ (.float .f64 0)).setCell ⟨g1014, 3, none⟩ (.slice none 0 0))) ?hg ?ho ?hn ?hr ?_; (case ho => rfl); (case hg => rfl); (case hn => rfl); (case hr => first | (go_simp; done) | (go_simp; rfl)); intro w1033 hw; have n0_ := Aside0.mk (show w1033.heap[g1002]? = some (.cells #[.int .i64 0, .int .i64 0, .float .f64 0, .slice none 0 0] 25 (0, 0)) from by rw [hw]; have ne_ : g1002 ≠ g1014 := (by have q_ := OW.out; omega); exact blk_far (blk_far (blk_far (blk_far (BK1003.out) ne_ _) ne_ _) ne_ _) ne_ _); have n1_ := Aside0.mk (show w1033.heap[g1014]? = some (.cells #[.int .i64 (wrap64 (rd l0 0)), .int .i64 0, .float .f64 0, .slice none 0 0] 25 (0, 0)) from by rw [hw]; exact blk_put (cs := #[.int .i64 (wrap64 (rd l0 0)), .int .i64 0, .float .f64 0, .slice none 0 0]) (blk_put (cs := #[.int .i64 (wrap64 (rd l0 0)), .int .i64 0, .float .f64 0, .slice none 0 0]) (blk_put (cs := #[.int .i64 (wrap64 (rd l0 0)), .int .i64 0, .float .f64 0, .slice none 0 0]) (blk_put (cs := #[.int .i64 0, .int .i64 0, .float .f64 0, .slice none 0 0]) (BK1015.out) 0 _ rfl) 1 _ rfl) 2 _ rfl) 3 _ rfl); have n2_ := Aside0.mk (show Below w.heap.size w w1033 from by rw [hw]; have ge_ : w.heap.size ≤ g1014 := (by have q_ := OW.out; omega); exact below_set (below_set (below_set (below_set (HB.out) ge_) ge_) ge_) ge_); have n3_ := Aside0.mk (show g1014 + 1 ≤ w1033.heap.size from by rw [hw]; simp only [size_set]; exact TOP.out); (try clear BK1003 BK1015 HB TOP); have BK1003 := n0_; have BK1015 := n1_; have HB := n2_; have TOP := n3_; clear n0_ n1_ n2_ n3_; clear hw; (try clear hz1017 hz1018 hz1019 hz1020 hy1021 hy1022 hy1023 hy1024 hz1025 hz1026 hz1027 hz1028 hy1029 hy1030 hy1031 hy1032); obtain ⟨hz1035, hz1036, hz1037, hz1038⟩ := blk_cells4 BK1003.out; obtain ⟨hy1039, hy1040, hy1041, hy1042⟩ := blk_frozens4 BK1003.out; obtain ⟨hz1043, hz1044, hz1045, hz1046⟩ := blk_cells4 BK1015.out; obtain ⟨hy1047, hy1048, hy1049, hy1050⟩ := blk_frozens4 BK1015.out) | ((with_reducible refine gate_callee (f := 83) rfl ?_); refine goesL_ (some 35) rfl rfl Try.func83 (by kernel_rfl) rfl #[.slice A25 (l0.drop 1).length (c0 - 1)] rfl (by (try simp only [List.map_toArray, List.map_cons, List.map_nil]); first | done | rfl | (simp only [List.length_drop, List.length_take]; rfl) | (rw [List.length_drop] <;> rfl)) ?_; (with_reducible refine (impl_fromHigh.calls k _ _ (l0.drop 1) t204 _ ?s1 ?s2 A20.out).mono ?_); (case s1 => exact Kd.C_below HR200.out (hup HB.out)); (case s2 => exact HC200.out); rintro e w1051 ⟨rfl, hd⟩; refine ⟨_, rfl, ?_⟩; have hb := drawn0_below hd; clear hd; have n0_ := Aside0.mk (blk_below (bup BK1003.out) hb); have n1_ := Aside0.mk (blk_below (bup BK1015.out) hb); have n2_ := Aside0.mk (below_step (hup HB.out) hb); have n3_ := Aside0.mk (show g1014 + 1 ≤ w1051.heap.size from Nat.le_trans TOP.out hb.size); (try clear BK1003 BK1015 HB TOP); have BK1003 := n0_; have BK1015 := n1_; have HB := n2_; have TOP := n3_; clear n0_ n1_ n2_ n3_; clear hb; (try clear hz1035 hz1036 hz1037 hz1038 hy1039 hy1040 hy1041 hy1042 hz1043 hz1044 hz1045 hz1046 hy1047 hy1048 hy1049 hy1050); obtain ⟨hz1052, hz1053, hz1054, hz1055⟩ := blk_cells4 BK1003.out; obtain ⟨hy1056, hy1057, hy1058, hy1059⟩ := blk_frozens4 BK1003.out; obtain ⟨hz1060, hz1061, hz1062, hz1063⟩ := blk_cells4 BK1015.out; obtain ⟨hy1064, hy1065, hy1066, hy1067⟩ := blk_frozens4 BK1015.out) | ((with_reducible refine gate_store (t := 3) (p := 38) rfl ?_); refine store_event (t := 3) (p := 38) (v := ?vo1069) (w1 := (w1051.setCell ⟨g1014, 1, none⟩ (.int .i64 (wrap64 (subSign t204))))) ?hg ?ho ?hn ?hr ?_; (case ho => rfl); (case hg => rfl); (case hn => rfl); (case hr => first | (go_simp; done) | (go_simp; rfl)); intro w1068 hw; have n0_ := Aside0.mk (show w1068.heap[g1002]? = some (.cells #[.int .i64 0, .int .i64 0, .float .f64 0, .slice none 0 0] 25 (0, 0)) from by rw [hw]; have ne_ : g1002 ≠ g1014 := (by have q_ := OW.out; omega); exact blk_far (BK1003.out) ne_ _); have n1_ := Aside0.mk (show w1068.heap[g1014]? = some (.cells #[.int .i64 (wrap64 (rd l0 0)), .int .i64 (wrap64 (subSign t204)), .float .f64 0, .slice none 0 0] 25 (0, 0)) from by rw [hw]; exact blk_put (cs := #[.int .i64 (wrap64 (rd l0 0)), .int .i64 0, .float .f64 0, .slice none 0 0]) (BK1015.out) 1 _ rfl); have n2_ := Aside0.mk (show Below w.heap.size w w1068 from by rw [hw]; have ge_ : w.heap.size ≤ g1014 := (by have q_ := OW.out; omega); exact below_set (HB.out) ge_); have n3_ := Aside0.mk (show g1014 + 1 ≤ w1068.heap.size from by rw [hw]; simp only [size_set]; exact TOP.out); (try clear BK1003 BK1015 HB TOP); have BK1003 := n0_; have BK1015 := n1_; have HB := n2_; have TOP := n3_; clear n0_ n1_ n2_ n3_; clear hw; (try clear hz1052 hz1053 hz1054 hz1055 hy1056 hy1057 hy1058 hy1059 hz1060 hz1061 hz1062 hz1063 hy1064 hy1065 hy1066 hy1067); obtain ⟨hz1070, hz1071, hz1072, hz1073⟩ := blk_cells4 BK1003.out; obtain ⟨hy1074, hy1075, hy1076, hy1077⟩ := blk_frozens4 BK1003.out; obtain ⟨hz1078, hz1079, hz1080, hz1081⟩ := blk_cells4 BK1015.out; obtain ⟨hy1082, hy1083, hy1084, hy1085⟩ := blk_frozens4 BK1015.out) | ((with_reducible refine gate_store (t := 25) (p := 4) rfl ?_); refine store_event (t := 25) (p := 4) (v := ?vo1087) (w1 := ((((w1068.setCell ⟨g1002, 0, none⟩ (.int .i64 (wrap64 (rd l0 0)))).setCell ⟨g1002, 1, none⟩ (.int .i64 (wrap64 (subSign t204)))).setCell ⟨g1002, 2, none⟩ (.float .f64 0)).setCell ⟨g1002, 3, none⟩ (.slice none 0 0))) ?hg ?ho ?hn ?hr ?_; (case ho => rfl); (case hg => rfl); (case hn => rfl); (case hr => first | (go_simp; done) | (go_simp; rfl)); intro w1086 hw; have n0_ := Aside0.mk (show w1086.heap[g1002]? = some (.cells #[.int .i64 (wrap64 (rd l0 0)), .int .i64 (wrap64 (subSign t204)), .float .f64 0, .slice none 0 0] 25 (0, 0)) from by rw [hw]; exact blk_put (cs := #[.int .i64 (wrap64 (rd l0 0)), .int .i64 (wrap64 (subSign t204)), .float .f64 0, .slice none 0 0]) (blk_put (cs := #[.int .i64 (wrap64 (rd l0 0)), .int .i64 (wrap64 (subSign t204)), .float .f64 0, .slice none 0 0]) (blk_put (cs := #[.int .i64 (wrap64 (rd l0 0)), .int .i64 0, .float .f64 0, .slice none 0 0]) (blk_put (cs := #[.int .i64 0, .int .i64 0, .float .f64 0, .slice none 0 0]) (BK1003.out) 0 _ rfl) 1 _ rfl) 2 _ rfl) 3 _ rfl); have n1_ := Aside0.mk (show w1086.heap[g1014]? = some (.cells #[.int .i64 (wrap64 (rd l0 0)), .int .i64 (wrap64 (subSign t204)), .float .f64 0, .slice none 0 0] 25 (0, 0)) from by rw [hw]; have ne_ : g1014 ≠ g1002 := (by have q_ := OW.out; omega); exact blk_far (blk_far (blk_far (blk_far (BK1015.out) ne_ _) ne_ _) ne_ _) ne_ _); have n2_ := Aside0.mk (show Below w.heap.size w w1086 from by rw [hw]; have ge_ : w.heap.size ≤ g1002 := (by have q_ := OW.out; omega); exact below_set (below_set (below_set (below_set (HB.out) ge_) ge_) ge_) ge_); have n3_ := Aside0.mk (show g1014 + 1 ≤ w1086.heap.size from by rw [hw]; simp only [size_set]; exact TOP.out); (try clear BK1003 BK1015 HB TOP); have BK1003 := n0_; have BK1015 := n1_; have HB := n2_; have TOP := n3_; clear n0_ n1_ n2_ n3_; clear hw; (try clear hz1070 hz1071 hz1072 hz1073 hy1074 hy1075 hy1076 hy1077 hz1078 hz1079 hz1080 hz1081 hy1082 hy1083 hy1084 hy1085)))
       refine bodyPost_ret (results_cell_row rfl _ _ g1002 25 #[.int .i64 (wrap64 (rd l0 0)), .int .i64 (wrap64 (subSign t204)), .float .f64 0, .slice none 0 0] (0, 0) _ rfl (by exact BK1003.out) Try.underlying25 rfl (by kernel_rfl)) rfl ?_
       exact ⟨_, by first | rfl | (simp; done) | (simp [*]; done), Kd.R_nil _ _ _ _ _, HB.out⟩
      ·rw [if_neg c19] at H
       have c19b0 : ((wrap64 (rd l0 0)) == 1) = false := beq_eq_false_iff_ne.mpr c19
       have c19b1 : ((wrap64 (rd l0 0)) != 1) = true := bne_iff_ne.mpr c19
       by_cases c27 : (wrap64 (rd l0 0)) = 2
       ·rw [if_pos c27] at H
        have c27b0 : ((wrap64 (rd l0 0)) == 2) = true := beq_iff_eq.mpr c27
        have c27b1 : ((wrap64 (rd l0 0)) != 2) = false := bne_eq_false_iff_eq.mpr c27
        clear c27
        replace H := Option.bind_eq_some_iff.mp H
        obtain ⟨t205, A280, H⟩ := H
        (try dsimp only at H)
        have A28 := Aside0.mk A280
        clear A280
        replace H := Option.bind_eq_some_iff.mp H
        obtain ⟨t206, A290, H⟩ := H
        (try dsimp only at H)
        have A29 := Aside0.mk A290
        clear A290
        simp only [Option.some.injEq, Prod.mk.injEq] at H
        obtain ⟨rfl, rfl, rfl, rfl⟩ := H
        have TOP := Aside0.mk (Nat.le_refl w.heap.size)
        have OW := Aside0.mk (Nat.le_refl w.heap.size)
        go_enter Try.func48, Try.ntmps48
        try go_wp2_with (first | ((with_reducible refine gate_dst (N := 4) rfl ?_); refine box_event ?hg (N := 4) ?hd (cs := #[.int .i64 0, .int .i64 0, .float .f64 0, .slice none 0 0]) (t := 25) ?hr ?_; (case hd => rfl); (case hg => rfl); (case hr => first | (go_simp; done) | (go_simp; rfl)); intro g2002 hg w2001 hbox hb; have OD2004 := Aside0.mk (show w.heap.size ≤ g2002 from by rw [hg]; exact TOP.out); have n0_ := Aside0.mk (below_step (hup HB.out) hb); have n1_ := Aside0.mk (show g2002 + 1 ≤ w2001.heap.size from blk_lt hbox); (try clear HB TOP); have HB := n0_; have TOP := n1_; clear n0_ n1_; have BK2003 := Aside0.mk (show w2001.heap[g2002]? = some (.cells #[.int .i64 0, .int .i64 0, .float .f64 0, .slice none 0 0] 25 (0, 0)) from hbox); clear hg hb hbox; have OW_ := Aside0.mk (And.intro OW.out OD2004.out); clear OW OD2004; have OW := OW_; clear OW_; obtain ⟨hz2005, hz2006, hz2007, hz2008⟩ := blk_cells4 BK2003.out; obtain ⟨hy2009, hy2010, hy2011, hy2012⟩ := blk_frozens4 BK2003.out; have p198 : 0 ≤ (0 : Int) := (by omega); have q198 : 0 < (l0.length : Int) := of_decide_eq_true (by first | (with_reducible assumption) | assumption); obtain ⟨ad198, e198, hx198_0⟩ := Kd.at_int HR0.out 0 p198 q198; cases e198; have qi198 : (0 < l0.length) = True := eq_true (by omega); (try rw [show ((0 : Int)).toNat = 0 from rfl] at hx198_0); (try rw [Addr.add_zero'] at hx198_0); replace hx198_0 := (HB.out.cell (World.block_lt_of_cell? w _ hx198_0)).trans hx198_0; replace p198 := eq_true p198; replace q198 := eq_true q198) | ((with_reducible refine gate_dst (N := 5) rfl ?_); refine box_event ?hg (N := 5) ?hd (cs := #[.int .i64 0, .int .i64 0, .float .f64 0, .slice none 0 0]) (t := 25) ?hr ?_; (case hd => rfl); (case hg => rfl); (case hr => first | (go_simp; done) | (go_simp; rfl)); intro g2014 hg w2013 hbox hb; have OD2016 := Aside0.mk (show g2002 + 1 ≤ g2014 from by rw [hg]; exact TOP.out); have n0_ := Aside0.mk (blk_below (bup BK2003.out) hb); have n1_ := Aside0.mk (below_step (hup HB.out) hb); have n2_ := Aside0.mk (show g2014 + 1 ≤ w2013.heap.size from blk_lt hbox); (try clear BK2003 HB TOP); have BK2003 := n0_; have HB := n1_; have TOP := n2_; clear n0_ n1_ n2_; have BK2015 := Aside0.mk (show w2013.heap[g2014]? = some (.cells #[.int .i64 0, .int .i64 0, .float .f64 0, .slice none 0 0] 25 (0, 0)) from hbox); clear hg hb hbox; have OW_ := Aside0.mk (And.intro OW.out OD2016.out); clear OW OD2016; have OW := OW_; clear OW_; (try clear hz2005 hz2006 hz2007 hz2008 hy2009 hy2010 hy2011 hy2012); obtain ⟨hz2017, hz2018, hz2019, hz2020⟩ := blk_cells4 BK2003.out; obtain ⟨hy2021, hy2022, hy2023, hy2024⟩ := blk_frozens4 BK2003.out; obtain ⟨hz2025, hz2026, hz2027, hz2028⟩ := blk_cells4 BK2015.out; obtain ⟨hy2029, hy2030, hy2031, hy2032⟩ := blk_frozens4 BK2015.out; obtain ⟨i034, hi034, _, hsz34, _⟩ := info_parts info5; obtain ⟨A34, hcut34, hA34, hC34⟩ := print_drop_of (P := Try.prog) (Value.int .u8) 0 22 5 .i64 Try.underlying22 hi034 hsz34 (some ad198) c0 l0 1 (by omega) (of_decide_eq_true (by first | (with_reducible assumption) | assumption)) HC0.out; have HR200 := Aside0.mk (Kd.C_of_reads (h1 := fun _ => rfl) (hA34 _ (Kd.reads_of_C HR0.out))); have HC200 := Aside0.mk hC34; clear hA34 hC34 hi034 hsz34) | ((with_reducible refine gate_store (t := 25) (p := 5) rfl ?_); refine store_event (t := 25) (p := 5) (v := ?vo2034) (w1 := ((((w2013.setCell ⟨g2014, 0, none⟩ (.int .i64 (wrap64 (rd l0 0)))).setCell ⟨g2014, 1, none⟩ (.int .i64 0)).setCell ⟨g2014, 2, none⟩ (.float .f64 0)).setCell ⟨g2014, 3, none⟩ (.slice none 0 0))) ?hg ?ho ?hn ?hr ?_; (case ho => rfl); (case hg => rfl); (case hn => rfl); (case hr => first | (go_simp; done) | (go_simp; rfl)); intro w2033 hw; have n0_ := Aside0.mk (show w2033.heap[g2002]? = some (.cells #[.int .i64 0, .int .i64 0, .float .f64 0, .slice none 0 0] 25 (0, 0)) from by rw [hw]; have ne_ : g2002 ≠ g2014 := (by have q_ := OW.out; omega); exact blk_far (blk_far (blk_far (blk_far (BK2003.out) ne_ _) ne_ _) ne_ _) ne_ _); have n1_ := Aside0.mk (show w2033.heap[g2014]? = some (.cells #[.int .i64 (wrap64 (rd l0 0)), .int .i64 0, .float .f64 0, .slice none 0 0] 25 (0, 0)) from by rw [hw]; exact blk_put (cs := #[.int .i64 (wrap64 (rd l0 0)), .int .i64 0, .float .f64 0, .slice none 0 0]) (blk_put (cs := #[.int .i64 (wrap64 (rd l0 0)), .int .i64 0, .float .f64 0, .slice none 0 0]) (blk_put (cs := #[.int .i64 (wrap64 (rd l0 0)), .int .i64 0, .float .f64 0, .slice none 0 0]) (blk_put (cs := #[.int .i64 0, .int .i64 0, .float .f64 0, .slice none 0 0]) (BK2015.out) 0 _ rfl) 1 _ rfl) 2 _ rfl) 3 _ rfl); have n2_ := Aside0.mk (show Below w.heap.size w w2033 from by rw [hw]; have ge_ : w.heap.size ≤ g2014 := (by have q_ := OW.out; omega); exact below_set (below_set (below_set (below_set (HB.out) ge_) ge_) ge_) ge_); have n3_ := Aside0.mk (show g2014 + 1 ≤ w2033.heap.size from by rw [hw]; simp only [size_set]; exact TOP.out); (try clear BK2003 BK2015 HB TOP); have BK2003 := n0_; have BK2015 := n1_; have HB := n2_; have TOP := n3_; clear n0_ n1_ n2_ n3_; clear hw; (try clear hz2017 hz2018 hz2019 hz2020 hy2021 hy2022 hy2023 hy2024 hz2025 hz2026 hz2027 hz2028 hy2029 hy2030 hy2031 hy2032); obtain ⟨hz2035, hz2036, hz2037, hz2038⟩ := blk_cells4 BK2003.out; obtain ⟨hy2039, hy2040, hy2041, hy2042⟩ := blk_frozens4 BK2003.out; obtain ⟨hz2043, hz2044, hz2045, hz2046⟩ := blk_cells4 BK2015.out; obtain ⟨hy2047, hy2048, hy2049, hy2050⟩ := blk_frozens4 BK2015.out) | ((with_reducible refine gate_callee (f := 83) rfl ?_); refine goesL_ (some 45) rfl rfl Try.func83 (by kernel_rfl) rfl #[.slice A34 (l0.drop 1).length (c0 - 1)] rfl (by (try simp only [List.map_toArray, List.map_cons, List.map_nil]); first | done | rfl | (simp only [List.length_drop, List.length_take]; rfl) | (rw [List.length_drop] <;> rfl)) ?_; (with_reducible refine (impl_fromHigh.calls k _ _ (l0.drop 1) t205 _ ?s1 ?s2 A28.out).mono ?_); (case s1 => exact Kd.C_below HR200.out (hup HB.out)); (case s2 => exact HC200.out); rintro e w2051 ⟨rfl, hd⟩; refine ⟨_, rfl, ?_⟩; have hb := drawn0_below hd; clear hd; have n0_ := Aside0.mk (blk_below (bup BK2003.out) hb); have n1_ := Aside0.mk (blk_below (bup BK2015.out) hb); have n2_ := Aside0.mk (below_step (hup HB.out) hb); have n3_ := Aside0.mk (show g2014 + 1 ≤ w2051.heap.size from Nat.le_trans TOP.out hb.size); (try clear BK2003 BK2015 HB TOP); have BK2003 := n0_; have BK2015 := n1_; have HB := n2_; have TOP := n3_; clear n0_ n1_ n2_ n3_; clear hb; (try clear hz2035 hz2036 hz2037 hz2038 hy2039 hy2040 hy2041 hy2042 hz2043 hz2044 hz2045 hz2046 hy2047 hy2048 hy2049 hy2050); obtain ⟨hz2052, hz2053, hz2054, hz2055⟩ := blk_cells4 BK2003.out; obtain ⟨hy2056, hy2057, hy2058, hy2059⟩ := blk_frozens4 BK2003.out; obtain ⟨hz2060, hz2061, hz2062, hz2063⟩ := blk_cells4 BK2015.out; obtain ⟨hy2064, hy2065, hy2066, hy2067⟩ := blk_frozens4 BK2015.out) | (go_at_call 55; (with_reducible refine (impl_KeyRead_1.calls k t205 t206 _ A29.out).mono ?_); rintro e w2068 ⟨rfl, hd⟩; have hb := drawn0_below hd; clear hd; have n0_ := Aside0.mk (blk_below (bup BK2003.out) hb); have n1_ := Aside0.mk (blk_below (bup BK2015.out) hb); have n2_ := Aside0.mk (below_step (hup HB.out) hb); have n3_ := Aside0.mk (show g2014 + 1 ≤ w2068.heap.size from Nat.le_trans TOP.out hb.size); (try clear BK2003 BK2015 HB TOP); have BK2003 := n0_; have BK2015 := n1_; have HB := n2_; have TOP := n3_; clear n0_ n1_ n2_ n3_; clear hb; (try clear hz2052 hz2053 hz2054 hz2055 hy2056 hy2057 hy2058 hy2059 hz2060 hz2061 hz2062 hz2063 hy2064 hy2065 hy2066 hy2067); obtain ⟨hz2069, hz2070, hz2071, hz2072⟩ := blk_cells4 BK2003.out; obtain ⟨hy2073, hy2074, hy2075, hy2076⟩ := blk_frozens4 BK2003.out; obtain ⟨hz2077, hz2078, hz2079, hz2080⟩ := blk_cells4 BK2015.out; obtain ⟨hy2081, hy2082, hy2083, hy2084⟩ := blk_frozens4 BK2015.out) | ((with_reducible refine gate_store (t := 23) (p := 47) rfl ?_); refine store_event (t := 23) (p := 47) (v := ?vo2086) (w1 := (w2068.setCell ⟨g2014, 2, none⟩ (.float .f64 t206))) ?hg ?ho ?hn ?hr ?_; (case ho => rfl); (case hg => rfl); (case hn => rfl); (case hr => first | (go_simp; done) | (go_simp; rfl)); intro w2085 hw; have n0_ := Aside0.mk (show w2085.heap[g2002]? = some (.cells #[.int .i64 0, .int .i64 0, .float .f64 0, .slice none 0 0] 25 (0, 0)) from by rw [hw]; have ne_ : g2002 ≠ g2014 := (by have q_ := OW.out; omega); exact blk_far (BK2003.out) ne_ _); have n1_ := Aside0.mk (show w2085.heap[g2014]? = some (.cells #[.int .i64 (wrap64 (rd l0 0)), .int .i64 0, .float .f64 t206, .slice none 0 0] 25 (0, 0)) from by rw [hw]; exact blk_put (cs := #[.int .i64 (wrap64 (rd l0 0)), .int .i64 0, .float .f64 0, .slice none 0 0]) (BK2015.out) 2 _ rfl); have n2_ := Aside0.mk (show Below w.heap.size w w2085 from by rw [hw]; have ge_ : w.heap.size ≤ g2014 := (by have q_ := OW.out; omega); exact below_set (HB.out) ge_); have n3_ := Aside0.mk (show g2014 + 1 ≤ w2085.heap.size from by rw [hw]; simp only [size_set]; exact TOP.out); (try clear BK2003 BK2015 HB TOP); have BK2003 := n0_; have BK2015 := n1_; have HB := n2_; have TOP := n3_; clear n0_ n1_ n2_ n3_; clear hw; (try clear hz2069 hz2070 hz2071 hz2072 hy2073 hy2074 hy2075 hy2076 hz2077 hz2078 hz2079 hz2080 hy2081 hy2082 hy2083 hy2084); obtain ⟨hz2087, hz2088, hz2089, hz2090⟩ := blk_cells4 BK2003.out; obtain ⟨hy2091, hy2092, hy2093, hy2094⟩ := blk_frozens4 BK2003.out; obtain ⟨hz2095, hz2096, hz2097, hz2098⟩ := blk_cells4 BK2015.out; obtain ⟨hy2099, hy2100, hy2101, hy2102⟩ := blk_frozens4 BK2015.out) | ((with_reducible refine gate_store (t := 25) (p := 4) rfl ?_); refine store_event (t := 25) (p := 4) (v := ?vo2104) (w1 := ((((w2085.setCell ⟨g2002, 0, none⟩ (.int .i64 (wrap64 (rd l0 0)))).setCell ⟨g2002, 1, none⟩ (.int .i64 0)).setCell ⟨g2002, 2, none⟩ (.float .f64 t206)).setCell ⟨g2002, 3, none⟩ (.slice none 0 0))) ?hg ?ho ?hn ?hr ?_; (case ho => rfl); (case hg => rfl); (case hn => rfl); (case hr => first | (go_simp; done) | (go_simp; rfl)); intro w2103 hw; have n0_ := Aside0.mk (show w2103.heap[g2002]? = some (.cells #[.int .i64 (wrap64 (rd l0 0)), .int .i64 0, .float .f64 t206, .slice none 0 0] 25 (0, 0)) from by rw [hw]; exact blk_put (cs := #[.int .i64 (wrap64 (rd l0 0)), .int .i64 0, .float .f64 t206, .slice none 0 0]) (blk_put (cs := #[.int .i64 (wrap64 (rd l0 0)), .int .i64 0, .float .f64 0, .slice none 0 0]) (blk_put (cs := #[.int .i64 (wrap64 (rd l0 0)), .int .i64 0, .float .f64 0, .slice none 0 0]) (blk_put (cs := #[.int .i64 0, .int .i64 0, .float .f64 0, .slice none 0 0]) (BK2003.out) 0 _ rfl) 1 _ rfl) 2 _ rfl) 3 _ rfl); have n1_ := Aside0.mk (show w2103.heap[g2014]? = some (.cells #[.int .i64 (wrap64 (rd l0 0)), .int .i64 0, .float .f64 t206, .slice none 0 0] 25 (0, 0)) from by rw [hw]; have ne_ : g2014 ≠ g2002 := (by have q_ := OW.out; omega); exact blk_far (blk_far (blk_far (blk_far (BK2015.out) ne_ _) ne_ _) ne_ _) ne_ _); have n2_ := Aside0.mk (show Below w.heap.size w w2103 from by rw [hw]; have ge_ : w.heap.size ≤ g2002 := (by have q_ := OW.out; omega); exact below_set (below_set (below_set (below_set (HB.out) ge_) ge_) ge_) ge_); have n3_ := Aside0.mk (show g2014 + 1 ≤ w2103.heap.size from by rw [hw]; simp only [size_set]; exact TOP.out); (try clear BK2003 BK2015 HB TOP); have BK2003 := n0_; have BK2015 := n1_; have HB := n2_; have TOP := n3_; clear n0_ n1_ n2_ n3_; clear hw; (try clear hz2087 hz2088 hz2089 hz2090 hy2091 hy2092 hy2093 hy2094 hz2095 hz2096 hz2097 hz2098 hy2099 hy2100 hy2101 hy2102)))
        refine bodyPost_ret (results_cell_row rfl _ _ g2002 25 #[.int .i64 (wrap64 (rd l0 0)), .int .i64 0, .float .f64 t206, .slice none 0 0] (0, 0) _ rfl (by exact BK2003.out) Try.underlying25 rfl (by kernel_rfl)) rfl ?_
        exact ⟨_, by first | rfl | (simp; done) | (simp [*]; done), Kd.R_nil _ _ _ _ _, HB.out⟩
       ·rw [if_neg c27] at H
        have c27b0 : ((wrap64 (rd l0 0)) == 2) = false := beq_eq_false_iff_ne.mpr c27
        have c27b1 : ((wrap64 (rd l0 0)) != 2) = true := bne_iff_ne.mpr c27
        simp only [Option.some.injEq, Prod.mk.injEq] at H
        obtain ⟨rfl, rfl, rfl, rfl⟩ := H
        go_enter Try.func48, Try.ntmps48
        go_wp2_with (first | ((with_reducible refine gate_dst (N := 4) rfl ?_); refine box_event ?hg (N := 4) ?hd (cs := #[.int .i64 0, .int .i64 0, .float .f64 0, .slice none 0 0]) (t := 25) ?hr ?_; (case hd => rfl); (case hg => rfl); (case hr => first | (go_simp; done) | (go_simp; rfl)); intro gb197 hg w36 hbox hb; have n0_ := Aside0.mk (below_step (hup HB.out) hb); have n1_ := Aside0.mk (hbox); have n2_ := Geq.mk ((by rw [hg]; exact (below_size (hup HB.out)) : w.heap.size ≤ gb197)); have n3_ := Geq.mk ((by rw [hg]; exact (below_size (hup HB.out)) : w.heap.size ≤ gb197)); clear HB; have HB := n0_; have BK197 := n1_; have GW197 := n2_; have GE197 := n3_; clear n0_ n1_ n2_ n3_; clear hb hbox hg; have p198 : 0 ≤ (0 : Int) := (by omega); have q198 : 0 < (l0.length : Int) := of_decide_eq_true (by first | (with_reducible assumption) | assumption); obtain ⟨ad198, e198, hx198_0⟩ := Kd.at_int HR0.out 0 p198 q198; cases e198; have qi198 : (0 < l0.length) = True := eq_true (by omega); (try rw [show ((0 : Int)).toNat = 0 from rfl] at hx198_0); (try rw [Addr.add_zero'] at hx198_0); replace hx198_0 := (HB.out.cell (World.block_lt_of_cell? w _ hx198_0)).trans hx198_0; replace p198 := eq_true p198; replace q198 := eq_true q198) | ((with_reducible refine gate_dst (N := 5) rfl ?_); refine box_event ?hg (N := 5) ?hd (cs := #[.int .i64 0, .int .i64 0, .float .f64 0, .slice none 0 0]) (t := 25) ?hr ?_; (case hd => rfl); (case hg => rfl); (case hr => first | (go_simp; done) | (go_simp; rfl)); intro gb199 hg w37 hbox hb; have n0_ := Aside0.mk (blk_below (bup BK197.out) hb); have n1_ := Aside0.mk (below_step (hset HB.out) hb); have n2_ := Aside0.mk (hbox); have n3_ := Geq.mk ((by rw [hg]; exact (below_size (hset HB.out)) : w.heap.size ≤ gb199)); have n4_ := Geq.mk ((by rw [hg]; exact (below_size (hset HB.out)) : w.heap.size ≤ gb199)); have n5_ := Neq.mk ((by rw [hg]; exact Nat.ne_of_lt (blk_lt (g := gb197) (o := .cells #[.int .i64 0, .int .i64 0, .float .f64 0, .slice none 0 0] 25 (0, 0)) (bup BK197.out)) : gb197 ≠ gb199)); have n6_ := Neq.mk ((by rw [hg]; exact Nat.ne_of_gt (blk_lt (g := gb197) (o := .cells #[.int .i64 0, .int .i64 0, .float .f64 0, .slice none 0 0] 25 (0, 0)) (bup BK197.out)) : gb199 ≠ gb197)); clear BK197; clear HB; have BK197 := n0_; have HB := n1_; have BK199 := n2_; have GW199 := n3_; have GE199 := n4_; have NB197_199 := n5_; have NB199_197 := n6_; clear n0_ n1_ n2_ n3_ n4_ n5_ n6_; clear hb hbox hg; have hnb38 := NB199_197.out; have hnc38 := NB197_199.out; obtain ⟨hcz39_0, hcz39_1, hcz39_2, hcz39_3⟩ := blk_cells4 BK199.out; obtain ⟨hfz39_0, hfz39_1, hfz39_2, hfz39_3⟩ := blk_frozens4 BK199.out; obtain ⟨i040, hi040, _, hsz40, _⟩ := info_parts info5; obtain ⟨A40, hcut40, hA40, hC40⟩ := print_drop_of (P := Try.prog) (Value.int .u8) 0 22 5 .i64 Try.underlying22 hi040 hsz40 (some ad198) c0 l0 1 (by omega) (of_decide_eq_true (by first | (with_reducible assumption) | assumption)) HC0.out; have HR200 := Aside0.mk (Kd.C_of_reads (h1 := fun _ => rfl) (hA40 _ (Kd.reads_of_C HR0.out))); have HC200 := Aside0.mk hC40; clear hA40 hC40 hi040 hsz40; obtain ⟨hcz41_0, hcz41_1, hcz41_2, hcz41_3⟩ := blk_cells4 BK197.out; obtain ⟨hfz41_0, hfz41_1, hfz41_2, hfz41_3⟩ := blk_frozens4 BK197.out))
        refine bodyPost_ret (results_cell_row rfl _ _ gb197 25 #[.int .i64 (wrap64 (rd l0 0)), .int .i64 0, .float .f64 0, .slice none 0 0] (0, 0) _ rfl (bput BK197.out) Try.underlying25 rfl (by kernel_rfl)) rfl ?_
        exact ⟨_, by first | rfl | (simp [errW_none, errW_some] <;> rfl) | (simp [*, errW_none, errW_some] <;> rfl), by first | exact Kd.R_nil _ _ _ _ _ | exact Kd.N_nil _ _ _ _ _ | exact Kd.V_nil _ _ _ _ _ | exact Kd.Q_nil _ _ _ _ _ | exact Kd.S_nil _ _ _ _ _, hset HB.out⟩
     ·rw [if_neg c18] at H
      have c18b0 : (((l0.drop 1).length : Int) == 8) = false := beq_eq_false_iff_ne.mpr c18
      have c18b7 : (((l0.length - 1 : Nat) : Int) == 8) = false := by rw [← List.length_drop]; exact c18b0
      have c18b1 : (((l0.drop 1).length : Int) != 8) = true := bne_iff_ne.mpr c18
      have c18b8 : (((l0.length - 1 : Nat) : Int) != 8) = true := by rw [← List.length_drop]; exact c18b1
      simp only [Option.some.injEq, Prod.mk.injEq] at H
      obtain ⟨rfl, rfl, rfl, rfl⟩ := H
      go_enter Try.func48, Try.ntmps48
      go_wp2_with (first | ((with_reducible refine gate_dst (N := 4) rfl ?_); refine box_event ?hg (N := 4) ?hd (cs := #[.int .i64 0, .int .i64 0, .float .f64 0, .slice none 0 0]) (t := 25) ?hr ?_; (case hd => rfl); (case hg => rfl); (case hr => first | (go_simp; done) | (go_simp; rfl)); intro gb197 hg w42 hbox hb; have n0_ := Aside0.mk (below_step (hup HB.out) hb); have n1_ := Aside0.mk (hbox); have n2_ := Geq.mk ((by rw [hg]; exact (below_size (hup HB.out)) : w.heap.size ≤ gb197)); have n3_ := Geq.mk ((by rw [hg]; exact (below_size (hup HB.out)) : w.heap.size ≤ gb197)); clear HB; have HB := n0_; have BK197 := n1_; have GW197 := n2_; have GE197 := n3_; clear n0_ n1_ n2_ n3_; clear hb hbox hg; have p198 : 0 ≤ (0 : Int) := (by omega); have q198 : 0 < (l0.length : Int) := of_decide_eq_true (by first | (with_reducible assumption) | assumption); obtain ⟨ad198, e198, hx198_0⟩ := Kd.at_int HR0.out 0 p198 q198; cases e198; have qi198 : (0 < l0.length) = True := eq_true (by omega); (try rw [show ((0 : Int)).toNat = 0 from rfl] at hx198_0); (try rw [Addr.add_zero'] at hx198_0); replace hx198_0 := (HB.out.cell (World.block_lt_of_cell? w _ hx198_0)).trans hx198_0; replace p198 := eq_true p198; replace q198 := eq_true q198) | ((with_reducible refine gate_dst (N := 5) rfl ?_); refine box_event ?hg (N := 5) ?hd (cs := #[.int .i64 0, .int .i64 0, .float .f64 0, .slice none 0 0]) (t := 25) ?hr ?_; (case hd => rfl); (case hg => rfl); (case hr => first | (go_simp; done) | (go_simp; rfl)); intro gb199 hg w43 hbox hb; have n0_ := Aside0.mk (blk_below (bup BK197.out) hb); have n1_ := Aside0.mk (below_step (hset HB.out) hb); have n2_ := Aside0.mk (hbox); have n3_ := Geq.mk ((by rw [hg]; exact (below_size (hset HB.out)) : w.heap.size ≤ gb199)); have n4_ := Geq.mk ((by rw [hg]; exact (below_size (hset HB.out)) : w.heap.size ≤ gb199)); have n5_ := Neq.mk ((by rw [hg]; exact Nat.ne_of_lt (blk_lt (g := gb197) (o := .cells #[.int .i64 0, .int .i64 0, .float .f64 0, .slice none 0 0] 25 (0, 0)) (bup BK197.out)) : gb197 ≠ gb199)); have n6_ := Neq.mk ((by rw [hg]; exact Nat.ne_of_gt (blk_lt (g := gb197) (o := .cells #[.int .i64 0, .int .i64 0, .float .f64 0, .slice none 0 0] 25 (0, 0)) (bup BK197.out)) : gb199 ≠ gb197)); clear BK197; clear HB; have BK197 := n0_; have HB := n1_; have BK199 := n2_; have GW199 := n3_; have GE199 := n4_; have NB197_199 := n5_; have NB199_197 := n6_; clear n0_ n1_ n2_ n3_ n4_ n5_ n6_; clear hb hbox hg; have hnb44 := NB199_197.out; have hnc44 := NB197_199.out; obtain ⟨hcz45_0, hcz45_1, hcz45_2, hcz45_3⟩ := blk_cells4 BK199.out; obtain ⟨hfz45_0, hfz45_1, hfz45_2, hfz45_3⟩ := blk_frozens4 BK199.out; obtain ⟨i046, hi046, _, hsz46, _⟩ := info_parts info5; obtain ⟨A46, hcut46, hA46, hC46⟩ := print_drop_of (P := Try.prog) (Value.int .u8) 0 22 5 .i64 Try.underlying22 hi046 hsz46 (some ad198) c0 l0 1 (by omega) (of_decide_eq_true (by first | (with_reducible assumption) | assumption)) HC0.out; have HR200 := Aside0.mk (Kd.C_of_reads (h1 := fun _ => rfl) (hA46 _ (Kd.reads_of_C HR0.out))); have HC200 := Aside0.mk hC46; clear hA46 hC46 hi046 hsz46; obtain ⟨hcz47_0, hcz47_1, hcz47_2, hcz47_3⟩ := blk_cells4 BK197.out; obtain ⟨hfz47_0, hfz47_1, hfz47_2, hfz47_3⟩ := blk_frozens4 BK197.out))
      refine bodyPost_ret (results_cell_row rfl _ _ gb197 25 #[.int .i64 0, .int .i64 0, .float .f64 0, .slice none 0 0] (0, 0) _ rfl (bput BK197.out) Try.underlying25 rfl (by kernel_rfl)) rfl ?_
      exact ⟨_, by first | rfl | (simp [errW_none, errW_some] <;> rfl) | (simp [*, errW_none, errW_some] <;> rfl), by first | exact Kd.R_nil _ _ _ _ _ | exact Kd.N_nil _ _ _ _ _ | exact Kd.V_nil _ _ _ _ _ | exact Kd.Q_nil _ _ _ _ _ | exact Kd.S_nil _ _ _ _ _, hset HB.out⟩
   ·rw [if_neg c6] at H
    exact absurd H (by simp)
  ·rw [if_neg c5] at H
   exact absurd H (by simp)
def bytes_Equal.f (l0 : List Int) (l1 : List Int) : Option (Bool) := some ((strOfNums l0).toList == (strOfNums l1).toList)
set_option maxHeartbeats 8000000 in
set_option maxRecDepth 100000 in
theorem bytes_Equal.calls (A0 : Option Addr) (c0 : Nat) (l0 : List Int) (A1 : Option Addr) (c1 : Nat) (l1 : List Int) (r : Bool) (w : World) (hr0 : Kd.C (Kd.int .u8) w A0 l0.length l0) (hc0 : l0.length ≤ c0) (hr1 : Kd.C (Kd.int .u8) w A1 l1.length l1) (hc1 : l1.length ≤ c1) (h : bytes_Equal.f l0 l1 = some r) :
    Calls Try.prog 51 #[.slice A0 l0.length c0, .slice A1 l1.length c1] w fun e w' => e = .returned (.bool r) ∧ Drawn0 w w' := by
  have HR0 := Aside0.mk hr0
  have HC0 := Aside0.mk hc0
  clear hr0 hc0
  have HR1 := Aside0.mk hr1
  have HC1 := Aside0.mk hc1
  clear hr1 hc1
  have H := h
  clear h
  unfold bytes_Equal.f at H
  obtain rfl := Option.some.inj H
  have hcv3 := Kd.C_string (P := Try.prog) (A := A0) (c := c0) Try.underlying22 Try.underlying5 Try.underlying9 HR0.out
  have hcv4 := Kd.C_string (P := Try.prog) (A := A1) (c := c1) Try.underlying22 Try.underlying5 Try.underlying9 HR1.out
  go_enter Try.func51, Try.ntmps51
  go_wp2
  go_ret
  exact ⟨by first | rfl | (simp; done) | (simp [*]; done), by repeat (first | exact Drawn0.refl _ | apply Drawn0.step)⟩
def impl_readItem_V.f (k : Nat) (l0 : List Int) : Option (Int × Int × Nat × List Int) := if (l0.length : Int) = 0 then (some (0, 0, 0, ([] : List Int))) else (if 0 < (l0.length : Int) then (if 1 ≤ (l0.length : Int) then (if (wrap64 (rd l0 0)) = 3 then ((slices_Clone_byte_byte.f (l0.drop 1)).bind fun t211 => (some (wrap64 (rd l0 0), 0, 0, t211))) else (if ((l0.drop 1).length : Int) = 8 then (if (wrap64 (rd l0 0)) = 1 then ((impl_fromHigh.f k (l0.drop 1)).bind fun t214 => (some (wrap64 (rd l0 0), wrap64 (subSign t214), 0, ([] : List Int)))) else (if (wrap64 (rd l0 0)) = 2 then ((impl_fromHigh.f k (l0.drop 1)).bind fun t215 => ((impl_FloatOf.f t215).bind fun t216 => (some (wrap64 (rd l0 0), 0, t216, ([] : List Int))))) else (some (wrap64 (rd l0 0), 0, 0, ([] : List Int))))) else (some (0, 0, 0, ([] : List Int))))) else (none)) else (none))
theorem impl_readItem_V.mono : ∀ a0 k, LeO (impl_readItem_V.f k a0) (impl_readItem_V.f (k + 1) a0) := by
 intro a0 k
 unfold impl_readItem_V.f
 repeat' with_reducible first | exact impl_fromHigh.mono _ _ | exact LeO.refl _ | exact LeO.none _ | refine LeO.ite ?_ ?_ | refine LeO.bind ?_ (fun _ => ?_)
set_option maxHeartbeats 8000000 in
set_option maxRecDepth 100000 in
theorem impl_readItem_V.calls (k : Nat) (A0 : Option Addr) (c0 : Nat) (l0 : List Int) (r1 : Int) (r2 : Int) (r3 : Nat) (r4 : List Int) (w : World) (hr0 : Kd.C (Kd.int .u8) w A0 l0.length l0) (hc0 : l0.length ≤ c0) (h : impl_readItem_V.f k l0 = some (r1, r2, r3, r4)) :
  Calls Try.prog 48 #[.slice A0 l0.length c0, .func (.func 49) #[] #[]] w fun e w' => ∃ v3_ : Value, e = .returned (.agg #[.int .i64 r1, .int .i64 r2, .float .f64 r3, v3_]) ∧ Kd.R (Kd.int .u8) 5 w' w.heap.size (fun _ => True) v3_ r4 ∧ Below w.heap.size w w' := by
 have hu25 := Try.underlying25
 have HR0 := Aside0.mk hr0
 have HC0 := Aside0.mk hc0
 clear hr0 hc0
 have HB := Aside0.mk (Below.refl w.heap.size w)
 have H := h
 clear h
 unfold impl_readItem_V.f at H
 by_cases c2 : (l0.length : Int) = 0
 ·rw [if_pos c2] at H
  have c2b0 : ((l0.length : Int) == 0) = true := beq_iff_eq.mpr c2
  have c2b1 : ((l0.length : Int) != 0) = false := bne_eq_false_iff_eq.mpr c2
  clear c2
  simp only [Option.some.injEq, Prod.mk.injEq] at H
  obtain ⟨rfl, rfl, rfl, rfl⟩ := H
  go_enter Try.func48, Try.ntmps48
  go_wp2_with (first | ((with_reducible refine gate_dst (N := 4) rfl ?_); refine box_event ?hg (N := 4) ?hd (cs := #[.int .i64 0, .int .i64 0, .float .f64 0, .slice none 0 0]) (t := 25) ?hr ?_; (case hd => rfl); (case hg => rfl); (case hr => first | (go_simp; done) | (go_simp; rfl)); intro gb207 hg w3 hbox hb; have n0_ := Aside0.mk (below_step (hup HB.out) hb); have n1_ := Aside0.mk (hbox); have n2_ := Geq.mk ((by rw [hg]; exact (below_size (hup HB.out)) : w.heap.size ≤ gb207)); have n3_ := Geq.mk ((by rw [hg]; exact (below_size (hup HB.out)) : w.heap.size ≤ gb207)); clear HB; have HB := n0_; have BK207 := n1_; have GW207 := n2_; have GE207 := n3_; clear n0_ n1_ n2_ n3_; clear hb hbox hg; obtain ⟨hcz4_0, hcz4_1, hcz4_2, hcz4_3⟩ := blk_cells4 BK207.out; obtain ⟨hfz4_0, hfz4_1, hfz4_2, hfz4_3⟩ := blk_frozens4 BK207.out))
  refine bodyPost_ret (results_cell_row rfl _ _ gb207 25 #[.int .i64 0, .int .i64 0, .float .f64 0, .slice none 0 0] (0, 0) _ rfl (bput BK207.out) Try.underlying25 rfl (by kernel_rfl)) rfl ?_
  exact ⟨_, by first | rfl | (simp [errW_none, errW_some] <;> rfl) | (simp [*, errW_none, errW_some] <;> rfl), by first | exact Kd.R_nil _ _ _ _ _ | exact Kd.N_nil _ _ _ _ _ | exact Kd.V_nil _ _ _ _ _ | exact Kd.Q_nil _ _ _ _ _ | exact Kd.S_nil _ _ _ _ _, hset HB.out⟩
 ·rw [if_neg c2] at H
  have c2b0 : ((l0.length : Int) == 0) = false := beq_eq_false_iff_ne.mpr c2
  have c2b1 : ((l0.length : Int) != 0) = true := bne_iff_ne.mpr c2
  have c2b2 : ¬ (l0 = []) := fun h_ => c2 (by rw [h_]; rfl)
  by_cases c5 : 0 < (l0.length : Int)
  ·rw [if_pos c5] at H
   have c5b0 : decide (0 < (l0.length : Int)) = true := decide_eq_true c5
   have c5b1 : decide (0 < l0.length) = true := decide_eq_true (by omega)
   clear c5
   by_cases c6 : 1 ≤ (l0.length : Int)
   ·rw [if_pos c6] at H
    have c6b0 := eq_true c6
    have c6b1 : decide (1 ≤ (l0.length : Int)) = true := decide_eq_true c6
    clear c6
    by_cases c7 : (wrap64 (rd l0 0)) = 3
    ·rw [if_pos c7] at H
     have c7b0 : ((wrap64 (rd l0 0)) == 3) = true := beq_iff_eq.mpr c7
     have c7b1 : ((wrap64 (rd l0 0)) != 3) = false := bne_eq_false_iff_eq.mpr c7
     clear c7
     replace H := Option.bind_eq_some_iff.mp H
     obtain ⟨t211, A80, H⟩ := H
     (try dsimp only at H)
     have A8 := Aside0.mk A80
     clear A80
     simp only [Option.some.injEq, Prod.mk.injEq] at H
     obtain ⟨rfl, rfl, rfl, rfl⟩ := H
     go_enter Try.func48, Try.ntmps48
     go_wp2_with (first | ((with_reducible refine gate_dst (N := 4) rfl ?_); refine box_event ?hg (N := 4) ?hd (cs := #[.int .i64 0, .int .i64 0, .float .f64 0, .slice none 0 0]) (t := 25) ?hr ?_; (case hd => rfl); (case hg => rfl); (case hr => first | (go_simp; done) | (go_simp; rfl)); intro gb207 hg w9 hbox hb; have n0_ := Aside0.mk (below_step (hup HB.out) hb); have n1_ := Aside0.mk (hbox); have n2_ := Geq.mk ((by rw [hg]; exact (below_size (hup HB.out)) : w.heap.size ≤ gb207)); have n3_ := Geq.mk ((by rw [hg]; exact (below_size (hup HB.out)) : w.heap.size ≤ gb207)); clear HB; have HB := n0_; have BK207 := n1_; have GW207 := n2_; have GE207 := n3_; clear n0_ n1_ n2_ n3_; clear hb hbox hg; have p208 : 0 ≤ (0 : Int) := (by omega); have q208 : 0 < (l0.length : Int) := of_decide_eq_true (by first | (with_reducible assumption) | assumption); obtain ⟨ad208, e208, hx208_0⟩ := Kd.at_int HR0.out 0 p208 q208; cases e208; have qi208 : (0 < l0.length) = True := eq_true (by omega); (try rw [show ((0 : Int)).toNat = 0 from rfl] at hx208_0); (try rw [Addr.add_zero'] at hx208_0); replace hx208_0 := (HB.out.cell (World.block_lt_of_cell? w _ hx208_0)).trans hx208_0; replace p208 := eq_true p208; replace q208 := eq_true q208) | ((with_reducible refine gate_dst (N := 5) rfl ?_); refine box_event ?hg (N := 5) ?hd (cs := #[.int .i64 0, .int .i64 0, .float .f64 0, .slice none 0 0]) (t := 25) ?hr ?_; (case hd => rfl); (case hg => rfl); (case hr => first | (go_simp; done) | (go_simp; rfl)); intro gb209 hg w10 hbox hb; have n0_ := Aside0.mk (blk_below (bup BK207.out) hb); have n1_ := Aside0.mk (below_step (hset HB.out) hb); have n2_ := Aside0.mk (hbox); have n3_ := Geq.mk ((by rw [hg]; exact (below_size (hset HB.out)) : w.heap.size ≤ gb209)); have n4_ := Geq.mk ((by rw [hg]; exact (below_size (hset HB.out)) : w.heap.size ≤ gb209)); have n5_ := Neq.mk ((by rw [hg]; exact Nat.ne_of_lt (blk_lt (g := gb207) (o := .cells #[.int .i64 0, .int .i64 0, .float .f64 0, .slice none 0 0] 25 (0, 0)) (bup BK207.out)) : gb207 ≠ gb209)); have n6_ := Neq.mk ((by rw [hg]; exact Nat.ne_of_gt (blk_lt (g := gb207) (o := .cells #[.int .i64 0, .int .i64 0, .float .f64 0, .slice none 0 0] 25 (0, 0)) (bup BK207.out)) : gb209 ≠ gb207)); clear BK207; clear HB; have BK207 := n0_; have HB := n1_; have BK209 := n2_; have GW209 := n3_; have GE209 := n4_; have NB207_209 := n5_; have NB209_207 := n6_; clear n0_ n1_ n2_ n3_ n4_ n5_ n6_; clear hb hbox hg; have hnb11 := NB209_207.out; have hnc11 := NB207_209.out; obtain ⟨hcz12_0, hcz12_1, hcz12_2, hcz12_3⟩ := blk_cells4 BK209.out; obtain ⟨hfz12_0, hfz12_1, hfz12_2, hfz12_3⟩ := blk_frozens4 BK209.out; obtain ⟨i013, hi013, _, hsz13, _⟩ := info_parts info5; obtain ⟨A13, hcut13, hA13, hC13⟩ := print_drop_of (P := Try.prog) (Value.int .u8) 0 22 5 .i64 Try.underlying22 hi013 hsz13 (some ad208) c0 l0 1 (by omega) (of_decide_eq_true (by first | (with_reducible assumption) | assumption)) HC0.out; have HR210 := Aside0.mk (Kd.C_of_reads (h1 := fun _ => rfl) (hA13 _ (Kd.reads_of_C HR0.out))); have HC210 := Aside0.mk hC13; clear hA13 hC13 hi013 hsz13) | ((with_reducible refine gate_callee (f := 82) rfl ?_); refine goesL_ (some 23) rfl rfl Try.func82 (by kernel_rfl) rfl #[.slice A13 (l0.drop 1).length (c0 - 1)] rfl (by (try simp only [List.map_toArray, List.map_cons, List.map_nil]); first | done | (rw [show (l0.drop 1).length = (l0.length - 1) from List.length_drop] <;> rfl) | rfl | (simp only [List.length_drop, List.length_take]; rfl)) ?_; (with_reducible refine (slices_Clone_byte_byte.calls _ _ (l0.drop 1) t211 _ ?side1 ?side2 A8.out).mono ?_); (case side1 => exact Kd.C_below HR210.out (hset HB.out)); (case side2 => exact HC210.out); rintro e w14 ⟨v212, rfl, ho0, hb⟩; refine ⟨_, rfl, ?_⟩; have n0_ := Aside0.mk (Kd.R_lower ho0 (below_size (hset HB.out))); have n1_ := Aside0.mk (blk_below (g := gb207) (o := .cells #[.int .i64 0, .int .i64 0, .float .f64 0, .slice none 0 0] 25 (0, 0)) (bput BK207.out) hb); have n2_ := Aside0.mk (blk_below (g := gb209) (o := .cells #[.int .i64 (wrap64 (rd l0 0)), .int .i64 0, .float .f64 0, .slice none 0 0] 25 (0, 0)) (bput BK209.out) hb); have n3_ := Aside0.mk (below_step (hset HB.out) hb); clear BK207; clear BK209; clear HB; have HO213 := n0_; have BK207 := n1_; have BK209 := n2_; have HB := n3_; clear n0_ n1_ n2_ n3_; (try clear hb); (try clear hb2); (try clear hk); (try clear hi); (try clear ho0); obtain ⟨Ao15, co15, eo15⟩ := Kd.R_slice HO213.out; subst eo15; obtain ⟨hcz16_0, hcz16_1, hcz16_2, hcz16_3⟩ := blk_cells4 BK209.out; obtain ⟨hfz16_0, hfz16_1, hfz16_2, hfz16_3⟩ := blk_frozens4 BK209.out; obtain ⟨hcz17_0, hcz17_1, hcz17_2, hcz17_3⟩ := blk_cells4 BK207.out; obtain ⟨hfz17_0, hfz17_1, hfz17_2, hfz17_3⟩ := blk_frozens4 BK207.out))
     refine bodyPost_ret (results_cell_row rfl _ _ gb207 25 #[.int .i64 (wrap64 (rd l0 0)), .int .i64 0, .float .f64 0, .slice Ao15 t211.length co15] (0, 0) _ rfl (bput BK207.out) Try.underlying25 rfl (by kernel_rfl)) rfl ?_
     exact ⟨_, by first | rfl | (simp [errW_none, errW_some] <;> rfl) | (simp [*, errW_none, errW_some] <;> rfl), by exact Kd.rup (Kd.R_mono (Kd.R_far (p := ⟨gb207, 3, none⟩) (Kd.R_far (p := ⟨gb207, 2, none⟩) (Kd.R_far (p := ⟨gb207, 1, none⟩) (Kd.R_far (p := ⟨gb207, 0, none⟩) (Kd.R_far (p := ⟨gb209, 3, none⟩) (Kd.R_types (Kd.R_types HO213.out BK209.out (by decide)) BK207.out (by decide)) (fun _ hk => hk.1.2) (.slice Ao15 t211.length co15)) (fun _ hk => hk.2) (.int .i64 (wrap64 (rd l0 0)))) (fun _ hk => hk.2) (.int .i64 0)) (fun _ hk => hk.2) (.float .f64 0)) (fun _ hk => hk.2) (.slice Ao15 t211.length co15)) (fun _ hk => trivial)), hset HB.out⟩
    ·rw [if_neg c7] at H
     have c7b0 : ((wrap64 (rd l0 0)) == 3) = false := beq_eq_false_iff_ne.mpr c7
     have c7b1 : ((wrap64 (rd l0 0)) != 3) = true := bne_iff_ne.mpr c7
     by_cases c18 : ((l0.drop 1).length : Int) = 8
     ·rw [if_pos c18] at H
      have c18b0 : (((l0.drop 1).length : Int) == 8) = true := beq_iff_eq.mpr c18
      have c18b7 : (((l0.length - 1 : Nat) : Int) == 8) = true := by rw [← List.length_drop]; exact c18b0
      have c18b1 : (((l0.drop 1).length : Int) != 8) = false := bne_eq_false_iff_eq.mpr c18
      have c18b8 : (((l0.length - 1 : Nat) : Int) != 8) = false := by rw [← List.length_drop]; exact c18b1
      clear c18
      by_cases c19 : (wrap64 (rd l0 0)) = 1
      ·rw [if_pos c19] at H
       have c19b0 : ((wrap64 (rd l0 0)) == 1) = true := beq_iff_eq.mpr c19
       have c19b1 : ((wrap64 (rd l0 0)) != 1) = false := bne_eq_false_iff_eq.mpr c19
       clear c19
       replace H := Option.bind_eq_some_iff.mp H
       obtain ⟨t214, A200, H⟩ := H
       (try dsimp only at H)
       have A20 := Aside0.mk A200
       clear A200
       simp only [Option.some.injEq, Prod.mk.injEq] at H
       obtain ⟨rfl, rfl, rfl, rfl⟩ := H
       have TOP := Aside0.mk (Nat.le_refl w.heap.size)
       have OW := Aside0.mk (Nat.le_refl w.heap.size)
       go_enter Try.func48, Try.ntmps48
       try go_wp2_with (first | ((with_reducible refine gate_dst (N := 4) rfl ?_); refine box_event ?hg (N := 4) ?hd (cs := #[.int .i64 0, .int .i64 0, .float .f64 0, .slice none 0 0]) (t := 25) ?hr ?_; (case hd => rfl); (case hg => rfl); (case hr => first | (go_simp; done) | (go_simp; rfl)); intro g1002 hg w1001 hbox hb; have OD1004 := Aside0.mk (show w.heap.size ≤ g1002 from by rw [hg]; exact TOP.out); have n0_ := Aside0.mk (below_step (hup HB.out) hb); have n1_ := Aside0.mk (show g1002 + 1 ≤ w1001.heap.size from blk_lt hbox); (try clear HB TOP); have HB := n0_; have TOP := n1_; clear n0_ n1_; have BK1003 := Aside0.mk (show w1001.heap[g1002]? = some (.cells #[.int .i64 0, .int .i64 0, .float .f64 0, .slice none 0 0] 25 (0, 0)) from hbox); clear hg hb hbox; have OW_ := Aside0.mk (And.intro OW.out OD1004.out); clear OW OD1004; have OW := OW_; clear OW_; obtain ⟨hz1005, hz1006, hz1007, hz1008⟩ := blk_cells4 BK1003.out; obtain ⟨hy1009, hy1010, hy1011, hy1012⟩ := blk_frozens4 BK1003.out; have p208 : 0 ≤ (0 : Int) := (by omega); have q208 : 0 < (l0.length : Int) := of_decide_eq_true (by first | (with_reducible assumption) | assumption); obtain ⟨ad208, e208, hx208_0⟩ := Kd.at_int HR0.out 0 p208 q208; cases e208; have qi208 : (0 < l0.length) = True := eq_true (by omega); (try rw [show ((0 : Int)).toNat = 0 from rfl] at hx208_0); (try rw [Addr.add_zero'] at hx208_0); replace hx208_0 := (HB.out.cell (World.block_lt_of_cell? w _ hx208_0)).trans hx208_0; replace p208 := eq_true p208; replace q208 := eq_true q208) | ((with_reducible refine gate_dst (N := 5) rfl ?_); refine box_event ?hg (N := 5) ?hd (cs := #[.int .i64 0, .int .i64 0, .float .f64 0, .slice none 0 0]) (t := 25) ?hr ?_; (case hd => rfl); (case hg => rfl); (case hr => first | (go_simp; done) | (go_simp; rfl)); intro g1014 hg w1013 hbox hb; have OD1016 := Aside0.mk (show g1002 + 1 ≤ g1014 from by rw [hg]; exact TOP.out); have n0_ := Aside0.mk (blk_below (bup BK1003.out) hb); have n1_ := Aside0.mk (below_step (hup HB.out) hb); have n2_ := Aside0.mk (show g1014 + 1 ≤ w1013.heap.size from blk_lt hbox); (try clear BK1003 HB TOP); have BK1003 := n0_; have HB := n1_; have TOP := n2_; clear n0_ n1_ n2_; have BK1015 := Aside0.mk (show w1013.heap[g1014]? = some (.cells #[.int .i64 0, .int .i64 0, .float .f64 0, .slice none 0 0] 25 (0, 0)) from hbox); clear hg hb hbox; have OW_ := Aside0.mk (And.intro OW.out OD1016.out); clear OW OD1016; have OW := OW_; clear OW_; (try clear hz1005 hz1006 hz1007 hz1008 hy1009 hy1010 hy1011 hy1012); obtain ⟨hz1017, hz1018, hz1019, hz1020⟩ := blk_cells4 BK1003.out; obtain ⟨hy1021, hy1022, hy1023, hy1024⟩ := blk_frozens4 BK1003.out; obtain ⟨hz1025, hz1026, hz1027, hz1028⟩ := blk_cells4 BK1015.out; obtain ⟨hy1029, hy1030, hy1031, hy1032⟩ := blk_frozens4 BK1015.out; obtain ⟨i025, hi025, _, hsz25, _⟩ := info_parts info5; obtain ⟨A25, hcut25, hA25, hC25⟩ := print_drop_of (P := Try.prog) (Value.int .u8) 0 22 5 .i64 Try.underlying22 hi025 hsz25 (some ad208) c0 l0 1 (by omega) (of_decide_eq_true (by first | (with_reducible assumption) | assumption)) HC0.out; have HR210 := Aside0.mk (Kd.C_of_reads (h1 := fun _ => rfl) (hA25 _ (Kd.reads_of_C HR0.out))); have HC210 := Aside0.mk hC25; clear hA25 hC25 hi025 hsz25) | ((with_reducible refine gate_store (t := 25) (p := 5) rfl ?_); refine store_event (t := 25) (p := 5) (v := ?vo1034) (w1 := ((((w1013.setCell ⟨g1014, 0, none⟩ (.int .i64 (wrap64 (rd l0 0)))).setCell ⟨g1014, 1, none⟩ (.int .i64 0)).setCell ⟨g1014, 2, none⟩ (.float .f64 0)).setCell ⟨g1014, 3, none⟩ (.slice none 0 0))) ?hg ?ho ?hn ?hr ?_; (case ho => rfl); (case hg => rfl); (case hn => rfl); (case hr => first | (go_simp; done) | (go_simp; rfl)); intro w1033 hw; have n0_ := Aside0.mk (show w1033.heap[g1002]? = some (.cells #[.int .i64 0, .int .i64 0, .float .f64 0, .slice none 0 0] 25 (0, 0)) from by rw [hw]; have ne_ : g1002 ≠ g1014 := (by have q_ := OW.out; omega); exact blk_far (blk_far (blk_far (blk_far (BK1003.out) ne_ _) ne_ _) ne_ _) ne_ _); have n1_ := Aside0.mk (show w1033.heap[g1014]? = some (.cells #[.int .i64 (wrap64 (rd l0 0)), .int .i64 0, .float .f64 0, .slice none 0 0] 25 (0, 0)) from by rw [hw]; exact blk_put (cs := #[.int .i64 (wrap64 (rd l0 0)), .int .i64 0, .float .f64 0, .slice none 0 0]) (blk_put (cs := #[.int .i64 (wrap64 (rd l0 0)), .int .i64 0, .float .f64 0, .slice none 0 0]) (blk_put (cs := #[.int .i64 (wrap64 (rd l0 0)), .int .i64 0, .float .f64 0, .slice none 0 0]) (blk_put (cs := #[.int .i64 0, .int .i64 0, .float .f64 0, .slice none 0 0]) (BK1015.out) 0 _ rfl) 1 _ rfl) 2 _ rfl) 3 _ rfl); have n2_ := Aside0.mk (show Below w.heap.size w w1033 from by rw [hw]; have ge_ : w.heap.size ≤ g1014 := (by have q_ := OW.out; omega); exact below_set (below_set (below_set (below_set (HB.out) ge_) ge_) ge_) ge_); have n3_ := Aside0.mk (show g1014 + 1 ≤ w1033.heap.size from by rw [hw]; simp only [size_set]; exact TOP.out); (try clear BK1003 BK1015 HB TOP); have BK1003 := n0_; have BK1015 := n1_; have HB := n2_; have TOP := n3_; clear n0_ n1_ n2_ n3_; clear hw; (try clear hz1017 hz1018 hz1019 hz1020 hy1021 hy1022 hy1023 hy1024 hz1025 hz1026 hz1027 hz1028 hy1029 hy1030 hy1031 hy1032); obtain ⟨hz1035, hz1036, hz1037, hz1038⟩ := blk_cells4 BK1003.out; obtain ⟨hy1039, hy1040, hy1041, hy1042⟩ := blk_frozens4 BK1003.out; obtain ⟨hz1043, hz1044, hz1045, hz1046⟩ := blk_cells4 BK1015.out; obtain ⟨hy1047, hy1048, hy1049, hy1050⟩ := blk_frozens4 BK1015.out) | ((with_reducible refine gate_callee (f := 83) rfl ?_); refine goesL_ (some 35) rfl rfl Try.func83 (by kernel_rfl) rfl #[.slice A25 (l0.drop 1).length (c0 - 1)] rfl (by (try simp only [List.map_toArray, List.map_cons, List.map_nil]); first | done | rfl | (simp only [List.length_drop, List.length_take]; rfl) | (rw [List.length_drop] <;> rfl)) ?_; (with_reducible refine (impl_fromHigh.calls k _ _ (l0.drop 1) t214 _ ?s1 ?s2 A20.out).mono ?_); (case s1 => exact Kd.C_below HR210.out (hup HB.out)); (case s2 => exact HC210.out); rintro e w1051 ⟨rfl, hd⟩; refine ⟨_, rfl, ?_⟩; have hb := drawn0_below hd; clear hd; have n0_ := Aside0.mk (blk_below (bup BK1003.out) hb); have n1_ := Aside0.mk (blk_below (bup BK1015.out) hb); have n2_ := Aside0.mk (below_step (hup HB.out) hb); have n3_ := Aside0.mk (show g1014 + 1 ≤ w1051.heap.size from Nat.le_trans TOP.out hb.size); (try clear BK1003 BK1015 HB TOP); have BK1003 := n0_; have BK1015 := n1_; have HB := n2_; have TOP := n3_; clear n0_ n1_ n2_ n3_; clear hb; (try clear hz1035 hz1036 hz1037 hz1038 hy1039 hy1040 hy1041 hy1042 hz1043 hz1044 hz1045 hz1046 hy1047 hy1048 hy1049 hy1050); obtain ⟨hz1052, hz1053, hz1054, hz1055⟩ := blk_cells4 BK1003.out; obtain ⟨hy1056, hy1057, hy1058, hy1059⟩ := blk_frozens4 BK1003.out; obtain ⟨hz1060, hz1061, hz1062, hz1063⟩ := blk_cells4 BK1015.out; obtain ⟨hy1064, hy1065, hy1066, hy1067⟩ := blk_frozens4 BK1015.out) | ((with_reducible refine gate_store (t := 3) (p := 38) rfl ?_); refine store_event (t := 3) (p := 38) (v := ?vo1069) (w1 := (w1051.setCell ⟨g1014, 1, none⟩ (.int .i64 (wrap64 (subSign t214))))) ?hg ?ho ?hn ?hr ?_; (case ho => rfl); (case hg => rfl); (case hn => rfl); (case hr => first | (go_simp; done) | (go_simp; rfl)); intro w1068 hw; have n0_ := Aside0.mk (show w1068.heap[g1002]? = some (.cells #[.int .i64 0, .int .i64 0, .float .f64 0, .slice none 0 0] 25 (0, 0)) from by rw [hw]; have ne_ : g1002 ≠ g1014 := (by have q_ := OW.out; omega); exact blk_far (BK1003.out) ne_ _); have n1_ := Aside0.mk (show w1068.heap[g1014]? = some (.cells #[.int .i64 (wrap64 (rd l0 0)), .int .i64 (wrap64 (subSign t214)), .float .f64 0, .slice none 0 0] 25 (0, 0)) from by rw [hw]; exact blk_put (cs := #[.int .i64 (wrap64 (rd l0 0)), .int .i64 0, .float .f64 0, .slice none 0 0]) (BK1015.out) 1 _ rfl); have n2_ := Aside0.mk (show Below w.heap.size w w1068 from by rw [hw]; have ge_ : w.heap.size ≤ g1014 := (by have q_ := OW.out; omega); exact below_set (HB.out) ge_); have n3_ := Aside0.mk (show g1014 + 1 ≤ w1068.heap.size from by rw [hw]; simp only [size_set]; exact TOP.out); (try clear BK1003 BK1015 HB TOP); have BK1003 := n0_; have BK1015 := n1_; have HB := n2_; have TOP := n3_; clear n0_ n1_ n2_ n3_; clear hw; (try clear hz1052 hz1053 hz1054 hz1055 hy1056 hy1057 hy1058 hy1059 hz1060 hz1061 hz1062 hz1063 hy1064 hy1065 hy1066 hy1067); obtain ⟨hz1070, hz1071, hz1072, hz1073⟩ := blk_cells4 BK1003.out; obtain ⟨hy1074, hy1075, hy1076, hy1077⟩ := blk_frozens4 BK1003.out; obtain ⟨hz1078, hz1079, hz1080, hz1081⟩ := blk_cells4 BK1015.out; obtain ⟨hy1082, hy1083, hy1084, hy1085⟩ := blk_frozens4 BK1015.out) | ((with_reducible refine gate_store (t := 25) (p := 4) rfl ?_); refine store_event (t := 25) (p := 4) (v := ?vo1087) (w1 := ((((w1068.setCell ⟨g1002, 0, none⟩ (.int .i64 (wrap64 (rd l0 0)))).setCell ⟨g1002, 1, none⟩ (.int .i64 (wrap64 (subSign t214)))).setCell ⟨g1002, 2, none⟩ (.float .f64 0)).setCell ⟨g1002, 3, none⟩ (.slice none 0 0))) ?hg ?ho ?hn ?hr ?_; (case ho => rfl); (case hg => rfl); (case hn => rfl); (case hr => first | (go_simp; done) | (go_simp; rfl)); intro w1086 hw; have n0_ := Aside0.mk (show w1086.heap[g1002]? = some (.cells #[.int .i64 (wrap64 (rd l0 0)), .int .i64 (wrap64 (subSign t214)), .float .f64 0, .slice none 0 0] 25 (0, 0)) from by rw [hw]; exact blk_put (cs := #[.int .i64 (wrap64 (rd l0 0)), .int .i64 (wrap64 (subSign t214)), .float .f64 0, .slice none 0 0]) (blk_put (cs := #[.int .i64 (wrap64 (rd l0 0)), .int .i64 (wrap64 (subSign t214)), .float .f64 0, .slice none 0 0]) (blk_put (cs := #[.int .i64 (wrap64 (rd l0 0)), .int .i64 0, .float .f64 0, .slice none 0 0]) (blk_put (cs := #[.int .i64 0, .int .i64 0, .float .f64 0, .slice none 0 0]) (BK1003.out) 0 _ rfl) 1 _ rfl) 2 _ rfl) 3 _ rfl); have n1_ := Aside0.mk (show w1086.heap[g1014]? = some (.cells #[.int .i64 (wrap64 (rd l0 0)), .int .i64 (wrap64 (subSign t214)), .float .f64 0, .slice none 0 0] 25 (0, 0)) from by rw [hw]; have ne_ : g1014 ≠ g1002 := (by have q_ := OW.out; omega); exact blk_far (blk_far (blk_far (blk_far (BK1015.out) ne_ _) ne_ _) ne_ _) ne_ _); have n2_ := Aside0.mk (show Below w.heap.size w w1086 from by rw [hw]; have ge_ : w.heap.size ≤ g1002 := (by have q_ := OW.out; omega); exact below_set (below_set (below_set (below_set (HB.out) ge_) ge_) ge_) ge_); have n3_ := Aside0.mk (show g1014 + 1 ≤ w1086.heap.size from by rw [hw]; simp only [size_set]; exact TOP.out); (try clear BK1003 BK1015 HB TOP); have BK1003 := n0_; have BK1015 := n1_; have HB := n2_; have TOP := n3_; clear n0_ n1_ n2_ n3_; clear hw; (try clear hz1070 hz1071 hz1072 hz1073 hy1074 hy1075 hy1076 hy1077 hz1078 hz1079 hz1080 hz1081 hy1082 hy1083 hy1084 hy1085)))
       refine bodyPost_ret (results_cell_row rfl _ _ g1002 25 #[.int .i64 (wrap64 (rd l0 0)), .int .i64 (wrap64 (subSign t214)), .float .f64 0, .slice none 0 0] (0, 0) _ rfl (by exact BK1003.out) Try.underlying25 rfl (by kernel_rfl)) rfl ?_
       exact ⟨_, by first | rfl | (simp; done) | (simp [*]; done), Kd.R_nil _ _ _ _ _, HB.out⟩
      ·rw [if_neg c19] at H
       have c19b0 : ((wrap64 (rd l0 0)) == 1) = false := beq_eq_false_iff_ne.mpr c19
       have c19b1 : ((wrap64 (rd l0 0)) != 1) = true := bne_iff_ne.mpr c19
       by_cases c27 : (wrap64 (rd l0 0)) = 2
       ·rw [if_pos c27] at H
        have c27b0 : ((wrap64 (rd l0 0)) == 2) = true := beq_iff_eq.mpr c27
        have c27b1 : ((wrap64 (rd l0 0)) != 2) = false := bne_eq_false_iff_eq.mpr c27
        clear c27
        replace H := Option.bind_eq_some_iff.mp H
        obtain ⟨t215, A280, H⟩ := H
        (try dsimp only at H)
        have A28 := Aside0.mk A280
        clear A280
        replace H := Option.bind_eq_some_iff.mp H
        obtain ⟨t216, A290, H⟩ := H
        (try dsimp only at H)
        have A29 := Aside0.mk A290
        clear A290
        simp only [Option.some.injEq, Prod.mk.injEq] at H
        obtain ⟨rfl, rfl, rfl, rfl⟩ := H
        have TOP := Aside0.mk (Nat.le_refl w.heap.size)
        have OW := Aside0.mk (Nat.le_refl w.heap.size)
        go_enter Try.func48, Try.ntmps48
        try go_wp2_with (first | ((with_reducible refine gate_dst (N := 4) rfl ?_); refine box_event ?hg (N := 4) ?hd (cs := #[.int .i64 0, .int .i64 0, .float .f64 0, .slice none 0 0]) (t := 25) ?hr ?_; (case hd => rfl); (case hg => rfl); (case hr => first | (go_simp; done) | (go_simp; rfl)); intro g2002 hg w2001 hbox hb; have OD2004 := Aside0.mk (show w.heap.size ≤ g2002 from by rw [hg]; exact TOP.out); have n0_ := Aside0.mk (below_step (hup HB.out) hb); have n1_ := Aside0.mk (show g2002 + 1 ≤ w2001.heap.size from blk_lt hbox); (try clear HB TOP); have HB := n0_; have TOP := n1_; clear n0_ n1_; have BK2003 := Aside0.mk (show w2001.heap[g2002]? = some (.cells #[.int .i64 0, .int .i64 0, .float .f64 0, .slice none 0 0] 25 (0, 0)) from hbox); clear hg hb hbox; have OW_ := Aside0.mk (And.intro OW.out OD2004.out); clear OW OD2004; have OW := OW_; clear OW_; obtain ⟨hz2005, hz2006, hz2007, hz2008⟩ := blk_cells4 BK2003.out; obtain ⟨hy2009, hy2010, hy2011, hy2012⟩ := blk_frozens4 BK2003.out; have p208 : 0 ≤ (0 : Int) := (by omega); have q208 : 0 < (l0.length : Int) := of_decide_eq_true (by first | (with_reducible assumption) | assumption); obtain ⟨ad208, e208, hx208_0⟩ := Kd.at_int HR0.out 0 p208 q208; cases e208; have qi208 : (0 < l0.length) = True := eq_true (by omega); (try rw [show ((0 : Int)).toNat = 0 from rfl] at hx208_0); (try rw [Addr.add_zero'] at hx208_0); replace hx208_0 := (HB.out.cell (World.block_lt_of_cell? w _ hx208_0)).trans hx208_0; replace p208 := eq_true p208; replace q208 := eq_true q208) | ((with_reducible refine gate_dst (N := 5) rfl ?_); refine box_event ?hg (N := 5) ?hd (cs := #[.int .i64 0, .int .i64 0, .float .f64 0, .slice none 0 0]) (t := 25) ?hr ?_; (case hd => rfl); (case hg => rfl); (case hr => first | (go_simp; done) | (go_simp; rfl)); intro g2014 hg w2013 hbox hb; have OD2016 := Aside0.mk (show g2002 + 1 ≤ g2014 from by rw [hg]; exact TOP.out); have n0_ := Aside0.mk (blk_below (bup BK2003.out) hb); have n1_ := Aside0.mk (below_step (hup HB.out) hb); have n2_ := Aside0.mk (show g2014 + 1 ≤ w2013.heap.size from blk_lt hbox); (try clear BK2003 HB TOP); have BK2003 := n0_; have HB := n1_; have TOP := n2_; clear n0_ n1_ n2_; have BK2015 := Aside0.mk (show w2013.heap[g2014]? = some (.cells #[.int .i64 0, .int .i64 0, .float .f64 0, .slice none 0 0] 25 (0, 0)) from hbox); clear hg hb hbox; have OW_ := Aside0.mk (And.intro OW.out OD2016.out); clear OW OD2016; have OW := OW_; clear OW_; (try clear hz2005 hz2006 hz2007 hz2008 hy2009 hy2010 hy2011 hy2012); obtain ⟨hz2017, hz2018, hz2019, hz2020⟩ := blk_cells4 BK2003.out; obtain ⟨hy2021, hy2022, hy2023, hy2024⟩ := blk_frozens4 BK2003.out; obtain ⟨hz2025, hz2026, hz2027, hz2028⟩ := blk_cells4 BK2015.out; obtain ⟨hy2029, hy2030, hy2031, hy2032⟩ := blk_frozens4 BK2015.out; obtain ⟨i034, hi034, _, hsz34, _⟩ := info_parts info5; obtain ⟨A34, hcut34, hA34, hC34⟩ := print_drop_of (P := Try.prog) (Value.int .u8) 0 22 5 .i64 Try.underlying22 hi034 hsz34 (some ad208) c0 l0 1 (by omega) (of_decide_eq_true (by first | (with_reducible assumption) | assumption)) HC0.out; have HR210 := Aside0.mk (Kd.C_of_reads (h1 := fun _ => rfl) (hA34 _ (Kd.reads_of_C HR0.out))); have HC210 := Aside0.mk hC34; clear hA34 hC34 hi034 hsz34) | ((with_reducible refine gate_store (t := 25) (p := 5) rfl ?_); refine store_event (t := 25) (p := 5) (v := ?vo2034) (w1 := ((((w2013.setCell ⟨g2014, 0, none⟩ (.int .i64 (wrap64 (rd l0 0)))).setCell ⟨g2014, 1, none⟩ (.int .i64 0)).setCell ⟨g2014, 2, none⟩ (.float .f64 0)).setCell ⟨g2014, 3, none⟩ (.slice none 0 0))) ?hg ?ho ?hn ?hr ?_; (case ho => rfl); (case hg => rfl); (case hn => rfl); (case hr => first | (go_simp; done) | (go_simp; rfl)); intro w2033 hw; have n0_ := Aside0.mk (show w2033.heap[g2002]? = some (.cells #[.int .i64 0, .int .i64 0, .float .f64 0, .slice none 0 0] 25 (0, 0)) from by rw [hw]; have ne_ : g2002 ≠ g2014 := (by have q_ := OW.out; omega); exact blk_far (blk_far (blk_far (blk_far (BK2003.out) ne_ _) ne_ _) ne_ _) ne_ _); have n1_ := Aside0.mk (show w2033.heap[g2014]? = some (.cells #[.int .i64 (wrap64 (rd l0 0)), .int .i64 0, .float .f64 0, .slice none 0 0] 25 (0, 0)) from by rw [hw]; exact blk_put (cs := #[.int .i64 (wrap64 (rd l0 0)), .int .i64 0, .float .f64 0, .slice none 0 0]) (blk_put (cs := #[.int .i64 (wrap64 (rd l0 0)), .int .i64 0, .float .f64 0, .slice none 0 0]) (blk_put (cs := #[.int .i64 (wrap64 (rd l0 0)), .int .i64 0, .float .f64 0, .slice none 0 0]) (blk_put (cs := #[.int .i64 0, .int .i64 0, .float .f64 0, .slice none 0 0]) (BK2015.out) 0 _ rfl) 1 _ rfl) 2 _ rfl) 3 _ rfl); have n2_ := Aside0.mk (show Below w.heap.size w w2033 from by rw [hw]; have ge_ : w.heap.size ≤ g2014 := (by have q_ := OW.out; omega); exact below_set (below_set (below_set (below_set (HB.out) ge_) ge_) ge_) ge_); have n3_ := Aside0.mk (show g2014 + 1 ≤ w2033.heap.size from by rw [hw]; simp only [size_set]; exact TOP.out); (try clear BK2003 BK2015 HB TOP); have BK2003 := n0_; have BK2015 := n1_; have HB := n2_; have TOP := n3_; clear n0_ n1_ n2_ n3_; clear hw; (try clear hz2017 hz2018 hz2019 hz2020 hy2021 hy2022 hy2023 hy2024 hz2025 hz2026 hz2027 hz2028 hy2029 hy2030 hy2031 hy2032); obtain ⟨hz2035, hz2036, hz2037, hz2038⟩ := blk_cells4 BK2003.out; obtain ⟨hy2039, hy2040, hy2041, hy2042⟩ := blk_frozens4 BK2003.out; obtain ⟨hz2043, hz2044, hz2045, hz2046⟩ := blk_cells4 BK2015.out; obtain ⟨hy2047, hy2048, hy2049, hy2050⟩ := blk_frozens4 BK2015.out) | ((with_reducible refine gate_callee (f := 83) rfl ?_); refine goesL_ (some 45) rfl rfl Try.func83 (by kernel_rfl) rfl #[.slice A34 (l0.drop 1).length (c0 - 1)] rfl (by (try simp only [List.map_toArray, List.map_cons, List.map_nil]); first | done | rfl | (simp only [List.length_drop, List.length_take]; rfl) | (rw [List.length_drop] <;> rfl)) ?_; (with_reducible refine (impl_fromHigh.calls k _ _ (l0.drop 1) t215 _ ?s1 ?s2 A28.out).mono ?_); (case s1 => exact Kd.C_below HR210.out (hup HB.out)); (case s2 => exact HC210.out); rintro e w2051 ⟨rfl, hd⟩; refine ⟨_, rfl, ?_⟩; have hb := drawn0_below hd; clear hd; have n0_ := Aside0.mk (blk_below (bup BK2003.out) hb); have n1_ := Aside0.mk (blk_below (bup BK2015.out) hb); have n2_ := Aside0.mk (below_step (hup HB.out) hb); have n3_ := Aside0.mk (show g2014 + 1 ≤ w2051.heap.size from Nat.le_trans TOP.out hb.size); (try clear BK2003 BK2015 HB TOP); have BK2003 := n0_; have BK2015 := n1_; have HB := n2_; have TOP := n3_; clear n0_ n1_ n2_ n3_; clear hb; (try clear hz2035 hz2036 hz2037 hz2038 hy2039 hy2040 hy2041 hy2042 hz2043 hz2044 hz2045 hz2046 hy2047 hy2048 hy2049 hy2050); obtain ⟨hz2052, hz2053, hz2054, hz2055⟩ := blk_cells4 BK2003.out; obtain ⟨hy2056, hy2057, hy2058, hy2059⟩ := blk_frozens4 BK2003.out; obtain ⟨hz2060, hz2061, hz2062, hz2063⟩ := blk_cells4 BK2015.out; obtain ⟨hy2064, hy2065, hy2066, hy2067⟩ := blk_frozens4 BK2015.out) | (go_at_call 49; (with_reducible refine (impl_FloatOf.calls t215 t216 _ A29.out).mono ?_); rintro e w2068 ⟨rfl, hd⟩; have hb := drawn0_below hd; clear hd; have n0_ := Aside0.mk (blk_below (bup BK2003.out) hb); have n1_ := Aside0.mk (blk_below (bup BK2015.out) hb); have n2_ := Aside0.mk (below_step (hup HB.out) hb); have n3_ := Aside0.mk (show g2014 + 1 ≤ w2068.heap.size from Nat.le_trans TOP.out hb.size); (try clear BK2003 BK2015 HB TOP); have BK2003 := n0_; have BK2015 := n1_; have HB := n2_; have TOP := n3_; clear n0_ n1_ n2_ n3_; clear hb; (try clear hz2052 hz2053 hz2054 hz2055 hy2056 hy2057 hy2058 hy2059 hz2060 hz2061 hz2062 hz2063 hy2064 hy2065 hy2066 hy2067); obtain ⟨hz2069, hz2070, hz2071, hz2072⟩ := blk_cells4 BK2003.out; obtain ⟨hy2073, hy2074, hy2075, hy2076⟩ := blk_frozens4 BK2003.out; obtain ⟨hz2077, hz2078, hz2079, hz2080⟩ := blk_cells4 BK2015.out; obtain ⟨hy2081, hy2082, hy2083, hy2084⟩ := blk_frozens4 BK2015.out) | ((with_reducible refine gate_store (t := 23) (p := 47) rfl ?_); refine store_event (t := 23) (p := 47) (v := ?vo2086) (w1 := (w2068.setCell ⟨g2014, 2, none⟩ (.float .f64 t216))) ?hg ?ho ?hn ?hr ?_; (case ho => rfl); (case hg => rfl); (case hn => rfl); (case hr => first | (go_simp; done) | (go_simp; rfl)); intro w2085 hw; have n0_ := Aside0.mk (show w2085.heap[g2002]? = some (.cells #[.int .i64 0, .int .i64 0, .float .f64 0, .slice none 0 0] 25 (0, 0)) from by rw [hw]; have ne_ : g2002 ≠ g2014 := (by have q_ := OW.out; omega); exact blk_far (BK2003.out) ne_ _); have n1_ := Aside0.mk (show w2085.heap[g2014]? = some (.cells #[.int .i64 (wrap64 (rd l0 0)), .int .i64 0, .float .f64 t216, .slice none 0 0] 25 (0, 0)) from by rw [hw]; exact blk_put (cs := #[.int .i64 (wrap64 (rd l0 0)), .int .i64 0, .float .f64 0, .slice none 0 0]) (BK2015.out) 2 _ rfl); have n2_ := Aside0.mk (show Below w.heap.size w w2085 from by rw [hw]; have ge_ : w.heap.size ≤ g2014 := (by have q_ := OW.out; omega); exact below_set (HB.out) ge_); have n3_ := Aside0.mk (show g2014 + 1 ≤ w2085.heap.size from by rw [hw]; simp only [size_set]; exact TOP.out); (try clear BK2003 BK2015 HB TOP); have BK2003 := n0_; have BK2015 := n1_; have HB := n2_; have TOP := n3_; clear n0_ n1_ n2_ n3_; clear hw; (try clear hz2069 hz2070 hz2071 hz2072 hy2073 hy2074 hy2075 hy2076 hz2077 hz2078 hz2079 hz2080 hy2081 hy2082 hy2083 hy2084); obtain ⟨hz2087, hz2088, hz2089, hz2090⟩ := blk_cells4 BK2003.out; obtain ⟨hy2091, hy2092, hy2093, hy2094⟩ := blk_frozens4 BK2003.out; obtain ⟨hz2095, hz2096, hz2097, hz2098⟩ := blk_cells4 BK2015.out; obtain ⟨hy2099, hy2100, hy2101, hy2102⟩ := blk_frozens4 BK2015.out) | ((with_reducible refine gate_store (t := 25) (p := 4) rfl ?_); refine store_event (t := 25) (p := 4) (v := ?vo2104) (w1 := ((((w2085.setCell ⟨g2002, 0, none⟩ (.int .i64 (wrap64 (rd l0 0)))).setCell ⟨g2002, 1, none⟩ (.int .i64 0)).setCell ⟨g2002, 2, none⟩ (.float .f64 t216)).setCell ⟨g2002, 3, none⟩ (.slice none 0 0))) ?hg ?ho ?hn ?hr ?_; (case ho => rfl); (case hg => rfl); (case hn => rfl); (case hr => first | (go_simp; done) | (go_simp; rfl)); intro w2103 hw; have n0_ := Aside0.mk (show w2103.heap[g2002]? = some (.cells #[.int .i64 (wrap64 (rd l0 0)), .int .i64 0, .float .f64 t216, .slice none 0 0] 25 (0, 0)) from by rw [hw]; exact blk_put (cs := #[.int .i64 (wrap64 (rd l0 0)), .int .i64 0, .float .f64 t216, .slice none 0 0]) (blk_put (cs := #[.int .i64 (wrap64 (rd l0 0)), .int .i64 0, .float .f64 0, .slice none 0 0]) (blk_put (cs := #[.int .i64 (wrap64 (rd l0 0)), .int .i64 0, .float .f64 0, .slice none 0 0]) (blk_put (cs := #[.int .i64 0, .int .i64 0, .float .f64 0, .slice none 0 0]) (BK2003.out) 0 _ rfl) 1 _ rfl) 2 _ rfl) 3 _ rfl); have n1_ := Aside0.mk (show w2103.heap[g2014]? = some (.cells #[.int .i64 (wrap64 (rd l0 0)), .int .i64 0, .float .f64 t216, .slice none 0 0] 25 (0, 0)) from by rw [hw]; have ne_ : g2014 ≠ g2002 := (by have q_ := OW.out; omega); exact blk_far (blk_far (blk_far (blk_far (BK2015.out) ne_ _) ne_ _) ne_ _) ne_ _); have n2_ := Aside0.mk (show Below w.heap.size w w2103 from by rw [hw]; have ge_ : w.heap.size ≤ g2002 := (by have q_ := OW.out; omega); exact below_set (below_set (below_set (below_set (HB.out) ge_) ge_) ge_) ge_); have n3_ := Aside0.mk (show g2014 + 1 ≤ w2103.heap.size from by rw [hw]; simp only [size_set]; exact TOP.out); (try clear BK2003 BK2015 HB TOP); have BK2003 := n0_; have BK2015 := n1_; have HB := n2_; have TOP := n3_; clear n0_ n1_ n2_ n3_; clear hw; (try clear hz2087 hz2088 hz2089 hz2090 hy2091 hy2092 hy2093 hy2094 hz2095 hz2096 hz2097 hz2098 hy2099 hy2100 hy2101 hy2102)))
        refine bodyPost_ret (results_cell_row rfl _ _ g2002 25 #[.int .i64 (wrap64 (rd l0 0)), .int .i64 0, .float .f64 t216, .slice none 0 0] (0, 0) _ rfl (by exact BK2003.out) Try.underlying25 rfl (by kernel_rfl)) rfl ?_
        exact ⟨_, by first | rfl | (simp; done) | (simp [*]; done), Kd.R_nil _ _ _ _ _, HB.out⟩
       ·rw [if_neg c27] at H
        have c27b0 : ((wrap64 (rd l0 0)) == 2) = false := beq_eq_false_iff_ne.mpr c27
        have c27b1 : ((wrap64 (rd l0 0)) != 2) = true := bne_iff_ne.mpr c27
        simp only [Option.some.injEq, Prod.mk.injEq] at H
        obtain ⟨rfl, rfl, rfl, rfl⟩ := H
        go_enter Try.func48, Try.ntmps48
        go_wp2_with (first | ((with_reducible refine gate_dst (N := 4) rfl ?_); refine box_event ?hg (N := 4) ?hd (cs := #[.int .i64 0, .int .i64 0, .float .f64 0, .slice none 0 0]) (t := 25) ?hr ?_; (case hd => rfl); (case hg => rfl); (case hr => first | (go_simp; done) | (go_simp; rfl)); intro gb207 hg w36 hbox hb; have n0_ := Aside0.mk (below_step (hup HB.out) hb); have n1_ := Aside0.mk (hbox); have n2_ := Geq.mk ((by rw [hg]; exact (below_size (hup HB.out)) : w.heap.size ≤ gb207)); have n3_ := Geq.mk ((by rw [hg]; exact (below_size (hup HB.out)) : w.heap.size ≤ gb207)); clear HB; have HB := n0_; have BK207 := n1_; have GW207 := n2_; have GE207 := n3_; clear n0_ n1_ n2_ n3_; clear hb hbox hg; have p208 : 0 ≤ (0 : Int) := (by omega); have q208 : 0 < (l0.length : Int) := of_decide_eq_true (by first | (with_reducible assumption) | assumption); obtain ⟨ad208, e208, hx208_0⟩ := Kd.at_int HR0.out 0 p208 q208; cases e208; have qi208 : (0 < l0.length) = True := eq_true (by omega); (try rw [show ((0 : Int)).toNat = 0 from rfl] at hx208_0); (try rw [Addr.add_zero'] at hx208_0); replace hx208_0 := (HB.out.cell (World.block_lt_of_cell? w _ hx208_0)).trans hx208_0; replace p208 := eq_true p208; replace q208 := eq_true q208) | ((with_reducible refine gate_dst (N := 5) rfl ?_); refine box_event ?hg (N := 5) ?hd (cs := #[.int .i64 0, .int .i64 0, .float .f64 0, .slice none 0 0]) (t := 25) ?hr ?_; (case hd => rfl); (case hg => rfl); (case hr => first | (go_simp; done) | (go_simp; rfl)); intro gb209 hg w37 hbox hb; have n0_ := Aside0.mk (blk_below (bup BK207.out) hb); have n1_ := Aside0.mk (below_step (hset HB.out) hb); have n2_ := Aside0.mk (hbox); have n3_ := Geq.mk ((by rw [hg]; exact (below_size (hset HB.out)) : w.heap.size ≤ gb209)); have n4_ := Geq.mk ((by rw [hg]; exact (below_size (hset HB.out)) : w.heap.size ≤ gb209)); have n5_ := Neq.mk ((by rw [hg]; exact Nat.ne_of_lt (blk_lt (g := gb207) (o := .cells #[.int .i64 0, .int .i64 0, .float .f64 0, .slice none 0 0] 25 (0, 0)) (bup BK207.out)) : gb207 ≠ gb209)); have n6_ := Neq.mk ((by rw [hg]; exact Nat.ne_of_gt (blk_lt (g := gb207) (o := .cells #[.int .i64 0, .int .i64 0, .float .f64 0, .slice none 0 0] 25 (0, 0)) (bup BK207.out)) : gb209 ≠ gb207)); clear BK207; clear HB; have BK207 := n0_; have HB := n1_; have BK209 := n2_; have GW209 := n3_; have GE209 := n4_; have NB207_209 := n5_; have NB209_207 := n6_; clear n0_ n1_ n2_ n3_ n4_ n5_ n6_; clear hb hbox hg; have hnb38 := NB209_207.out; have hnc38 := NB207_209.out; obtain ⟨hcz39_0, hcz39_1, hcz39_2, hcz39_3⟩ := blk_cells4 BK209.out; obtain ⟨hfz39_0, hfz39_1, hfz39_2, hfz39_3⟩ := blk_frozens4 BK209.out; obtain ⟨i040, hi040, _, hsz40, _⟩ := info_parts info5; obtain ⟨A40, hcut40, hA40, hC40⟩ := print_drop_of (P := Try.prog) (Value.int .u8) 0 22 5 .i64 Try.underlying22 hi040 hsz40 (some ad208) c0 l0 1 (by omega) (of_decide_eq_true (by first | (with_reducible assumption) | assumption)) HC0.out; have HR210 := Aside0.mk (Kd.C_of_reads (h1 := fun _ => rfl) (hA40 _ (Kd.reads_of_C HR0.out))); have HC210 := Aside0.mk hC40; clear hA40 hC40 hi040 hsz40; obtain ⟨hcz41_0, hcz41_1, hcz41_2, hcz41_3⟩ := blk_cells4 BK207.out; obtain ⟨hfz41_0, hfz41_1, hfz41_2, hfz41_3⟩ := blk_frozens4 BK207.out))
        refine bodyPost_ret (results_cell_row rfl _ _ gb207 25 #[.int .i64 (wrap64 (rd l0 0)), .int .i64 0, .float .f64 0, .slice none 0 0] (0, 0) _ rfl (bput BK207.out) Try.underlying25 rfl (by kernel_rfl)) rfl ?_
        exact ⟨_, by first | rfl | (simp [errW_none, errW_some] <;> rfl) | (simp [*, errW_none, errW_some] <;> rfl), by first | exact Kd.R_nil _ _ _ _ _ | exact Kd.N_nil _ _ _ _ _ | exact Kd.V_nil _ _ _ _ _ | exact Kd.Q_nil _ _ _ _ _ | exact Kd.S_nil _ _ _ _ _, hset HB.out⟩
     ·rw [if_neg c18] at H
      have c18b0 : (((l0.drop 1).length : Int) == 8) = false := beq_eq_false_iff_ne.mpr c18
      have c18b7 : (((l0.length - 1 : Nat) : Int) == 8) = false := by rw [← List.length_drop]; exact c18b0
      have c18b1 : (((l0.drop 1).length : Int) != 8) = true := bne_iff_ne.mpr c18
      have c18b8 : (((l0.length - 1 : Nat) : Int) != 8) = true := by rw [← List.length_drop]; exact c18b1
      simp only [Option.some.injEq, Prod.mk.injEq] at H
      obtain ⟨rfl, rfl, rfl, rfl⟩ := H
      go_enter Try.func48, Try.ntmps48
      go_wp2_with (first | ((with_reducible refine gate_dst (N := 4) rfl ?_); refine box_event ?hg (N := 4) ?hd (cs := #[.int .i64 0, .int .i64 0, .float .f64 0, .slice none 0 0]) (t := 25) ?hr ?_; (case hd => rfl); (case hg => rfl); (case hr => first | (go_simp; done) | (go_simp; rfl)); intro gb207 hg w42 hbox hb; have n0_ := Aside0.mk (below_step (hup HB.out) hb); have n1_ := Aside0.mk (hbox); have n2_ := Geq.mk ((by rw [hg]; exact (below_size (hup HB.out)) : w.heap.size ≤ gb207)); have n3_ := Geq.mk ((by rw [hg]; exact (below_size (hup HB.out)) : w.heap.size ≤ gb207)); clear HB; have HB := n0_; have BK207 := n1_; have GW207 := n2_; have GE207 := n3_; clear n0_ n1_ n2_ n3_; clear hb hbox hg; have p208 : 0 ≤ (0 : Int) := (by omega); have q208 : 0 < (l0.length : Int) := of_decide_eq_true (by first | (with_reducible assumption) | assumption); obtain ⟨ad208, e208, hx208_0⟩ := Kd.at_int HR0.out 0 p208 q208; cases e208; have qi208 : (0 < l0.length) = True := eq_true (by omega); (try rw [show ((0 : Int)).toNat = 0 from rfl] at hx208_0); (try rw [Addr.add_zero'] at hx208_0); replace hx208_0 := (HB.out.cell (World.block_lt_of_cell? w _ hx208_0)).trans hx208_0; replace p208 := eq_true p208; replace q208 := eq_true q208) | ((with_reducible refine gate_dst (N := 5) rfl ?_); refine box_event ?hg (N := 5) ?hd (cs := #[.int .i64 0, .int .i64 0, .float .f64 0, .slice none 0 0]) (t := 25) ?hr ?_; (case hd => rfl); (case hg => rfl); (case hr => first | (go_simp; done) | (go_simp; rfl)); intro gb209 hg w43 hbox hb; have n0_ := Aside0.mk (blk_below (bup BK207.out) hb); have n1_ := Aside0.mk (below_step (hset HB.out) hb); have n2_ := Aside0.mk (hbox); have n3_ := Geq.mk ((by rw [hg]; exact (below_size (hset HB.out)) : w.heap.size ≤ gb209)); have n4_ := Geq.mk ((by rw [hg]; exact (below_size (hset HB.out)) : w.heap.size ≤ gb209)); have n5_ := Neq.mk ((by rw [hg]; exact Nat.ne_of_lt (blk_lt (g := gb207) (o := .cells #[.int .i64 0, .int .i64 0, .float .f64 0, .slice none 0 0] 25 (0, 0)) (bup BK207.out)) : gb207 ≠ gb209)); have n6_ := Neq.mk ((by rw [hg]; exact Nat.ne_of_gt (blk_lt (g := gb207) (o := .cells #[.int .i64 0, .int .i64 0, .float .f64 0, .slice none 0 0] 25 (0, 0)) (bup BK207.out)) : gb209 ≠ gb207)); clear BK207; clear HB; have BK207 := n0_; have HB := n1_; have BK209 := n2_; have GW209 := n3_; have GE209 := n4_; have NB207_209 := n5_; have NB209_207 := n6_; clear n0_ n1_ n2_ n3_ n4_ n5_ n6_; clear hb hbox hg; have hnb44 := NB209_207.out; have hnc44 := NB207_209.out; obtain ⟨hcz45_0, hcz45_1, hcz45_2, hcz45_3⟩ := blk_cells4 BK209.out; obtain ⟨hfz45_0, hfz45_1, hfz45_2, hfz45_3⟩ := blk_frozens4 BK209.out; obtain ⟨i046, hi046, _, hsz46, _⟩ := info_parts info5; obtain ⟨A46, hcut46, hA46, hC46⟩ := print_drop_of (P := Try.prog) (Value.int .u8) 0 22 5 .i64 Try.underlying22 hi046 hsz46 (some ad208) c0 l0 1 (by omega) (of_decide_eq_true (by first | (with_reducible assumption) | assumption)) HC0.out; have HR210 := Aside0.mk (Kd.C_of_reads (h1 := fun _ => rfl) (hA46 _ (Kd.reads_of_C HR0.out))); have HC210 := Aside0.mk hC46; clear hA46 hC46 hi046 hsz46; obtain ⟨hcz47_0, hcz47_1, hcz47_2, hcz47_3⟩ := blk_cells4 BK207.out; obtain ⟨hfz47_0, hfz47_1, hfz47_2, hfz47_3⟩ := blk_frozens4 BK207.out))
      refine bodyPost_ret (results_cell_row rfl _ _ gb207 25 #[.int .i64 0, .int .i64 0, .float .f64 0, .slice none 0 0] (0, 0) _ rfl (bput BK207.out) Try.underlying25 rfl (by kernel_rfl)) rfl ?_
      exact ⟨_, by first | rfl | (simp [errW_none, errW_some] <;> rfl) | (simp [*, errW_none, errW_some] <;> rfl), by first | exact Kd.R_nil _ _ _ _ _ | exact Kd.N_nil _ _ _ _ _ | exact Kd.V_nil _ _ _ _ _ | exact Kd.Q_nil _ _ _ _ _ | exact Kd.S_nil _ _ _ _ _, hset HB.out⟩
   ·rw [if_neg c6] at H
    exact absurd H (by simp)
  ·rw [if_neg c5] at H
   exact absurd H (by simp)
def impl_ValueRead.f (k : Nat) (l0 : List Int) : Option (Int × Int × Nat × List Int × Bool) := (impl_readItem_V.f k l0).bind fun bt218 => ((impl_ItemOk.f bt218.1 bt218.2.1 bt218.2.2.1 bt218.2.2.2).bind fun t225 => (if t225 = true then (if bt218.1 = 0 then (some (0, 0, 0, ([] : List Int), false)) else ((impl_ValueBytes.f k bt218.1 bt218.2.1 bt218.2.2.1 bt218.2.2.2).bind fun t226 => ((bytes_Equal.f t226 l0).bind fun t229 => (if t229 = true then (some (bt218.1, bt218.2.1, bt218.2.2.1, bt218.2.2.2, true)) else (some (0, 0, 0, ([] : List Int), false)))))) else (some (0, 0, 0, ([] : List Int), false))))
theorem impl_ValueRead.mono : ∀ a0 k, LeO (impl_ValueRead.f k a0) (impl_ValueRead.f (k + 1) a0) := by
 intro a0 k
 unfold impl_ValueRead.f
 repeat' with_reducible first | exact impl_ValueBytes.mono _ _ _ _ _ | exact impl_readItem_V.mono _ _ | exact LeO.refl _ | exact LeO.none _ | refine LeO.ite ?_ ?_ | refine LeO.bind ?_ (fun _ => ?_)
set_option maxHeartbeats 8000000 in
set_option maxRecDepth 100000 in
theorem impl_ValueRead.calls (k : Nat) (A0 : Option Addr) (c0 : Nat) (l0 : List Int) (r1 : Int) (r2 : Int) (r3 : Nat) (r4 : List Int) (r5 : Bool) (w : World) (hr0 : Kd.C (Kd.int .u8) w A0 l0.length l0) (hc0 : l0.length ≤ c0) (h : impl_ValueRead.f k l0 = some (r1, r2, r3, r4, r5)) :
  Calls Try.prog 11 #[.slice A0 l0.length c0] w fun e w' => ∃ v3_ : Value, e = .returned (.tuple #[.agg #[.int .i64 r1, .int .i64 r2, .float .f64 r3, v3_], .bool r5]) ∧ Kd.R (Kd.int .u8) 5 w' w.heap.size (fun _ => True) v3_ r4 ∧ Below w.heap.size w w' := by
 have hu25 := Try.underlying25
 have HR0 := Aside0.mk hr0
 have HC0 := Aside0.mk hc0
 clear hr0 hc0
 have HB := Aside0.mk (Below.refl w.heap.size w)
 have H := h
 clear h
 unfold impl_ValueRead.f at H
 replace H := Option.bind_eq_some_iff.mp H
 obtain ⟨⟨t218, t219, t220, t221⟩, A20, H⟩ := H
 (try dsimp only at H)
 have A2 := Aside0.mk A20
 clear A20
 replace H := Option.bind_eq_some_iff.mp H
 obtain ⟨t225, A30, H⟩ := H
 (try dsimp only at H)
 have A3 := Aside0.mk A30
 clear A30
 go_enter Try.func11, Try.ntmps11
 repeat (first | ((with_reducible refine gate_dst (N := 2) rfl ?_); refine box_event ?hg (N := 2) ?hd (cs := #[.int .i64 0, .int .i64 0, .float .f64 0, .slice none 0 0]) (t := 25) ?hr ?_; (case hd => rfl); (case hg => rfl); (case hr => first | (go_simp; done) | (go_simp; rfl)); intro gb217 hg w6 hbox hb; have n0_ := Aside0.mk (below_step (hup HB.out) hb); have n1_ := Aside0.mk (hbox); have n2_ := Geq.mk ((by rw [hg]; exact (below_size (hup HB.out)) : w.heap.size ≤ gb217)); have n3_ := Geq.mk ((by rw [hg]; exact (below_size (hup HB.out)) : w.heap.size ≤ gb217)); clear HB; have HB := n0_; have BK217 := n1_; have GW217 := n2_; have GE217 := n3_; clear n0_ n1_ n2_ n3_; clear hb hbox hg) | ((with_reducible refine gate_callee (f := 48) rfl ?_); refine goesL_ (some 6) rfl rfl Try.func48 (by kernel_rfl) rfl #[.slice A0 l0.length c0, .func (.func 49) #[] #[]] rfl (by (try simp only [List.map_toArray, List.map_cons, List.map_nil]); first | done | rfl) ?_; (with_reducible refine (impl_readItem_V.calls k _ _ l0 t218 t219 t220 t221 _ ?side1 ?side2 A2.out).mono ?_); (case side1 => repeat (first | exact (Kd.C_below HR0.out HB.out) | (with_reducible refine Kd.C_alloc ?_ _) | (with_reducible refine Kd.C_drewN ?_ _) | (with_reducible refine Kd.C_drew ?_))); (case side2 => exact HC0.out); rintro e w7 ⟨v222, rfl, ho0, hb⟩; refine ⟨_, rfl, ?_⟩; have n0_ := Aside0.mk (Kd.R_lower ho0 (below_size (hset HB.out))); have n1_ := Aside0.mk (blk_below (bup BK217.out) hb); have n2_ := Aside0.mk (below_step (hset HB.out) hb); clear BK217; clear HB; have HO223 := n0_; have BK217 := n1_; have HB := n2_; clear n0_ n1_ n2_; (try clear hb); (try clear hb2); (try clear hk); (try clear hi); (try clear ho0)) | ((with_reducible refine gate_dst (N := 4) rfl ?_); refine box_event ?hg (N := 4) ?hd (cs := #[.int .i64 0, .int .i64 0, .float .f64 0, .slice none 0 0]) (t := 25) ?hr ?_; (case hd => rfl); (case hg => rfl); (case hr => first | (go_simp; done) | (go_simp; rfl)); intro gb224 hg w8 hbox hb; have n0_ := Aside0.mk (Kd.R_below (Kd.rup HO223.out) hb); have n1_ := Aside0.mk (blk_below (bup BK217.out) hb); have n2_ := Aside0.mk (below_step (hset HB.out) hb); have n3_ := Aside0.mk (hbox); have n4_ := Geq.mk ((by rw [hg]; exact (below_size (hset HB.out)) : w.heap.size ≤ gb224)); have n5_ := Geq.mk ((by rw [hg]; exact (below_size (hset HB.out)) : w.heap.size ≤ gb224)); have n6_ := Neq.mk ((by rw [hg]; exact Nat.ne_of_lt (blk_lt (g := gb217) (o := .cells #[.int .i64 0, .int .i64 0, .float .f64 0, .slice none 0 0] 25 (0, 0)) (bup BK217.out)) : gb217 ≠ gb224)); have n7_ := Neq.mk ((by rw [hg]; exact Nat.ne_of_gt (blk_lt (g := gb217) (o := .cells #[.int .i64 0, .int .i64 0, .float .f64 0, .slice none 0 0] 25 (0, 0)) (bup BK217.out)) : gb224 ≠ gb217)); clear HO223; clear BK217; clear HB; have HO223 := n0_; have BK217 := n1_; have HB := n2_; have BK224 := n3_; have GW224 := n4_; have GE224 := n5_; have NB217_224 := n6_; have NB224_217 := n7_; clear n0_ n1_ n2_ n3_ n4_ n5_ n6_ n7_; clear hb hbox hg; have hnb9 := NB224_217.out; have hnc9 := NB217_224.out; obtain ⟨hcz10_0, hcz10_1, hcz10_2, hcz10_3⟩ := blk_cells4 BK224.out; obtain ⟨hfz10_0, hfz10_1, hfz10_2, hfz10_3⟩ := blk_frozens4 BK224.out; obtain ⟨Ao11, co11, eo11⟩ := Kd.R_slice HO223.out; subst eo11) | ((fail_if_success (with_reducible refine gate_callee (f := 50) rfl ?_)); first | go_values | go_skip | go_guarded | go_step | go_upon | go_back | (simp only [Int.not_lt, Int.not_le] at *; go_simp)))
 (with_reducible refine gate_callee (f := 50) rfl ?_); refine goesL_ (some 8) rfl rfl Try.func50 (by kernel_rfl) rfl #[.agg #[.int .i64 t218, .int .i64 t219, .float .f64 t220, .slice Ao11 t221.length co11]] rfl (by (try simp only [List.map_toArray, List.map_cons, List.map_nil]); first | done | rfl) ?_; (with_reducible refine (impl_ItemOk.calls t218 t219 t220 _ _ t221 t225 _ ?side1 ?side2 A3.out).mono ?_); (case side1 => refine (Kd.R_reads' (e := 5) (base := w.heap.size) (ok := fun k_ => True) (n := t221.length) (c := co11) ?_).2.2; exact ((Kd.roff1 HO223.out BK224.out (by decide)))); (case side2 => exact (Kd.R_reads' HO223.out).2.1); rintro e w12 ⟨rfl, hb⟩; refine ⟨_, rfl, ?_⟩; have n0_ := Aside0.mk (Kd.R_below ((Kd.roff1 HO223.out BK224.out (by decide))) hb); have n1_ := Aside0.mk (blk_below (g := gb217) (o := .cells #[.int .i64 0, .int .i64 0, .float .f64 0, .slice none 0 0] 25 (0, 0)) (bput BK217.out) hb); have n2_ := Aside0.mk (blk_below (g := gb224) (o := .cells #[.int .i64 t218, .int .i64 t219, .float .f64 t220, .slice Ao11 t221.length co11] 25 (0, 0)) (bput BK224.out) hb); have n3_ := Aside0.mk (below_step (hset HB.out) hb); clear HO223; clear BK217; clear BK224; clear HB; have HO223 := n0_; have BK217 := n1_; have BK224 := n2_; have HB := n3_; clear n0_ n1_ n2_ n3_; (try clear hb); (try clear hb2); (try clear hk); (try clear hi)
 by_cases c4 : t225 = true
 ·subst c4
  rw [if_pos rfl] at H
  (try dsimp only at H)
  by_cases c5 : t218 = 0
  ·rw [if_pos c5] at H
   have c5b0 : (t218 == 0) = true := beq_iff_eq.mpr c5
   have c5b1 : (t218 != 0) = false := bne_eq_false_iff_eq.mpr c5
   (try simp only [c5b0, c5b1, Bool.not_true, Bool.not_false])
   clear c5
   simp only [Option.some.injEq, Prod.mk.injEq] at H
   obtain ⟨rfl, rfl, rfl, rfl, rfl⟩ := H
   obtain ⟨hcz13_0, hcz13_1, hcz13_2, hcz13_3⟩ := blk_cells4 BK224.out; obtain ⟨hfz13_0, hfz13_1, hfz13_2, hfz13_3⟩ := blk_frozens4 BK224.out; obtain ⟨hcz14_0, hcz14_1, hcz14_2, hcz14_3⟩ := blk_cells4 BK217.out; obtain ⟨hfz14_0, hfz14_1, hfz14_2, hfz14_3⟩ := blk_frozens4 BK217.out
   try go_wp2
   refine bodyPost_ret (results_ct rfl _ _ gb217 25 #[.int .i64 0, .int .i64 0, .float .f64 0, .slice none 0 0] (0, 0) _ rfl (bput BK217.out) Try.underlying25 rfl (by kernel_rfl)) rfl ?_
   exact ⟨_, by first | rfl | (simp [errW_none, errW_some] <;> rfl) | (simp [*, errW_none, errW_some] <;> rfl), by first | exact Kd.R_nil _ _ _ _ _ | exact Kd.N_nil _ _ _ _ _ | exact Kd.V_nil _ _ _ _ _ | exact Kd.Q_nil _ _ _ _ _ | exact Kd.S_nil _ _ _ _ _, hset HB.out⟩
  ·rw [if_neg c5] at H
   have c5b0 : (t218 == 0) = false := beq_eq_false_iff_ne.mpr c5
   have c5b1 : (t218 != 0) = true := bne_iff_ne.mpr c5
   (try simp only [c5b0, c5b1, Bool.not_true, Bool.not_false])
   replace H := Option.bind_eq_some_iff.mp H
   obtain ⟨t226, A150, H⟩ := H
   (try dsimp only at H)
   have A15 := Aside0.mk A150
   clear A150
   replace H := Option.bind_eq_some_iff.mp H
   obtain ⟨t229, A160, H⟩ := H
   (try dsimp only at H)
   have A16 := Aside0.mk A160
   clear A160
   obtain ⟨hcz25_0, hcz25_1, hcz25_2, hcz25_3⟩ := blk_cells4 BK224.out; obtain ⟨hfz25_0, hfz25_1, hfz25_2, hfz25_3⟩ := blk_frozens4 BK224.out
   try go_wp2_with (first | (go_at_call 29; (with_reducible refine (impl_ValueBytes.calls k t218 t219 t220 _ _ t221 t226 _ ?side1 ?side2 A15.out).mono ?_); (case side1 => repeat (first | exact (Kd.R_reads' HO223.out).2.2 | (with_reducible refine Kd.C_alloc ?_ _) | (with_reducible refine Kd.C_drewN ?_ _) | (with_reducible refine Kd.C_drew ?_))); (case side2 => exact (Kd.R_reads' HO223.out).2.1); rintro e w26 ⟨v227, rfl, ho0, hb⟩; have n0_ := Aside0.mk (Kd.R_elder' (Kd.rup HO223.out) (Kd.R_base ho0) hb); have n1_ := Aside0.mk (Kd.R_lower (Kd.R_new' ho0 (Kd.R_lt (Kd.rup HO223.out))) (below_size (hset HB.out))); have n2_ := Aside0.mk (blk_below (bup BK217.out) hb); have n3_ := Aside0.mk (blk_below (bup BK224.out) hb); have n4_ := Aside0.mk (below_step (hset HB.out) hb); clear HO223; clear BK217; clear BK224; clear HB; have HO223 := n0_; have HO228 := n1_; have BK217 := n2_; have BK224 := n3_; have HB := n4_; clear n0_ n1_ n2_ n3_ n4_; (try clear hb); (try clear hb2); (try clear hk); (try clear hi); (try clear ho0); obtain ⟨Ao27, co27, eo27⟩ := Kd.R_slice HO228.out; subst eo27))
   go_at_call 51; (with_reducible refine (bytes_Equal.calls _ _ t226 _ _ l0 t229 _ ?side1 ?side2 ?side3 ?side4 A16.out).mono ?_); (case side1 => repeat (first | exact (Kd.R_reads' HO228.out).2.2 | (with_reducible refine Kd.C_alloc ?_ _) | (with_reducible refine Kd.C_drewN ?_ _) | (with_reducible refine Kd.C_drew ?_))); (case side2 => exact (Kd.R_reads' HO228.out).2.1); (case side3 => repeat (first | exact (Kd.C_below HR0.out HB.out) | (with_reducible refine Kd.C_alloc ?_ _) | (with_reducible refine Kd.C_drewN ?_ _) | (with_reducible refine Kd.C_drew ?_))); (case side4 => exact HC0.out); rintro e w' ⟨rfl, ⟨nd, rfl⟩⟩; (try (rw [drewN_self w26]; generalize hq_ : World.drewN w26 _ = w26; have n0_ : Aside0 (Kd.R (Kd.int .u8) 5 w26 w.heap.size (fun k_ => (True ∧ some k_ ≠ (.slice Ao27 t226.length co27 : Value).ownBlock)) (.slice Ao11 t221.length co11) t221) := ⟨by rw [← hq_]; exact (Kd.rup HO223.out)⟩; have n1_ : Aside0 (Kd.R (Kd.int .u8) 5 w26 w.heap.size (fun k_ => (True ∧ some k_ ≠ (.slice Ao11 t221.length co11 : Value).ownBlock)) (.slice Ao27 t226.length co27) t226) := ⟨by rw [← hq_]; exact (Kd.rup HO228.out)⟩; have n2_ : Aside0 (w26.heap[gb217]? = some (.cells #[.int .i64 0, .int .i64 0, .float .f64 0, .slice none 0 0] 25 (0, 0))) := ⟨by rw [← hq_]; exact (bup BK217.out)⟩; have n3_ : Aside0 (w26.heap[gb224]? = some (.cells #[.int .i64 t218, .int .i64 t219, .float .f64 t220, .slice Ao11 t221.length co11] 25 (0, 0))) := ⟨by rw [← hq_]; exact (bup BK224.out)⟩; have n4_ : Aside0 (Below w.heap.size w w26) := ⟨by rw [← hq_]; exact (hset HB.out)⟩; clear HO223 HO228 BK217 BK224 HB hq_; have HO223 := n0_; have HO228 := n1_; have BK217 := n2_; have BK224 := n3_; have HB := n4_; clear n0_ n1_ n2_ n3_ n4_))
   by_cases c17 : t229 = true
   ·subst c17
    rw [if_pos rfl] at H
    (try dsimp only at H)
    simp only [Option.some.injEq, Prod.mk.injEq] at H
    obtain ⟨rfl, rfl, rfl, rfl, rfl⟩ := H
    obtain ⟨hcz28_0, hcz28_1, hcz28_2, hcz28_3⟩ := blk_cells4 BK224.out; obtain ⟨hfz28_0, hfz28_1, hfz28_2, hfz28_3⟩ := blk_frozens4 BK224.out; obtain ⟨hcz29_0, hcz29_1, hcz29_2, hcz29_3⟩ := blk_cells4 BK217.out; obtain ⟨hfz29_0, hfz29_1, hfz29_2, hfz29_3⟩ := blk_frozens4 BK217.out
    try go_wp2
    refine bodyPost_ret (results_ct rfl _ _ gb217 25 #[.int .i64 t218, .int .i64 t219, .float .f64 t220, .slice Ao11 t221.length co11] (0, 0) _ rfl (bput BK217.out) Try.underlying25 rfl (by kernel_rfl)) rfl ?_
    exact ⟨_, by first | rfl | (simp [errW_none, errW_some] <;> rfl) | (simp [*, errW_none, errW_some] <;> rfl), by exact Kd.rup (Kd.R_mono (Kd.R_far (p := ⟨gb217, 3, none⟩) (Kd.R_far (p := ⟨gb217, 2, none⟩) (Kd.R_far (p := ⟨gb217, 1, none⟩) (Kd.R_far (p := ⟨gb217, 0, none⟩) (Kd.R_types HO223.out BK217.out (by decide)) (fun _ hk => hk.2) (.int .i64 t218)) (fun _ hk => hk.2) (.int .i64 t219)) (fun _ hk => hk.2) (.float .f64 t220)) (fun _ hk => hk.2) (.slice Ao11 t221.length co11)) (fun _ hk => trivial)), hset HB.out⟩
   ·replace c17 := Bool.eq_false_iff.mpr c17
    subst c17
    rw [if_neg (show ¬ (false = true) by decide)] at H
    (try dsimp only at H)
    simp only [Option.some.injEq, Prod.mk.injEq] at H
    obtain ⟨rfl, rfl, rfl, rfl, rfl⟩ := H
    obtain ⟨hcz40_0, hcz40_1, hcz40_2, hcz40_3⟩ := blk_cells4 BK217.out; obtain ⟨hfz40_0, hfz40_1, hfz40_2, hfz40_3⟩ := blk_frozens4 BK217.out
    try go_wp2
    refine bodyPost_ret (results_ct rfl _ _ gb217 25 #[.int .i64 0, .int .i64 0, .float .f64 0, .slice none 0 0] (0, 0) _ rfl (bput BK217.out) Try.underlying25 rfl (by kernel_rfl)) rfl ?_
    exact ⟨_, by first | rfl | (simp [errW_none, errW_some] <;> rfl) | (simp [*, errW_none, errW_some] <;> rfl), by first | exact Kd.R_nil _ _ _ _ _ | exact Kd.N_nil _ _ _ _ _ | exact Kd.V_nil _ _ _ _ _ | exact Kd.Q_nil _ _ _ _ _ | exact Kd.S_nil _ _ _ _ _, hset HB.out⟩
 ·replace c4 := Bool.eq_false_iff.mpr c4
  subst c4
  rw [if_neg (show ¬ (false = true) by decide)] at H
  (try dsimp only at H)
  simp only [Option.some.injEq, Prod.mk.injEq] at H
  obtain ⟨rfl, rfl, rfl, rfl, rfl⟩ := H
  obtain ⟨hcz48_0, hcz48_1, hcz48_2, hcz48_3⟩ := blk_cells4 BK217.out; obtain ⟨hfz48_0, hfz48_1, hfz48_2, hfz48_3⟩ := blk_frozens4 BK217.out
  try go_wp2
  refine bodyPost_ret (results_ct rfl _ _ gb217 25 #[.int .i64 0, .int .i64 0, .float .f64 0, .slice none 0 0] (0, 0) _ rfl (bput BK217.out) Try.underlying25 rfl (by kernel_rfl)) rfl ?_
  exact ⟨_, by first | rfl | (simp [errW_none, errW_some] <;> rfl) | (simp [*, errW_none, errW_some] <;> rfl), by first | exact Kd.R_nil _ _ _ _ _ | exact Kd.N_nil _ _ _ _ _ | exact Kd.V_nil _ _ _ _ _ | exact Kd.Q_nil _ _ _ _ _ | exact Kd.S_nil _ _ _ _ _, hset HB.out⟩
def impl_KeyRead.f (k : Nat) (l0 : List Int) : Option (Int × Int × Nat × List Int × Bool) := (impl_readItem.f k l0).bind fun bt231 => ((impl_KeyOk.f bt231.1 bt231.2.1 bt231.2.2.1 bt231.2.2.2).bind fun t238 => (if t238 = true then ((impl_KeyBytes.f k bt231.1 bt231.2.1 bt231.2.2.1 bt231.2.2.2).bind fun t239 => ((bytes_Equal.f t239 l0).bind fun t242 => (if t242 = true then (some (bt231.1, bt231.2.1, bt231.2.2.1, bt231.2.2.2, true)) else (some (0, 0, 0, ([] : List Int), false))))) else (some (0, 0, 0, ([] : List Int), false))))
theorem impl_KeyRead.mono : ∀ a0 k, LeO (impl_KeyRead.f k a0) (impl_KeyRead.f (k + 1) a0) := by
 intro a0 k
 unfold impl_KeyRead.f
 repeat' with_reducible first | exact impl_KeyBytes.mono _ _ _ _ _ | exact impl_readItem.mono _ _ | exact LeO.refl _ | exact LeO.none _ | refine LeO.ite ?_ ?_ | refine LeO.bind ?_ (fun _ => ?_)
set_option maxHeartbeats 8000000 in
set_option maxRecDepth 100000 in
theorem impl_KeyRead.calls (k : Nat) (A0 : Option Addr) (c0 : Nat) (l0 : List Int) (r1 : Int) (r2 : Int) (r3 : Nat) (r4 : List Int) (r5 : Bool) (w : World) (hr0 : Kd.C (Kd.int .u8) w A0 l0.length l0) (hc0 : l0.length ≤ c0) (h : impl_KeyRead.f k l0 = some (r1, r2, r3, r4, r5)) :
  Calls Try.prog 18 #[.slice A0 l0.length c0] w fun e w' => ∃ v3_ : Value, e = .returned (.tuple #[.agg #[.int .i64 r1, .int .i64 r2, .float .f64 r3, v3_], .bool r5]) ∧ Kd.R (Kd.int .u8) 5 w' w.heap.size (fun _ => True) v3_ r4 ∧ Below w.heap.size w w' := by
 have hu25 := Try.underlying25
 have HR0 := Aside0.mk hr0
 have HC0 := Aside0.mk hc0
 clear hr0 hc0
 have HB := Aside0.mk (Below.refl w.heap.size w)
 have H := h
 clear h
 unfold impl_KeyRead.f at H
 replace H := Option.bind_eq_some_iff.mp H
 obtain ⟨⟨t231, t232, t233, t234⟩, A20, H⟩ := H
 (try dsimp only at H)
 have A2 := Aside0.mk A20
 clear A20
 replace H := Option.bind_eq_some_iff.mp H
 obtain ⟨t238, A30, H⟩ := H
 (try dsimp only at H)
 have A3 := Aside0.mk A30
 clear A30
 go_enter Try.func18, Try.ntmps18
 repeat (first | ((with_reducible refine gate_dst (N := 2) rfl ?_); refine box_event ?hg (N := 2) ?hd (cs := #[.int .i64 0, .int .i64 0, .float .f64 0, .slice none 0 0]) (t := 25) ?hr ?_; (case hd => rfl); (case hg => rfl); (case hr => first | (go_simp; done) | (go_simp; rfl)); intro gb230 hg w8 hbox hb; have n0_ := Aside0.mk (below_step (hup HB.out) hb); have n1_ := Aside0.mk (hbox); have n2_ := Geq.mk ((by rw [hg]; exact (below_size (hup HB.out)) : w.heap.size ≤ gb230)); have n3_ := Geq.mk ((by rw [hg]; exact (below_size (hup HB.out)) : w.heap.size ≤ gb230)); clear HB; have HB := n0_; have BK230 := n1_; have GW230 := n2_; have GE230 := n3_; clear n0_ n1_ n2_ n3_; clear hb hbox hg) | ((with_reducible refine gate_callee (f := 48) rfl ?_); refine goesL_ (some 6) rfl rfl Try.func48 (by kernel_rfl) rfl #[.slice A0 l0.length c0, .func (.func 55) #[] #[]] rfl (by (try simp only [List.map_toArray, List.map_cons, List.map_nil]); first | done | rfl) ?_; (with_reducible refine (impl_readItem.calls k _ _ l0 t231 t232 t233 t234 _ ?side1 ?side2 A2.out).mono ?_); (case side1 => repeat (first | exact (Kd.C_below HR0.out HB.out) | (with_reducible refine Kd.C_alloc ?_ _) | (with_reducible refine Kd.C_drewN ?_ _) | (with_reducible refine Kd.C_drew ?_))); (case side2 => exact HC0.out); rintro e w9 ⟨v235, rfl, ho0, hb⟩; refine ⟨_, rfl, ?_⟩; have n0_ := Aside0.mk (Kd.R_lower ho0 (below_size (hset HB.out))); have n1_ := Aside0.mk (blk_below (bup BK230.out) hb); have n2_ := Aside0.mk (below_step (hset HB.out) hb); clear BK230; clear HB; have HO236 := n0_; have BK230 := n1_; have HB := n2_; clear n0_ n1_ n2_; (try clear hb); (try clear hb2); (try clear hk); (try clear hi); (try clear ho0)) | ((with_reducible refine gate_dst (N := 4) rfl ?_); refine box_event ?hg (N := 4) ?hd (cs := #[.int .i64 0, .int .i64 0, .float .f64 0, .slice none 0 0]) (t := 25) ?hr ?_; (case hd => rfl); (case hg => rfl); (case hr => first | (go_simp; done) | (go_simp; rfl)); intro gb237 hg w10 hbox hb; have n0_ := Aside0.mk (Kd.R_below (Kd.rup HO236.out) hb); have n1_ := Aside0.mk (blk_below (bup BK230.out) hb); have n2_ := Aside0.mk (below_step (hset HB.out) hb); have n3_ := Aside0.mk (hbox); have n4_ := Geq.mk ((by rw [hg]; exact (below_size (hset HB.out)) : w.heap.size ≤ gb237)); have n5_ := Geq.mk ((by rw [hg]; exact (below_size (hset HB.out)) : w.heap.size ≤ gb237)); have n6_ := Neq.mk ((by rw [hg]; exact Nat.ne_of_lt (blk_lt (g := gb230) (o := .cells #[.int .i64 0, .int .i64 0, .float .f64 0, .slice none 0 0] 25 (0, 0)) (bup BK230.out)) : gb230 ≠ gb237)); have n7_ := Neq.mk ((by rw [hg]; exact Nat.ne_of_gt (blk_lt (g := gb230) (o := .cells #[.int .i64 0, .int .i64 0, .float .f64 0, .slice none 0 0] 25 (0, 0)) (bup BK230.out)) : gb237 ≠ gb230)); clear HO236; clear BK230; clear HB; have HO236 := n0_; have BK230 := n1_; have HB := n2_; have BK237 := n3_; have GW237 := n4_; have GE237 := n5_; have NB230_237 := n6_; have NB237_230 := n7_; clear n0_ n1_ n2_ n3_ n4_ n5_ n6_ n7_; clear hb hbox hg; have hnb11 := NB237_230.out; have hnc11 := NB230_237.out; obtain ⟨hcz12_0, hcz12_1, hcz12_2, hcz12_3⟩ := blk_cells4 BK237.out; obtain ⟨hfz12_0, hfz12_1, hfz12_2, hfz12_3⟩ := blk_frozens4 BK237.out; obtain ⟨Ao13, co13, eo13⟩ := Kd.R_slice HO236.out; subst eo13) | ((fail_if_success (with_reducible refine gate_callee (f := 23) rfl ?_)); first | go_values | go_skip | go_guarded | go_step | go_upon | go_back | (simp only [Int.not_lt, Int.not_le] at *; go_simp)))
 (with_reducible refine gate_callee (f := 23) rfl ?_); refine goesL_ (some 8) rfl rfl Try.func23 (by kernel_rfl) rfl #[.agg #[.int .i64 t231, .int .i64 t232, .float .f64 t233, .slice Ao13 t234.length co13]] rfl (by (try simp only [List.map_toArray, List.map_cons, List.map_nil]); first | done | rfl) ?_; (with_reducible refine (impl_KeyOk.calls t231 t232 t233 _ _ t234 t238 _ ?side1 ?side2 A3.out).mono ?_); (case side1 => refine (Kd.R_reads' (e := 5) (base := w.heap.size) (ok := fun k_ => True) (n := t234.length) (c := co13) ?_).2.2; exact ((Kd.roff1 HO236.out BK237.out (by decide)))); (case side2 => exact (Kd.R_reads' HO236.out).2.1); rintro e w14 ⟨rfl, hb⟩; refine ⟨_, rfl, ?_⟩; have n0_ := Aside0.mk (Kd.R_below ((Kd.roff1 HO236.out BK237.out (by decide))) hb); have n1_ := Aside0.mk (blk_below (g := gb230) (o := .cells #[.int .i64 0, .int .i64 0, .float .f64 0, .slice none 0 0] 25 (0, 0)) (bput BK230.out) hb); have n2_ := Aside0.mk (blk_below (g := gb237) (o := .cells #[.int .i64 t231, .int .i64 t232, .float .f64 t233, .slice Ao13 t234.length co13] 25 (0, 0)) (bput BK237.out) hb); have n3_ := Aside0.mk (below_step (hset HB.out) hb); clear HO236; clear BK230; clear BK237; clear HB; have HO236 := n0_; have BK230 := n1_; have BK237 := n2_; have HB := n3_; clear n0_ n1_ n2_ n3_; (try clear hb); (try clear hb2); (try clear hk); (try clear hi)
 by_cases c4 : t238 = true
 ·subst c4
  rw [if_pos rfl] at H
  (try dsimp only at H)
  replace H := Option.bind_eq_some_iff.mp H
  obtain ⟨t239, A50, H⟩ := H
  (try dsimp only at H)
  have A5 := Aside0.mk A50
  clear A50
  replace H := Option.bind_eq_some_iff.mp H
  obtain ⟨t242, A60, H⟩ := H
  (try dsimp only at H)
  have A6 := Aside0.mk A60
  clear A60
  obtain ⟨hcz15_0, hcz15_1, hcz15_2, hcz15_3⟩ := blk_cells4 BK237.out; obtain ⟨hfz15_0, hfz15_1, hfz15_2, hfz15_3⟩ := blk_frozens4 BK237.out
  try go_wp2_with (first | (go_at_call 24; (with_reducible refine (impl_KeyBytes.calls k t231 t232 t233 _ _ t234 t239 _ ?side1 ?side2 A5.out).mono ?_); (case side1 => repeat (first | exact (Kd.R_reads' HO236.out).2.2 | (with_reducible refine Kd.C_alloc ?_ _) | (with_reducible refine Kd.C_drewN ?_ _) | (with_reducible refine Kd.C_drew ?_))); (case side2 => exact (Kd.R_reads' HO236.out).2.1); rintro e w16 ⟨v240, rfl, ho0, hb⟩; have n0_ := Aside0.mk (Kd.R_elder' (Kd.rup HO236.out) (Kd.R_base ho0) hb); have n1_ := Aside0.mk (Kd.R_lower (Kd.R_new' ho0 (Kd.R_lt (Kd.rup HO236.out))) (below_size (hset HB.out))); have n2_ := Aside0.mk (blk_below (bup BK230.out) hb); have n3_ := Aside0.mk (blk_below (bup BK237.out) hb); have n4_ := Aside0.mk (below_step (hset HB.out) hb); clear HO236; clear BK230; clear BK237; clear HB; have HO236 := n0_; have HO241 := n1_; have BK230 := n2_; have BK237 := n3_; have HB := n4_; clear n0_ n1_ n2_ n3_ n4_; (try clear hb); (try clear hb2); (try clear hk); (try clear hi); (try clear ho0); obtain ⟨Ao17, co17, eo17⟩ := Kd.R_slice HO241.out; subst eo17))
  go_at_call 51; (with_reducible refine (bytes_Equal.calls _ _ t239 _ _ l0 t242 _ ?side1 ?side2 ?side3 ?side4 A6.out).mono ?_); (case side1 => repeat (first | exact (Kd.R_reads' HO241.out).2.2 | (with_reducible refine Kd.C_alloc ?_ _) | (with_reducible refine Kd.C_drewN ?_ _) | (with_reducible refine Kd.C_drew ?_))); (case side2 => exact (Kd.R_reads' HO241.out).2.1); (case side3 => repeat (first | exact (Kd.C_below HR0.out HB.out) | (with_reducible refine Kd.C_alloc ?_ _) | (with_reducible refine Kd.C_drewN ?_ _) | (with_reducible refine Kd.C_drew ?_))); (case side4 => exact HC0.out); rintro e w' ⟨rfl, ⟨nd, rfl⟩⟩; (try (rw [drewN_self w16]; generalize hq_ : World.drewN w16 _ = w16; have n0_ : Aside0 (Kd.R (Kd.int .u8) 5 w16 w.heap.size (fun k_ => (True ∧ some k_ ≠ (.slice Ao17 t239.length co17 : Value).ownBlock)) (.slice Ao13 t234.length co13) t234) := ⟨by rw [← hq_]; exact (Kd.rup HO236.out)⟩; have n1_ : Aside0 (Kd.R (Kd.int .u8) 5 w16 w.heap.size (fun k_ => (True ∧ some k_ ≠ (.slice Ao13 t234.length co13 : Value).ownBlock)) (.slice Ao17 t239.length co17) t239) := ⟨by rw [← hq_]; exact (Kd.rup HO241.out)⟩; have n2_ : Aside0 (w16.heap[gb230]? = some (.cells #[.int .i64 0, .int .i64 0, .float .f64 0, .slice none 0 0] 25 (0, 0))) := ⟨by rw [← hq_]; exact (bup BK230.out)⟩; have n3_ : Aside0 (w16.heap[gb237]? = some (.cells #[.int .i64 t231, .int .i64 t232, .float .f64 t233, .slice Ao13 t234.length co13] 25 (0, 0))) := ⟨by rw [← hq_]; exact (bup BK237.out)⟩; have n4_ : Aside0 (Below w.heap.size w w16) := ⟨by rw [← hq_]; exact (hset HB.out)⟩; clear HO236 HO241 BK230 BK237 HB hq_; have HO236 := n0_; have HO241 := n1_; have BK230 := n2_; have BK237 := n3_; have HB := n4_; clear n0_ n1_ n2_ n3_ n4_))
  by_cases c7 : t242 = true
  ·subst c7
   rw [if_pos rfl] at H
   (try dsimp only at H)
   simp only [Option.some.injEq, Prod.mk.injEq] at H
   obtain ⟨rfl, rfl, rfl, rfl, rfl⟩ := H
   obtain ⟨hcz18_0, hcz18_1, hcz18_2, hcz18_3⟩ := blk_cells4 BK237.out; obtain ⟨hfz18_0, hfz18_1, hfz18_2, hfz18_3⟩ := blk_frozens4 BK237.out; obtain ⟨hcz19_0, hcz19_1, hcz19_2, hcz19_3⟩ := blk_cells4 BK230.out; obtain ⟨hfz19_0, hfz19_1, hfz19_2, hfz19_3⟩ := blk_frozens4 BK230.out
   try go_wp2
   refine bodyPost_ret (results_ct rfl _ _ gb230 25 #[.int .i64 t231, .int .i64 t232, .float .f64 t233, .slice Ao13 t234.length co13] (0, 0) _ rfl (bput BK230.out) Try.underlying25 rfl (by kernel_rfl)) rfl ?_
   exact ⟨_, by first | rfl | (simp [errW_none, errW_some] <;> rfl) | (simp [*, errW_none, errW_some] <;> rfl), by exact Kd.rup (Kd.R_mono (Kd.R_far (p := ⟨gb230, 3, none⟩) (Kd.R_far (p := ⟨gb230, 2, none⟩) (Kd.R_far (p := ⟨gb230, 1, none⟩) (Kd.R_far (p := ⟨gb230, 0, none⟩) (Kd.R_types HO236.out BK230.out (by decide)) (fun _ hk => hk.2) (.int .i64 t231)) (fun _ hk => hk.2) (.int .i64 t232)) (fun _ hk => hk.2) (.float .f64 t233)) (fun _ hk => hk.2) (.slice Ao13 t234.length co13)) (fun _ hk => trivial)), hset HB.out⟩
  ·replace c7 := Bool.eq_false_iff.mpr c7
   subst c7
   rw [if_neg (show ¬ (false = true) by decide)] at H
   (try dsimp only at H)
   simp only [Option.some.injEq, Prod.mk.injEq] at H
   obtain ⟨rfl, rfl, rfl, rfl, rfl⟩ := H
   obtain ⟨hcz30_0, hcz30_1, hcz30_2, hcz30_3⟩ := blk_cells4 BK230.out; obtain ⟨hfz30_0, hfz30_1, hfz30_2, hfz30_3⟩ := blk_frozens4 BK230.out
   try go_wp2
   refine bodyPost_ret (results_ct rfl _ _ gb230 25 #[.int .i64 0, .int .i64 0, .float .f64 0, .slice none 0 0] (0, 0) _ rfl (bput BK230.out) Try.underlying25 rfl (by kernel_rfl)) rfl ?_
   exact ⟨_, by first | rfl | (simp [errW_none, errW_some] <;> rfl) | (simp [*, errW_none, errW_some] <;> rfl), by first | exact Kd.R_nil _ _ _ _ _ | exact Kd.N_nil _ _ _ _ _ | exact Kd.V_nil _ _ _ _ _ | exact Kd.Q_nil _ _ _ _ _ | exact Kd.S_nil _ _ _ _ _, hset HB.out⟩
 ·replace c4 := Bool.eq_false_iff.mpr c4
  subst c4
  rw [if_neg (show ¬ (false = true) by decide)] at H
  (try dsimp only at H)
  simp only [Option.some.injEq, Prod.mk.injEq] at H
  obtain ⟨rfl, rfl, rfl, rfl, rfl⟩ := H
  obtain ⟨hcz38_0, hcz38_1, hcz38_2, hcz38_3⟩ := blk_cells4 BK230.out; obtain ⟨hfz38_0, hfz38_1, hfz38_2, hfz38_3⟩ := blk_frozens4 BK230.out
  try go_wp2
  refine bodyPost_ret (results_ct rfl _ _ gb230 25 #[.int .i64 0, .int .i64 0, .float .f64 0, .slice none 0 0] (0, 0) _ rfl (bput BK230.out) Try.underlying25 rfl (by kernel_rfl)) rfl ?_
  exact ⟨_, by first | rfl | (simp [errW_none, errW_some] <;> rfl) | (simp [*, errW_none, errW_some] <;> rfl), by first | exact Kd.R_nil _ _ _ _ _ | exact Kd.N_nil _ _ _ _ _ | exact Kd.V_nil _ _ _ _ _ | exact Kd.Q_nil _ _ _ _ _ | exact Kd.S_nil _ _ _ _ _, hset HB.out⟩
def impl_hasBytes.f (l0 : List Int) (a1 : Int) (a2 : Int) : Option (Bool) := (impl_within.f a1 0 (l0.length : Int)).bind fun t243 => (if t243 = true then (some (decide (a2 ≤ (wrap64 ((l0.length : Int) - a1))))) else (some false))
set_option maxHeartbeats 8000000 in
set_option maxRecDepth 100000 in
theorem impl_hasBytes.calls (A0 : Option Addr) (c0 : Nat) (l0 : List Int) (a1 : Int) (a2 : Int) (r : Bool) (w : World) (hr0 : Kd.C (Kd.int .u8) w A0 l0.length l0) (hc0 : l0.length ≤ c0) (h : impl_hasBytes.f l0 a1 a2 = some r) :
    Calls Try.prog 97 #[.slice A0 l0.length c0, .int .i64 a1, .int .i64 a2] w fun e w' => e = .returned (.bool r) ∧ Drawn0 w w' := by
  have HR0 := Aside0.mk hr0
  have HC0 := Aside0.mk hc0
  clear hr0 hc0
  have H := h
  clear h
  unfold impl_hasBytes.f at H
  replace H := Option.bind_eq_some_iff.mp H
  obtain ⟨t243, A40, H⟩ := H
  (try dsimp only at H)
  have A4 := Aside0.mk A40
  clear A40
  go_enter Try.func97, Try.ntmps97
  repeat (first | ((fail_if_success (with_reducible refine gate_callee (f := 80) rfl ?_)); first | go_values | go_skip | go_guarded | go_step | go_upon | go_back | (simp only [Int.not_lt, Int.not_le] at *; go_simp)))
  (with_reducible refine gate_callee (f := 80) rfl ?_); refine goesL_ (some 10) rfl rfl Try.func80 (by kernel_rfl) rfl #[.int .i64 a1, .int .i64 0, .int .i64 (l0.length : Int)] rfl (by (try simp only [List.map_toArray, List.map_cons, List.map_nil]); first | done | rfl) ?_; (with_reducible refine (impl_within.calls a1 0 (l0.length : Int) t243 _ A4.out).mono ?_); rintro e w' ⟨rfl, ⟨nd, rfl⟩⟩; refine ⟨_, rfl, ?_⟩
  by_cases c5 : t243 = true
  · subst c5
    rw [if_pos rfl] at H
    (try dsimp only at H)
    obtain rfl := Option.some.inj H
    try go_wp2
    go_ret
    exact ⟨by first | rfl | (simp; done) | (simp [*]; done), by repeat (first | exact Drawn0.refl _ | apply Drawn0.step)⟩
  · replace c5 := Bool.eq_false_iff.mpr c5
    subst c5
    rw [if_neg (show ¬ (false = true) by decide)] at H
    (try dsimp only at H)
    obtain rfl := Option.some.inj H
    try go_wp2
    go_ret
    exact ⟨by first | rfl | (simp; done) | (simp [*]; done), by repeat (first | exact Drawn0.refl _ | apply Drawn0.step)⟩
end Go.Proofs.Ytjjkhlphdbmdfaa.PFnTuples
