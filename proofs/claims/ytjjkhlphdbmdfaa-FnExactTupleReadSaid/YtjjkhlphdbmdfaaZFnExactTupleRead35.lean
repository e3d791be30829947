import Derived.Test.YtjjkhlphdbmdfaaZFnExactTupleRead30
import Derived.Test.YtjjkhlphdbmdfaaZFnExactTupleRead32
import Derived.Test.YtjjkhlphdbmdfaaZFnExactTupleRead33
import Derived.Test.YtjjkhlphdbmdfaaZFnExactTupleRead34
namespace Go.Proofs.Ytjjkhlphdbmdfaa.PFnExactTupleRead
open Go.RowKit Go.Proofs.YtjjkhlphdbmdfaaW.PrintWords Go.Proofs.YtjjkhlphdbmdfaaW.PrintLast Go.Proofs.YtjjkhlphdbmdfaaW.PrintMore
attribute [local go_sem] max2_int min2_int max_two min_two max_three min_three max_four min_four   -- for this text's walks alone
attribute [local go_sem high] fl_eql fl_neq fl_lss fl_leq fl_gtr fl_geq fl_add fl_sub fl_mul fl_quo fl_neg fl_ofInt fl_toInt fl_store sub_sign ext_bits ext_from fl_nan_quo fl_nan_add fl_nan_mul fl_nan_sub
open Go.Proofs.YtjjkhlphdbmdfaaW.PrintWords renaming below_alloc → h1, pw_below_drewN → h2, below_drew1 → h3, below_set → h4, blk_drewN → b1, blk_drew → b2, blk_alloc → b3
set_option linter.unusedVariables false
set_option linter.unusedSimpArgs false
def spec_FloatUnrank.j0 : Nat → Int → Int → Option (Nat × Bool)
  | 0, _, _ => none
  | k + 1, x0, x4 => (spec_FloatOf.c k x4).bind fun t184 => ((spec_FloatRank.f k t184).bind fun t185 => (if t185 = x0 then (some (t184, true)) else (some (0, false))))
def spec_FloatUnrank.f (k : Nat) (a0 : Int) : Option (Nat × Bool) := if a0 = 18446744073709551615 then (spec_FloatUnrank.j0 k a0 9221120237041090560) else (if (a0 / 9223372036854775808) = 1 then (spec_FloatUnrank.j0 k a0 (Go.bits .and .u64 a0 9223372036854775807)) else (spec_FloatUnrank.j0 k a0 (Go.bits .xor .u64 IntKind.u64.max a0)))
theorem spec_FloatUnrank.mono_l : ∀ k, (∀ y0 y1, LeO (spec_FloatUnrank.j0 k y0 y1) (spec_FloatUnrank.j0 (k + 1) y0 y1))
  | 0 => fun _ _ r h => by simp [spec_FloatUnrank.j0] at h
  | k + 1 => by
    have ih0 := spec_FloatUnrank.mono_l k
    · intro y0 y1
      unfold spec_FloatUnrank.j0
      repeat' with_reducible first | exact ih0 _ _ | exact spec_FloatOf.monoC _ _ | exact spec_FloatRank.mono _ _ | exact LeO.refl _ | exact LeO.none _ | refine LeO.ite ?_ ?_ | refine LeO.bind ?_ (fun _ => ?_)
theorem spec_FloatUnrank.mono : ∀ a0 k, LeO (spec_FloatUnrank.f k a0) (spec_FloatUnrank.f (k + 1) a0) := by
  intro a0 k
  have ih0 := spec_FloatUnrank.mono_l k
  unfold spec_FloatUnrank.f
  repeat' with_reducible first | exact ih0 _ _ | exact spec_FloatOf.monoC _ _ | exact spec_FloatRank.mono _ _ | exact LeO.refl _ | exact LeO.none _ | refine LeO.ite ?_ ?_ | refine LeO.bind ?_ (fun _ => ?_)
set_option maxHeartbeats 8000000 in
set_option maxRecDepth 100000 in
theorem spec_FloatUnrank.callsC (k : Nat) (a0 : Int) (r1 : Nat) (r2 : Bool) (w : World) (h : spec_FloatUnrank.f k a0 = some (r1, r2)) :
    Calls Try.prog 53 #[.int .u64 a0] w fun e w' => ∃ b1_ : Nat, e = .returned (.tuple #[.float .f64 b1_, .bool r2]) ∧ Drawn0 w w' ∧ Aside0 (cn b1_ = r1 ∧ b1_ < 2 ^ 64) := by
  have H := h
  clear h
  unfold spec_FloatUnrank.f at H
  have HC2 := Aside0.mk H
  clear H
  go_enter Try.func53, Try.ntmps53
  go_upto_if 7 with (fail)
  go_cut [4] (fun v4 wc => ∃ (kq : Nat) (x4_1 : Int), v4 = .int .u64 x4_1 ∧ Aside0 (spec_FloatUnrank.j0 kq a0 x4_1 = some (r1, r2)) ∧ Aside0 (kq ≤ k) ∧ Drawn0 w wc)
  case first =>
    have H := HC2.out
    clear HC2
    by_cases c3 : a0 = 18446744073709551615
    · rw [if_pos c3] at H
      have c3b0 : (a0 == 18446744073709551615) = true := beq_iff_eq.mpr c3
      have c3b1 : (a0 != 18446744073709551615) = false := bne_eq_false_iff_eq.mpr c3
      clear c3
      (first | rw [c3b0] | (simp only [i64_w, i32_w]; rw [c3b0]) | skip)
      have H' := Aside0.mk H
      clear H
      go_wp2
      go_meet
      case rel => exact ⟨_, (9221120237041090560), (by first | rfl | (simp; done) | (simp [*]; done)), H', ⟨by first | omega | exact Nat.le_refl _⟩, by repeat (first | exact Drawn0.refl _ | apply Drawn0.step)⟩
    · rw [if_neg c3] at H
      have c3b0 : (a0 == 18446744073709551615) = false := beq_eq_false_iff_ne.mpr c3
      have c3b1 : (a0 != 18446744073709551615) = true := bne_iff_ne.mpr c3
      (first | rw [c3b0] | (simp only [i64_w, i32_w]; rw [c3b0]) | skip)
      by_cases c4 : (a0 / 9223372036854775808) = 1
      · rw [if_pos c4] at H
        have c4b0 : ((a0 / 9223372036854775808) == 1) = true := beq_iff_eq.mpr c4
        have c4b1 : ((a0 / 9223372036854775808) != 1) = false := bne_eq_false_iff_eq.mpr c4
        clear c4
        have H' := Aside0.mk H
        clear H
        go_wp2
        go_meet
        case rel => exact ⟨_, (Go.bits .and .u64 a0 9223372036854775807), (by first | rfl | (simp; done) | (simp [*]; done)), H', ⟨by first | omega | exact Nat.le_refl _⟩, by repeat (first | exact Drawn0.refl _ | apply Drawn0.step)⟩
      · rw [if_neg c4] at H
        have c4b0 : ((a0 / 9223372036854775808) == 1) = false := beq_eq_false_iff_ne.mpr c4
        have c4b1 : ((a0 / 9223372036854775808) != 1) = true := bne_iff_ne.mpr c4
        have H' := Aside0.mk H
        clear H
        go_wp2
        go_meet
        case rel => exact ⟨_, (Go.bits .xor .u64 IntKind.u64.max a0), (by first | rfl | (simp; done) | (simp [*]; done)), H', ⟨by first | omega | exact Nat.le_refl _⟩, by repeat (first | exact Drawn0.refl _ | apply Drawn0.step)⟩
  case rest =>
    clear HC2
    try clear p2
    try clear c3
    try clear c3b0
    try clear c3b1
    try clear c4
    try clear c4b0
    try clear c4b1
    obtain ⟨kq, x4_1, rfl, HA, HJ1, ⟨mc1, rfl⟩⟩ := hcut
    cases kq with
    | zero => exact absurd HA.out (by simp [spec_FloatUnrank.j0])
    | succ kj1 =>
      have H := HA.out
      clear HA
      simp only [spec_FloatUnrank.j0] at H
      replace H := Option.bind_eq_some_iff.mp H
      obtain ⟨t184, A50, H⟩ := H
      (try dsimp only at H)
      have A5 := Aside0.mk A50
      clear A50
      replace H := Option.bind_eq_some_iff.mp H
      obtain ⟨t185, A60, H⟩ := H
      (try dsimp only at H)
      have A6 := Aside0.mk A60
      clear A60
      repeat (first | ((with_reducible refine gate_callee (f := 46) rfl ?_); refine goesL_ (some 16) rfl rfl Try.func46 (by kernel_rfl) rfl #[.int .u64 x4_1] rfl (by (try simp only [List.map_toArray, List.map_cons, List.map_nil]); first | done | rfl) ?_; (with_reducible refine (spec_FloatOf.callsC kj1 x4_1 t184 _ A5.out).mono ?_); rintro e w' ⟨b184, rfl, ⟨nd, rfl⟩, ⟨⟨hcnb184, hltb184⟩⟩⟩; refine ⟨_, rfl, ?_⟩; have LTb184 := Aside0.mk hltb184; clear hltb184; subst hcnb184) | ((fail_if_success (with_reducible refine gate_callee (f := 85) rfl ?_)); first | go_values | go_skip | go_guarded | go_step | go_upon | go_back | (simp only [Int.not_lt, Int.not_le] at *; go_simp)))
      (with_reducible refine gate_callee (f := 85) rfl ?_); refine goesL_ (some 18) rfl rfl Try.func85 (by kernel_rfl) rfl #[.float .f64 b184] rfl (by (try simp only [List.map_toArray, List.map_cons, List.map_nil]); first | done | rfl) ?_; (with_reducible refine (spec_FloatRank.calls kj1 b184 t185 _ ((spec_FloatRank.inv0 _ _).symm.trans A6.out)).mono ?_); rintro e w' ⟨rfl, ⟨nd, rfl⟩⟩; refine ⟨_, rfl, ?_⟩
      by_cases c7 : t185 = a0
      · rw [if_pos c7] at H
        have c7b0 : (t185 == a0) = true := beq_iff_eq.mpr c7
        have c7b1 : (t185 != a0) = false := bne_eq_false_iff_eq.mpr c7
        (try simp only [c7b0, c7b1, Bool.not_true, Bool.not_false])
        clear c7
        simp only [Option.some.injEq, Prod.mk.injEq] at H
        obtain ⟨rfl, rfl⟩ := H
        try go_wp2
        go_ret2
        exact ⟨_, by first | rfl | (simp; done) | (simp [*]; done), by repeat (first | exact Drawn0.refl _ | apply Drawn0.step), (by first | exact ⟨⟨rfl, LTb184.out⟩⟩ | exact ⟨⟨by first | rfl | decide, by decide⟩⟩)⟩
      · rw [if_neg c7] at H
        have c7b0 : (t185 == a0) = false := beq_eq_false_iff_ne.mpr c7
        have c7b1 : (t185 != a0) = true := bne_iff_ne.mpr c7
        (try simp only [c7b0, c7b1, Bool.not_true, Bool.not_false])
        simp only [Option.some.injEq, Prod.mk.injEq] at H
        obtain ⟨rfl, rfl⟩ := H
        try go_wp2
        go_ret2
        exact ⟨_, by first | rfl | (simp; done) | (simp [*]; done), by repeat (first | exact Drawn0.refl _ | apply Drawn0.step), (by first | exact ⟨⟨rfl, LTb184.out⟩⟩ | exact ⟨⟨by first | rfl | decide, by decide⟩⟩)⟩
def spec_KeyOk.f (k : Nat) (a0_0 : Int) (a0_1 : Int) (a0_2 : Nat) (l0_3 : List Int) : Option (Bool) := (spec_ItemOk.f k a0_0 a0_1 a0_2 l0_3).bind fun t187 => (if t187 = true then (if a0_0 = 0 then (some false) else (if (feq a0_2 0) = true then ((spec_FloatBits.f k a0_2).bind fun t188 => (some (!(t188 != 0)))) else (some (!false)))) else (some false))
theorem spec_KeyOk.mono : ∀ a0 a1 a2 a3 k, LeO (spec_KeyOk.f k a0 a1 a2 a3) (spec_KeyOk.f (k + 1) a0 a1 a2 a3) := by
  intro a0 a1 a2 a3 k
  unfold spec_KeyOk.f
  repeat' with_reducible first | exact spec_FloatBits.mono _ _ | exact spec_ItemOk.mono _ _ _ _ _ | exact LeO.refl _ | exact LeO.none _ | refine LeO.ite ?_ ?_ | refine LeO.bind ?_ (fun _ => ?_)
set_option maxHeartbeats 8000000 in
set_option maxRecDepth 100000 in
theorem spec_KeyOk.calls (k : Nat) (a0_0 : Int) (a0_1 : Int) (a0_2 : Nat) (A0_3 : Option Addr) (c0_3 : Nat) (l0_3 : List Int) (r : Bool) (w : World) (hr0_3 : Kd.C (Kd.int .u8) w A0_3 l0_3.length l0_3) (hc0_3 : l0_3.length ≤ c0_3) (h : spec_KeyOk.f k a0_0 a0_1 a0_2 l0_3 = some r) :
    Calls Try.prog 22 #[.agg #[.int .i64 a0_0, .int .i64 a0_1, .float .f64 a0_2, .slice A0_3 l0_3.length c0_3]] w fun e w' => e = .returned (.bool r) ∧ Below w.heap.size w w' := by
  have hu25 := Try.underlying25
  have HR0_3 := Aside0.mk hr0_3
  have HC0_3 := Aside0.mk hc0_3
  clear hr0_3 hc0_3
  have HB := Aside0.mk (Below.refl w.heap.size w)
  have H := h
  clear h
  unfold spec_KeyOk.f at H
  replace H := Option.bind_eq_some_iff.mp H
  obtain ⟨t187, A20, H⟩ := H
  (try dsimp only at H)
  have A2 := Aside0.mk A20
  clear A20
  go_enter Try.func22, Try.ntmps22
  repeat (first | ((with_reducible refine gate_dst (N := 1) rfl ?_); refine box_event ?hg (N := 1) ?hd (cs := #[.int .i64 a0_0, .int .i64 a0_1, .float .f64 a0_2, .slice A0_3 l0_3.length c0_3]) (t := 25) ?hr ?_; (case hd => rfl); (case hg => rfl); (case hr => first | (go_simp; done) | (go_simp; rfl)); intro gb186 hg w5 hbox hb; have n0_ := Aside0.mk (below_step (hup HB.out) hb); have n1_ := Aside0.mk (hbox); have n2_ := Geq.mk ((by rw [hg]; exact (below_size (hup HB.out)) : w.heap.size ≤ gb186)); have n3_ := Geq.mk ((by rw [hg]; exact (below_size (hup HB.out)) : w.heap.size ≤ gb186)); clear HB; have HB := n0_; have BK186 := n1_; have GW186 := n2_; have GE186 := n3_; clear n0_ n1_ n2_ n3_; clear hb hbox hg; obtain ⟨hcz6_0, hcz6_1, hcz6_2, hcz6_3⟩ := blk_cells4 BK186.out; obtain ⟨hfz6_0, hfz6_1, hfz6_2, hfz6_3⟩ := blk_frozens4 BK186.out) | ((fail_if_success (with_reducible refine gate_callee (f := 27) rfl ?_)); first | go_values | go_skip | go_guarded | go_step | go_upon | go_back | (simp only [Int.not_lt, Int.not_le] at *; go_simp)))
  (with_reducible refine gate_callee (f := 27) rfl ?_); refine goesL_ (some 4) rfl rfl Try.func27 (by kernel_rfl) rfl #[.agg #[.int .i64 a0_0, .int .i64 a0_1, .float .f64 a0_2, .slice A0_3 l0_3.length c0_3]] rfl (by (try simp only [List.map_toArray, List.map_cons, List.map_nil]); first | done | rfl) ?_; (with_reducible refine (spec_ItemOk.calls k a0_0 a0_1 a0_2 _ _ l0_3 t187 _ ?side1 ?side2 A2.out).mono ?_); (case side1 => repeat (first | exact (Kd.C_below HR0_3.out HB.out) | (with_reducible refine Kd.C_alloc ?_ _) | (with_reducible refine Kd.C_drewN ?_ _) | (with_reducible refine Kd.C_drew ?_))); (case side2 => exact HC0_3.out); rintro e w7 ⟨rfl, hb⟩; refine ⟨_, rfl, ?_⟩; have n0_ := Aside0.mk (blk_below (bup BK186.out) hb); have n1_ := Aside0.mk (below_step (hset HB.out) hb); clear BK186; clear HB; have BK186 := n0_; have HB := n1_; clear n0_ n1_; (try clear hb); (try clear hb2); (try clear hk)
  by_cases c3 : t187 = true
  · subst c3
    rw [if_pos rfl] at H
    (try dsimp only at H)
    by_cases c4 : a0_0 = 0
    · rw [if_pos c4] at H
      have c4b0 : (a0_0 == 0) = true := beq_iff_eq.mpr c4
      have c4b1 : (a0_0 != 0) = false := bne_eq_false_iff_eq.mpr c4
      (try simp only [c4b0, c4b1, Bool.not_true, Bool.not_false])
      clear c4
      obtain rfl := Option.some.inj H
      (try clear hi); obtain ⟨hcz8_0, hcz8_1, hcz8_2, hcz8_3⟩ := blk_cells4 BK186.out; obtain ⟨hfz8_0, hfz8_1, hfz8_2, hfz8_3⟩ := blk_frozens4 BK186.out
      try go_wp2
      go_ret
      exact ⟨by first | rfl | (simp [errW_none, errW_some] <;> rfl) | (simp [*, errW_none, errW_some] <;> rfl), hset HB.out⟩
    · rw [if_neg c4] at H
      have c4b0 : (a0_0 == 0) = false := beq_eq_false_iff_ne.mpr c4
      have c4b1 : (a0_0 != 0) = true := bne_iff_ne.mpr c4
      (try simp only [c4b0, c4b1, Bool.not_true, Bool.not_false])
      by_cases c9 : (feq a0_2 0) = true
      · rw [if_pos c9] at H
        have c9b0 : (feq a0_2 0) = true := c9
        (try simp only [c9b0, Bool.not_true, Bool.not_false])
        clear c9
        replace H := Option.bind_eq_some_iff.mp H
        obtain ⟨t188, A100, H⟩ := H
        (try dsimp only at H)
        have A10 := Aside0.mk A100
        clear A100
        obtain rfl := Option.some.inj H
        (try clear hi); obtain ⟨hcz14_0, hcz14_1, hcz14_2, hcz14_3⟩ := blk_cells4 BK186.out; obtain ⟨hfz14_0, hfz14_1, hfz14_2, hfz14_3⟩ := blk_frozens4 BK186.out
        try go_wp2_with (first | (go_at_call 30; (with_reducible refine (spec_FloatBits.calls k a0_2 t188 _ A10.out).mono ?_); rintro e w' ⟨rfl, ⟨nd, rfl⟩⟩))
        go_ret
        exact ⟨by first | rfl | (simp [errW_none, errW_some] <;> rfl) | (simp [*, errW_none, errW_some] <;> rfl), hset HB.out⟩
      · rw [if_neg c9] at H
        have c9b0 : (feq a0_2 0) = false := by simpa using c9
        (try simp only [c9b0, Bool.not_true, Bool.not_false])
        clear c9
        obtain rfl := Option.some.inj H
        (try clear hi); obtain ⟨hcz18_0, hcz18_1, hcz18_2, hcz18_3⟩ := blk_cells4 BK186.out; obtain ⟨hfz18_0, hfz18_1, hfz18_2, hfz18_3⟩ := blk_frozens4 BK186.out
        try go_wp2
        go_ret
        exact ⟨by first | rfl | (simp [errW_none, errW_some] <;> rfl) | (simp [*, errW_none, errW_some] <;> rfl), hset HB.out⟩
  · replace c3 := Bool.eq_false_iff.mpr c3
    subst c3
    rw [if_neg (show ¬ (false = true) by decide)] at H
    (try dsimp only at H)
    obtain rfl := Option.some.inj H
    (try clear hi)
    try go_wp2
    go_ret
    exact ⟨by first | rfl | (simp [errW_none, errW_some] <;> rfl) | (simp [*, errW_none, errW_some] <;> rfl), hset HB.out⟩
theorem spec_KeyOk.inv0 (k : Nat) (a0_0 : Int) (a0_1 : Int) (a0_2 : Nat) (l0_3 : List Int) : spec_KeyOk.f k a0_0 a0_1 (cn a0_2) l0_3 = spec_KeyOk.f k a0_0 a0_1 a0_2 l0_3 := by
  by_cases h_ : nanw a0_2
  · unfold spec_KeyOk.f
    first
      | (simp only [spec_FloatBits.inv0, spec_ItemOk.inv0, cn_zero, feq_cn_l, feq_cn_r, fls_cn_l, fls_cn_r, fgt_cn_l, fgt_cn_r, fle_cn_l, fle_cn_r, fge_cn_l, fge_cn_r]; done)
      | (simp only [spec_FloatBits.inv0, spec_ItemOk.inv0, cn_zero, feq_cn_l, feq_cn_r, fls_cn_l, fls_cn_r, fgt_cn_l, fgt_cn_r, fle_cn_l, fle_cn_r, fge_cn_l, fge_cn_r, feq_nan_l h_, feq_nan_l (cn_nanw h_), Bool.false_eq_true, if_false]; done)
      | (simp [feq_nan_l h_, feq_nan_l (cn_nanw h_)]; done)
  · rw [cn_num h_]
def spec_KeyBytes.f (k : Nat) (a0_0 : Int) (a0_1 : Int) (a0_2 : Nat) (l0_3 : List Int) : Option (List Int) := (spec_KeyOk.f k a0_0 a0_1 a0_2 l0_3).bind fun t190 => (if t190 = true then ((spec_FloatRank.f k a0_2).bind fun t191 => ((spec_l3bytes.f k a0_0 a0_1 a0_2 l0_3 t191).bind fun t192 => (some t192))) else (some ([] : List Int)))
theorem spec_KeyBytes.mono : ∀ a0 a1 a2 a3 k, LeO (spec_KeyBytes.f k a0 a1 a2 a3) (spec_KeyBytes.f (k + 1) a0 a1 a2 a3) := by
  intro a0 a1 a2 a3 k
  unfold spec_KeyBytes.f
  repeat' with_reducible first | exact spec_FloatRank.mono _ _ | exact spec_KeyOk.mono _ _ _ _ _ | exact spec_l3bytes.mono _ _ _ _ _ _ | exact LeO.refl _ | exact LeO.none _ | refine LeO.ite ?_ ?_ | refine LeO.bind ?_ (fun _ => ?_)
set_option maxHeartbeats 8000000 in
set_option maxRecDepth 100000 in
theorem spec_KeyBytes.calls (k : Nat) (a0_0 : Int) (a0_1 : Int) (a0_2 : Nat) (A0_3 : Option Addr) (c0_3 : Nat) (l0_3 : List Int) (r : List Int) (w : World) (hr0_3 : Kd.C (Kd.int .u8) w A0_3 l0_3.length l0_3) (hc0_3 : l0_3.length ≤ c0_3) (h : spec_KeyBytes.f k a0_0 a0_1 a0_2 l0_3 = some r) :
    Calls Try.prog 54 #[.agg #[.int .i64 a0_0, .int .i64 a0_1, .float .f64 a0_2, .slice A0_3 l0_3.length c0_3]] w fun e w' => ∃ v0_ : Value, e = .returned (v0_) ∧ Kd.R (Kd.int .u8) 5 w' w.heap.size (fun _ => True) v0_ r ∧ Below w.heap.size w w' := by
  have hu25 := Try.underlying25
  have HR0_3 := Aside0.mk hr0_3
  have HC0_3 := Aside0.mk hc0_3
  clear hr0_3 hc0_3
  have HB := Aside0.mk (Below.refl w.heap.size w)
  have H := h
  clear h
  unfold spec_KeyBytes.f at H
  replace H := Option.bind_eq_some_iff.mp H
  obtain ⟨t190, A20, H⟩ := H
  (try dsimp only at H)
  have A2 := Aside0.mk A20
  clear A20
  go_enter Try.func54, Try.ntmps54
  repeat (first | ((with_reducible refine gate_dst (N := 1) rfl ?_); refine box_event ?hg (N := 1) ?hd (cs := #[.int .i64 a0_0, .int .i64 a0_1, .float .f64 a0_2, .slice A0_3 l0_3.length c0_3]) (t := 25) ?hr ?_; (case hd => rfl); (case hg => rfl); (case hr => first | (go_simp; done) | (go_simp; rfl)); intro gb189 hg w6 hbox hb; have n0_ := Aside0.mk (below_step (hup HB.out) hb); have n1_ := Aside0.mk (hbox); have n2_ := Geq.mk ((by rw [hg]; exact (below_size (hup HB.out)) : w.heap.size ≤ gb189)); have n3_ := Geq.mk ((by rw [hg]; exact (below_size (hup HB.out)) : w.heap.size ≤ gb189)); clear HB; have HB := n0_; have BK189 := n1_; have GW189 := n2_; have GE189 := n3_; clear n0_ n1_ n2_ n3_; clear hb hbox hg; obtain ⟨hcz7_0, hcz7_1, hcz7_2, hcz7_3⟩ := blk_cells4 BK189.out; obtain ⟨hfz7_0, hfz7_1, hfz7_2, hfz7_3⟩ := blk_frozens4 BK189.out) | ((fail_if_success (with_reducible refine gate_callee (f := 22) rfl ?_)); first | go_values | go_skip | go_guarded | go_step | go_upon | go_back | (simp only [Int.not_lt, Int.not_le] at *; go_simp)))
  (with_reducible refine gate_callee (f := 22) rfl ?_); refine goesL_ (some 4) rfl rfl Try.func22 (by kernel_rfl) rfl #[.agg #[.int .i64 a0_0, .int .i64 a0_1, .float .f64 a0_2, .slice A0_3 l0_3.length c0_3]] rfl (by (try simp only [List.map_toArray, List.map_cons, List.map_nil]); first | done | rfl) ?_; (with_reducible refine (spec_KeyOk.calls k a0_0 a0_1 a0_2 _ _ l0_3 t190 _ ?side1 ?side2 A2.out).mono ?_); (case side1 => repeat (first | exact (Kd.C_below HR0_3.out HB.out) | (with_reducible refine Kd.C_alloc ?_ _) | (with_reducible refine Kd.C_drewN ?_ _) | (with_reducible refine Kd.C_drew ?_))); (case side2 => exact HC0_3.out); rintro e w8 ⟨rfl, hb⟩; refine ⟨_, rfl, ?_⟩; have n0_ := Aside0.mk (blk_below (bup BK189.out) hb); have n1_ := Aside0.mk (below_step (hset HB.out) hb); clear BK189; clear HB; have BK189 := n0_; have HB := n1_; clear n0_ n1_; (try clear hb); (try clear hb2); (try clear hk); (try clear hi)
  by_cases c3 : t190 = true
  · subst c3
    rw [if_pos rfl] at H
    (try dsimp only at H)
    replace H := Option.bind_eq_some_iff.mp H
    obtain ⟨t191, A40, H⟩ := H
    (try dsimp only at H)
    have A4 := Aside0.mk A40
    clear A40
    replace H := Option.bind_eq_some_iff.mp H
    obtain ⟨t192, A50, H⟩ := H
    (try dsimp only at H)
    have A5 := Aside0.mk A50
    clear A50
    obtain rfl := Option.some.inj H
    try go_wp2
    have n0_ := Aside0.mk (blk_drew BK189.out)
    have n1_ := Aside0.mk (below_drew1 HB.out)
    clear BK189
    clear HB
    have BK189 := n0_
    have HB := n1_
    clear n0_ n1_
    refine start_ (n := 6) (S := fun w' => w'.cell? ⟨gb189, 0, none⟩ = some (.int .i64 a0_0) ∧ w'.cell? ⟨gb189, 1, none⟩ = some (.int .i64 a0_1) ∧ w'.cell? ⟨gb189, 2, none⟩ = some (.float .f64 a0_2) ∧ w'.cell? ⟨gb189, 3, none⟩ = some (.slice A0_3 l0_3.length c0_3)) (ds := []) #[false, false, false, false, false, false] (by kernel_rfl) rfl rfl (blk_cells4 BK189.out) (fun hHeld => ?_)
    generalize w8.drew = w9 at BK189 HB hHeld ⊢
    refine pure_ (i := 1) (N := some 7) (v := ?_) (a' := ?_) #[false, true, false, false, false, false] rfl rfl (by kernel_rfl) (fun _ _ _ h => h) (Or.inl ⟨by rfl, ?_⟩) ?_ ?_
    rotate_left
    · intro w'
      go_simp
      with_reducible rfl
    rotate_left
    · simp only [Act.put, List.setIfInBounds_toArray, List.set_cons_zero, List.set_cons_succ, i64_w, i32_w]
      rfl
    refine take_ (i := 0) (N := some 6) (v := ?_) (a' := ?_) #[true, true, false, false, false, false] rfl rfl (by kernel_rfl) (fun _ _ _ h => h) (Or.inl ⟨by rfl, ?_⟩) hHeld ?_ ?_
    rotate_left
    · rintro w' ⟨s0, s1, s2, s3⟩
      go_simp
      with_reducible rfl
    rotate_left
    · simp only [Act.put, List.setIfInBounds_toArray, List.set_cons_zero, List.set_cons_succ, i64_w, i32_w]
      rfl
    refine take_ (i := 2) (N := some 8) (v := ?_) (a' := ?_) #[true, true, true, false, false, false] rfl rfl (by kernel_rfl) (fun _ _ _ h => h) (Or.inl ⟨by rfl, ?_⟩) hHeld ?_ ?_
    rotate_left
    · rintro w' ⟨s0, s1, s2, s3⟩
      go_simp
      with_reducible rfl
    rotate_left
    · simp only [Act.put, List.setIfInBounds_toArray, List.set_cons_zero, List.set_cons_succ, i64_w, i32_w]
      rfl
    refine one_ (i := 3) (N := some 9) #[true, true, true, true, false, false] rfl rfl (by kernel_rfl) (by decide) (fun K hK => ?_)
    refine goes_ Try.func85 (by kernel_rfl) rfl #[.float .f64 a0_2] (by rfl) rfl rfl (by (try simp only [List.map_toArray, List.map_cons, List.map_nil]); first | done | rfl) ?_
    with_reducible refine (spec_FloatRank.calls k a0_2 t191 _ A4.out).mono ?_
    rintro e w' ⟨rfl, ⟨nd, rfl⟩⟩
    refine ⟨_, rfl, ?_⟩
    refine hK.out _ _ (blk_cells4 BK189.out) (fun hHeld => ?_)
    clear hK K
    refine norm_ (a' := ?_) ?_ ?_
    rotate_left
    · show Act.put _ (some 9) _ = _
      simp only [Act.put, List.setIfInBounds_toArray, List.set_cons_zero, List.set_cons_succ, i64_w, i32_w]
      rfl
    refine one_ (i := 4) (N := some 10) #[true, true, true, true, true, false] rfl rfl (by kernel_rfl) (by decide) (fun K hK => ?_)
    refine goes_ Try.func81 (by kernel_rfl) rfl #[.agg #[.int .i64 a0_0, .int .i64 a0_1, .float .f64 a0_2, .slice A0_3 l0_3.length c0_3], .int .u64 t191] (by rfl) rfl rfl (by (try simp only [List.map_toArray, List.map_cons, List.map_nil]); first | done | rfl) ?_
    with_reducible refine (spec_l3bytes.calls k a0_0 a0_1 a0_2 _ _ l0_3 t191 t192 _ ?side1 ?side2 A5.out).mono ?_
    (case side1 => repeat (first | exact (Kd.C_below HR0_3.out (hset HB.out)) | (with_reducible refine Kd.C_alloc ?_ _) | (with_reducible refine Kd.C_drewN ?_ _) | (with_reducible refine Kd.C_drew ?_)))
    (case side2 => exact HC0_3.out)
    rintro e w10 ⟨v193, rfl, ho0, hb⟩
    refine ⟨_, rfl, ?_⟩
    have n0_ := Aside0.mk (Kd.R_lower ho0 (below_size (hset HB.out)))
    have n1_ := Aside0.mk (blk_below (bup BK189.out) hb)
    have n2_ := Aside0.mk (below_step (hset HB.out) hb)
    clear BK189
    clear HB
    have HO194 := n0_
    have BK189 := n1_
    have HB := n2_
    clear n0_ n1_ n2_
    (try clear hb)
    (try clear hb2)
    (try clear hk)
    (try clear hi)
    (try clear ho0)
    refine hK.out _ _ (blk_cells4 BK189.out) (fun hHeld => ?_)
    clear hK K
    refine norm_ (a' := ?_) ?_ ?_
    rotate_left
    · show Act.put _ (some 10) _ = _
      simp only [Act.put, List.setIfInBounds_toArray, List.set_cons_zero, List.set_cons_succ, i64_w, i32_w]
      rfl
    refine pure_ (i := 5) (N := some 2) (v := ?_) (a' := ?_) #[true, true, true, true, true, true] rfl rfl (by kernel_rfl) (fun _ _ _ h => h) (Or.inl ⟨by rfl, ?_⟩) ?_ ?_
    rotate_left
    · intro w'
      go_simp
      with_reducible rfl
    rotate_left
    · simp only [Act.put, List.setIfInBounds_toArray, List.set_cons_zero, List.set_cons_succ, i64_w, i32_w]
      rfl
    refine done_ (by kernel_rfl) ?_
    try go_wp2
    go_ret
    exact ⟨_, by first | rfl | (simp [errW_none, errW_some] <;> rfl) | (simp [*, errW_none, errW_some] <;> rfl), by exact Kd.rup HO194.out, hset HB.out⟩
  · replace c3 := Bool.eq_false_iff.mpr c3
    subst c3
    rw [if_neg (show ¬ (false = true) by decide)] at H
    (try dsimp only at H)
    obtain rfl := Option.some.inj H
    try go_wp2
    go_ret
    exact ⟨_, by first | rfl | (simp [errW_none, errW_some] <;> rfl) | (simp [*, errW_none, errW_some] <;> rfl), by first | exact Kd.R_nil _ _ _ _ _ | exact Kd.N_nil _ _ _ _ _ | exact Kd.V_nil _ _ _ _ _ | exact Kd.Q_nil _ _ _ _ _ | exact Kd.S_nil _ _ _ _ _, hset HB.out⟩
theorem spec_KeyBytes.inv0 (k : Nat) (a0_0 : Int) (a0_1 : Int) (a0_2 : Nat) (l0_3 : List Int) : spec_KeyBytes.f k a0_0 a0_1 (cn a0_2) l0_3 = spec_KeyBytes.f k a0_0 a0_1 a0_2 l0_3 := by
  by_cases h_ : nanw a0_2
  · unfold spec_KeyBytes.f
    first
      | (simp only [spec_l3bytes.inv0, spec_FloatRank.inv0, spec_KeyOk.inv0, cn_zero, feq_cn_l, feq_cn_r, fls_cn_l, fls_cn_r, fgt_cn_l, fgt_cn_r, fle_cn_l, fle_cn_r, fge_cn_l, fge_cn_r]; done)
      | (simp only [spec_l3bytes.inv0, spec_FloatRank.inv0, spec_KeyOk.inv0, cn_zero, feq_cn_l, feq_cn_r, fls_cn_l, fls_cn_r, fgt_cn_l, fgt_cn_r, fle_cn_l, fle_cn_r, fge_cn_l, fge_cn_r, feq_nan_l h_, feq_nan_l (cn_nanw h_), Bool.false_eq_true, if_false]; done)
      | (simp [feq_nan_l h_, feq_nan_l (cn_nanw h_)]; done)
  · rw [cn_num h_]
end Go.Proofs.Ytjjkhlphdbmdfaa.PFnExactTupleRead
