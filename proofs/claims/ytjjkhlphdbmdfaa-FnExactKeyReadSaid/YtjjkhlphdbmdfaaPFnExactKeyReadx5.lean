-- By this session's own program (wip/xprint.py), over the kit's print.
import Derived.Test.YtjjkhlphdbmdfaaPFnExactKeyReadx0
namespace Go.Proofs.Ytjjkhlphdbmdfaa.PFnExactKeyRead
open Go.RowKit Go.Proofs.YtjjkhlphdbmdfaaW.PrintWords Go.Proofs.YtjjkhlphdbmdfaaW.PrintLast Go.Proofs.YtjjkhlphdbmdfaaW.PrintMore
attribute [local go_sem] max2_int min2_int max_two min_two max_three min_three max_four min_four   -- for this text's walks alone
attribute [local go_sem high] fl_eql fl_neq fl_lss fl_leq fl_gtr fl_geq fl_add fl_sub fl_mul fl_quo fl_neg fl_ofInt fl_toInt fl_store sub_sign ext_bits ext_from fl_nan_quo fl_nan_add fl_nan_mul fl_nan_sub
open Go.Proofs.YtjjkhlphdbmdfaaW.PrintWords renaming below_alloc → h1, pw_below_drewN → h2, below_drew1 → h3, below_set → h4, blk_drewN → b1, blk_drew → b2, blk_alloc → b3
set_option linter.unusedVariables false
set_option linter.unusedSimpArgs false

-- NOT PRINTED: function 63 (math_Float64bits)

/-! ### impl_within: function 80 -/
def impl_within.f (a0 : Int) (a1 : Int) (a2 : Int) : Option (Bool) := if a1 ≤ a0 then (some (decide (a0 ≤ a2))) else (some false)
set_option maxHeartbeats 8000000 in
set_option maxRecDepth 100000 in
theorem impl_within.calls (a0 : Int) (a1 : Int) (a2 : Int) (r : Bool) (w : World) (h : impl_within.f a0 a1 a2 = some r) :
    Calls Try.prog 80 #[.int .i64 a0, .int .i64 a1, .int .i64 a2] w fun e w' => e = .returned (.bool r) ∧ Drawn0 w w' := by
  have H : (if a1 ≤ a0 then (some (decide (a0 ≤ a2))) else (some false)) = some r := h
  clear h
  by_cases c4 : a1 ≤ a0
  · rw [if_pos c4] at H
    have c4b0 : decide (a1 ≤ a0) = true := decide_eq_true c4
    clear c4
    obtain rfl := Option.some.inj H
    go_enter Try.func80, Try.ntmps80
    go_wp2
    go_ret
    exact ⟨by first | rfl | (simp; done) | (simp [*]; done), by repeat (first | exact Drawn0.refl _ | apply Drawn0.step)⟩
  · rw [if_neg c4] at H
    have c4b0 : decide (a1 ≤ a0) = false := decide_eq_false c4
    clear c4
    obtain rfl := Option.some.inj H
    go_enter Try.func80, Try.ntmps80
    go_wp2
    go_ret
    exact ⟨by first | rfl | (simp; done) | (simp [*]; done), by repeat (first | exact Drawn0.refl _ | apply Drawn0.step)⟩

/-! ### impl_ItemOk: function 50 -/
def impl_ItemOk.f (a0_0 : Int) (a0_1 : Int) (a0_2 : Nat) (l0_3 : List Int) : Option (Bool) := (impl_within.f a0_0 0 3).bind fun t185 => (if t185 = true then (if a0_1 = 0 then (if ((a0_2 : Nat) : Int) = 0 then (if (l0_3.length : Int) = 0 then (some true) else (if a0_0 = 3 then (some (decide ((l0_3.length : Int) ≤ 40))) else (some false))) else (if a0_0 = 2 then (if (l0_3.length : Int) = 0 then (some true) else (if a0_0 = 3 then (some (decide ((l0_3.length : Int) ≤ 40))) else (some false))) else (some false))) else (if a0_0 = 1 then (if ((a0_2 : Nat) : Int) = 0 then (if (l0_3.length : Int) = 0 then (some true) else (if a0_0 = 3 then (some (decide ((l0_3.length : Int) ≤ 40))) else (some false))) else (if a0_0 = 2 then (if (l0_3.length : Int) = 0 then (some true) else (if a0_0 = 3 then (some (decide ((l0_3.length : Int) ≤ 40))) else (some false))) else (some false))) else (some false))) else (some false))
set_option maxHeartbeats 8000000 in
set_option maxRecDepth 100000 in
theorem impl_ItemOk.calls (a0_0 : Int) (a0_1 : Int) (a0_2 : Nat) (A0_3 : Option Addr) (c0_3 : Nat) (l0_3 : List Int) (r : Bool) (w : World) (hr0_3 : Kd.C (Kd.int .u8) w A0_3 l0_3.length l0_3) (hc0_3 : l0_3.length ≤ c0_3) (h : impl_ItemOk.f a0_0 a0_1 a0_2 l0_3 = some r) :
  Calls Try.prog 50 #[.agg #[.int .i64 a0_0, .int .i64 a0_1, .float .f64 a0_2, .slice A0_3 l0_3.length c0_3]] w fun e w' => e = .returned (.bool r) ∧ Below w.heap.size w w' := by
 have hu25 := Try.underlying25
 have HR0_3 := Aside0.mk hr0_3
 have HC0_3 := Aside0.mk hc0_3
 clear hr0_3 hc0_3
 have HB := Aside0.mk (Below.refl w.heap.size w)
 have H : ((impl_within.f a0_0 0 3).bind fun t185 => (if t185 = true then (if a0_1 = 0 then (if ((a0_2 : Nat) : Int) = 0 then (if (l0_3.length : Int) = 0 then (some true) else (if a0_0 = 3 then (some (decide ((l0_3.length : Int) ≤ 40))) else (some false))) else (if a0_0 = 2 then (if (l0_3.length : Int) = 0 then (some true) else (if a0_0 = 3 then (some (decide ((l0_3.length : Int) ≤ 40))) else (some false))) else (some false))) else (if a0_0 = 1 then (if ((a0_2 : Nat) : Int) = 0 then (if (l0_3.length : Int) = 0 then (some true) else (if a0_0 = 3 then (some (decide ((l0_3.length : Int) ≤ 40))) else (some false))) else (if a0_0 = 2 then (if (l0_3.length : Int) = 0 then (some true) else (if a0_0 = 3 then (some (decide ((l0_3.length : Int) ≤ 40))) else (some false))) else (some false))) else (some false))) else (some false))) = some r := h
 clear h
 replace H := Option.bind_eq_some_iff.mp H
 obtain ⟨t185, A20, H⟩ := H
 replace H : (if t185 = true then (if a0_1 = 0 then (if ((a0_2 : Nat) : Int) = 0 then (if (l0_3.length : Int) = 0 then (some true) else (if a0_0 = 3 then (some (decide ((l0_3.length : Int) ≤ 40))) else (some false))) else (if a0_0 = 2 then (if (l0_3.length : Int) = 0 then (some true) else (if a0_0 = 3 then (some (decide ((l0_3.length : Int) ≤ 40))) else (some false))) else (some false))) else (if a0_0 = 1 then (if ((a0_2 : Nat) : Int) = 0 then (if (l0_3.length : Int) = 0 then (some true) else (if a0_0 = 3 then (some (decide ((l0_3.length : Int) ≤ 40))) else (some false))) else (if a0_0 = 2 then (if (l0_3.length : Int) = 0 then (some true) else (if a0_0 = 3 then (some (decide ((l0_3.length : Int) ≤ 40))) else (some false))) else (some false))) else (some false))) else (some false)) = some r := H
 have A2 := Aside0.mk A20
 clear A20
 by_cases c3 : t185 = true
 ·subst c3
  have H1 : (if a0_1 = 0 then (if ((a0_2 : Nat) : Int) = 0 then (if (l0_3.length : Int) = 0 then (some true) else (if a0_0 = 3 then (some (decide ((l0_3.length : Int) ≤ 40))) else (some false))) else (if a0_0 = 2 then (if (l0_3.length : Int) = 0 then (some true) else (if a0_0 = 3 then (some (decide ((l0_3.length : Int) ≤ 40))) else (some false))) else (some false))) else (if a0_0 = 1 then (if ((a0_2 : Nat) : Int) = 0 then (if (l0_3.length : Int) = 0 then (some true) else (if a0_0 = 3 then (some (decide ((l0_3.length : Int) ≤ 40))) else (some false))) else (if a0_0 = 2 then (if (l0_3.length : Int) = 0 then (some true) else (if a0_0 = 3 then (some (decide ((l0_3.length : Int) ≤ 40))) else (some false))) else (some false))) else (some false))) = some r := by rw [if_pos rfl] at H; exact H
  clear H
  have H := H1
  clear H1
  by_cases c4 : a0_1 = 0
  ·rw [if_pos c4] at H
   have c4b0 : (a0_1 == 0) = true := beq_iff_eq.mpr c4
   have c4b1 : (a0_1 != 0) = false := bne_eq_false_iff_eq.mpr c4
   clear c4
   by_cases c5 : ((a0_2 : Nat) : Int) = 0
   ·rw [if_pos c5] at H
    have c5b0 : (((a0_2 : Nat) : Int) == 0) = true := beq_iff_eq.mpr c5
    have c5b1 : (((a0_2 : Nat) : Int) != 0) = false := bne_eq_false_iff_eq.mpr c5
    clear c5
    by_cases c6 : (l0_3.length : Int) = 0
    ·rw [if_pos c6] at H
     have c6b0 : ((l0_3.length : Int) == 0) = true := beq_iff_eq.mpr c6
     have c6b1 : ((l0_3.length : Int) != 0) = false := bne_eq_false_iff_eq.mpr c6
     clear c6
     obtain rfl := Option.some.inj H
     go_enter Try.func50, Try.ntmps50
     go_wp2_with (first | ((with_reducible refine gate_dst (N := 1) rfl ?_); (try (refine gate_guard (by rfl) ?_; dsimp only)); refine box_event ?hg (N := 1) ?hd (cs := #[.int .i64 a0_0, .int .i64 a0_1, .float .f64 a0_2, .slice A0_3 l0_3.length c0_3]) (t := 25) ?hr ?_; (case hd => rfl); (case hg => rfl); (case hr => first | (go_simp; done) | (go_simp; rfl)); intro gb184 hg w7 hbox hb; have n0_ := Aside0.mk (below_step (hup HB.out) hb); have n1_ := Aside0.mk (hbox); have n2_ := Aside0.mk ((by rw [hg]; exact (below_size (hup HB.out)) : w.heap.size ≤ gb184)); have n3_ := Aside0.mk ((by rw [hg]; exact (below_size (hup HB.out)) : w.heap.size ≤ gb184)); clear HB; have HB := n0_; have BK184 := n1_; have GW184 := n2_; have GE184 := n3_; clear n0_ n1_ n2_ n3_; clear hb hbox hg; obtain ⟨hcz8_0, hcz8_1, hcz8_2, hcz8_3⟩ := blk_cells4 BK184.out; obtain ⟨hfz8_0, hfz8_1, hfz8_2, hfz8_3⟩ := blk_frozens4 BK184.out) | ((with_reducible refine gate_callee (f := 80) rfl ?_); refine goesL_ (some 5) rfl rfl Try.func80 (by kernel_rfl) rfl #[.int .i64 a0_0, .int .i64 0, .int .i64 3] rfl (by (try simp only [List.map_toArray, List.map_cons, List.map_nil]); first | done | rfl) ?_; (with_reducible refine (impl_within.calls a0_0 0 3 true _ A2.out).mono ?_); rintro e w' ⟨rfl, ⟨nd, rfl⟩⟩; refine ⟨_, rfl, ?_⟩))
     go_ret
     exact ⟨by first | rfl | (simp [errW_none, errW_some] <;> rfl) | (simp [*, errW_none, errW_some] <;> rfl), by with_reducible repeat (first | exact HB.out | refine h4 ?_ GE184.out | apply h1 | apply h2 | apply h3)⟩
    ·rw [if_neg c6] at H
     have c6b0 : ((l0_3.length : Int) == 0) = false := beq_eq_false_iff_ne.mpr c6
     have c6b1 : ((l0_3.length : Int) != 0) = true := bne_iff_ne.mpr c6
     have c6b2 : ¬ (l0_3 = []) := fun h_ => c6 (by rw [h_]; rfl)
     by_cases c9 : a0_0 = 3
     ·rw [if_pos c9] at H
      have c9b0 : (a0_0 == 3) = true := beq_iff_eq.mpr c9
      have c9b1 : (a0_0 != 3) = false := bne_eq_false_iff_eq.mpr c9
      clear c9
      obtain rfl := Option.some.inj H
      go_enter Try.func50, Try.ntmps50
      go_wp2_with (first | ((with_reducible refine gate_dst (N := 1) rfl ?_); (try (refine gate_guard (by rfl) ?_; dsimp only)); refine box_event ?hg (N := 1) ?hd (cs := #[.int .i64 a0_0, .int .i64 a0_1, .float .f64 a0_2, .slice A0_3 l0_3.length c0_3]) (t := 25) ?hr ?_; (case hd => rfl); (case hg => rfl); (case hr => first | (go_simp; done) | (go_simp; rfl)); intro gb184 hg w10 hbox hb; have n0_ := Aside0.mk (below_step (hup HB.out) hb); have n1_ := Aside0.mk (hbox); have n2_ := Aside0.mk ((by rw [hg]; exact (below_size (hup HB.out)) : w.heap.size ≤ gb184)); have n3_ := Aside0.mk ((by rw [hg]; exact (below_size (hup HB.out)) : w.heap.size ≤ gb184)); clear HB; have HB := n0_; have BK184 := n1_; have GW184 := n2_; have GE184 := n3_; clear n0_ n1_ n2_ n3_; clear hb hbox hg; obtain ⟨hcz11_0, hcz11_1, hcz11_2, hcz11_3⟩ := blk_cells4 BK184.out; obtain ⟨hfz11_0, hfz11_1, hfz11_2, hfz11_3⟩ := blk_frozens4 BK184.out) | ((with_reducible refine gate_callee (f := 80) rfl ?_); refine goesL_ (some 5) rfl rfl Try.func80 (by kernel_rfl) rfl #[.int .i64 a0_0, .int .i64 0, .int .i64 3] rfl (by (try simp only [List.map_toArray, List.map_cons, List.map_nil]); first | done | rfl) ?_; (with_reducible refine (impl_within.calls a0_0 0 3 true _ A2.out).mono ?_); rintro e w' ⟨rfl, ⟨nd, rfl⟩⟩; refine ⟨_, rfl, ?_⟩))
      go_ret
      exact ⟨by first | rfl | (simp [errW_none, errW_some] <;> rfl) | (simp [*, errW_none, errW_some] <;> rfl), by with_reducible repeat (first | exact HB.out | refine h4 ?_ GE184.out | apply h1 | apply h2 | apply h3)⟩
     ·rw [if_neg c9] at H
      have c9b0 : (a0_0 == 3) = false := beq_eq_false_iff_ne.mpr c9
      have c9b1 : (a0_0 != 3) = true := bne_iff_ne.mpr c9
      obtain rfl := Option.some.inj H
      go_enter Try.func50, Try.ntmps50
      go_wp2_with (first | ((with_reducible refine gate_dst (N := 1) rfl ?_); (try (refine gate_guard (by rfl) ?_; dsimp only)); refine box_event ?hg (N := 1) ?hd (cs := #[.int .i64 a0_0, .int .i64 a0_1, .float .f64 a0_2, .slice A0_3 l0_3.length c0_3]) (t := 25) ?hr ?_; (case hd => rfl); (case hg => rfl); (case hr => first | (go_simp; done) | (go_simp; rfl)); intro gb184 hg w12 hbox hb; have n0_ := Aside0.mk (below_step (hup HB.out) hb); have n1_ := Aside0.mk (hbox); have n2_ := Aside0.mk ((by rw [hg]; exact (below_size (hup HB.out)) : w.heap.size ≤ gb184)); have n3_ := Aside0.mk ((by rw [hg]; exact (below_size (hup HB.out)) : w.heap.size ≤ gb184)); clear HB; have HB := n0_; have BK184 := n1_; have GW184 := n2_; have GE184 := n3_; clear n0_ n1_ n2_ n3_; clear hb hbox hg; obtain ⟨hcz13_0, hcz13_1, hcz13_2, hcz13_3⟩ := blk_cells4 BK184.out; obtain ⟨hfz13_0, hfz13_1, hfz13_2, hfz13_3⟩ := blk_frozens4 BK184.out) | ((with_reducible refine gate_callee (f := 80) rfl ?_); refine goesL_ (some 5) rfl rfl Try.func80 (by kernel_rfl) rfl #[.int .i64 a0_0, .int .i64 0, .int .i64 3] rfl (by (try simp only [List.map_toArray, List.map_cons, List.map_nil]); first | done | rfl) ?_; (with_reducible refine (impl_within.calls a0_0 0 3 true _ A2.out).mono ?_); rintro e w' ⟨rfl, ⟨nd, rfl⟩⟩; refine ⟨_, rfl, ?_⟩))
      go_ret
      exact ⟨by first | rfl | (simp [errW_none, errW_some] <;> rfl) | (simp [*, errW_none, errW_some] <;> rfl), by with_reducible repeat (first | exact HB.out | refine h4 ?_ GE184.out | apply h1 | apply h2 | apply h3)⟩
   ·rw [if_neg c5] at H
    have c5b0 : (((a0_2 : Nat) : Int) == 0) = false := beq_eq_false_iff_ne.mpr c5
    have c5b1 : (((a0_2 : Nat) : Int) != 0) = true := bne_iff_ne.mpr c5
    by_cases c14 : a0_0 = 2
    ·rw [if_pos c14] at H
     have c14b0 : (a0_0 == 2) = true := beq_iff_eq.mpr c14
     have c14b1 : (a0_0 != 2) = false := bne_eq_false_iff_eq.mpr c14
     clear c14
     by_cases c15 : (l0_3.length : Int) = 0
     ·rw [if_pos c15] at H
      have c15b0 : ((l0_3.length : Int) == 0) = true := beq_iff_eq.mpr c15
      have c15b1 : ((l0_3.length : Int) != 0) = false := bne_eq_false_iff_eq.mpr c15
      clear c15
      obtain rfl := Option.some.inj H
      go_enter Try.func50, Try.ntmps50
      go_wp2_with (first | ((with_reducible refine gate_dst (N := 1) rfl ?_); (try (refine gate_guard (by rfl) ?_; dsimp only)); refine box_event ?hg (N := 1) ?hd (cs := #[.int .i64 a0_0, .int .i64 a0_1, .float .f64 a0_2, .slice A0_3 l0_3.length c0_3]) (t := 25) ?hr ?_; (case hd => rfl); (case hg => rfl); (case hr => first | (go_simp; done) | (go_simp; rfl)); intro gb184 hg w16 hbox hb; have n0_ := Aside0.mk (below_step (hup HB.out) hb); have n1_ := Aside0.mk (hbox); have n2_ := Aside0.mk ((by rw [hg]; exact (below_size (hup HB.out)) : w.heap.size ≤ gb184)); have n3_ := Aside0.mk ((by rw [hg]; exact (below_size (hup HB.out)) : w.heap.size ≤ gb184)); clear HB; have HB := n0_; have BK184 := n1_; have GW184 := n2_; have GE184 := n3_; clear n0_ n1_ n2_ n3_; clear hb hbox hg; obtain ⟨hcz17_0, hcz17_1, hcz17_2, hcz17_3⟩ := blk_cells4 BK184.out; obtain ⟨hfz17_0, hfz17_1, hfz17_2, hfz17_3⟩ := blk_frozens4 BK184.out) | ((with_reducible refine gate_callee (f := 80) rfl ?_); refine goesL_ (some 5) rfl rfl Try.func80 (by kernel_rfl) rfl #[.int .i64 a0_0, .int .i64 0, .int .i64 3] rfl (by (try simp only [List.map_toArray, List.map_cons, List.map_nil]); first | done | rfl) ?_; (with_reducible refine (impl_within.calls a0_0 0 3 true _ A2.out).mono ?_); rintro e w' ⟨rfl, ⟨nd, rfl⟩⟩; refine ⟨_, rfl, ?_⟩))
      go_ret
      exact ⟨by first | rfl | (simp [errW_none, errW_some] <;> rfl) | (simp [*, errW_none, errW_some] <;> rfl), by with_reducible repeat (first | exact HB.out | refine h4 ?_ GE184.out | apply h1 | apply h2 | apply h3)⟩
     ·rw [if_neg c15] at H
      have c15b0 : ((l0_3.length : Int) == 0) = false := beq_eq_false_iff_ne.mpr c15
      have c15b1 : ((l0_3.length : Int) != 0) = true := bne_iff_ne.mpr c15
      have c15b2 : ¬ (l0_3 = []) := fun h_ => c15 (by rw [h_]; rfl)
      by_cases c18 : a0_0 = 3
      ·rw [if_pos c18] at H
       have c18b0 : (a0_0 == 3) = true := beq_iff_eq.mpr c18
       have c18b1 : (a0_0 != 3) = false := bne_eq_false_iff_eq.mpr c18
       clear c18
       obtain rfl := Option.some.inj H
       go_enter Try.func50, Try.ntmps50
       go_wp2_with (first | ((with_reducible refine gate_dst (N := 1) rfl ?_); (try (refine gate_guard (by rfl) ?_; dsimp only)); refine box_event ?hg (N := 1) ?hd (cs := #[.int .i64 a0_0, .int .i64 a0_1, .float .f64 a0_2, .slice A0_3 l0_3.length c0_3]) (t := 25) ?hr ?_; (case hd => rfl); (case hg => rfl); (case hr => first | (go_simp; done) | (go_simp; rfl)); intro gb184 hg w19 hbox hb; have n0_ := Aside0.mk (below_step (hup HB.out) hb); have n1_ := Aside0.mk (hbox); have n2_ := Aside0.mk ((by rw [hg]; exact (below_size (hup HB.out)) : w.heap.size ≤ gb184)); have n3_ := Aside0.mk ((by rw [hg]; exact (below_size (hup HB.out)) : w.heap.size ≤ gb184)); clear HB; have HB := n0_; have BK184 := n1_; have GW184 := n2_; have GE184 := n3_; clear n0_ n1_ n2_ n3_; clear hb hbox hg; obtain ⟨hcz20_0, hcz20_1, hcz20_2, hcz20_3⟩ := blk_cells4 BK184.out; obtain ⟨hfz20_0, hfz20_1, hfz20_2, hfz20_3⟩ := blk_frozens4 BK184.out) | ((with_reducible refine gate_callee (f := 80) rfl ?_); refine goesL_ (some 5) rfl rfl Try.func80 (by kernel_rfl) rfl #[.int .i64 a0_0, .int .i64 0, .int .i64 3] rfl (by (try simp only [List.map_toArray, List.map_cons, List.map_nil]); first | done | rfl) ?_; (with_reducible refine (impl_within.calls a0_0 0 3 true _ A2.out).mono ?_); rintro e w' ⟨rfl, ⟨nd, rfl⟩⟩; refine ⟨_, rfl, ?_⟩))
       go_ret
       exact ⟨by first | rfl | (simp [errW_none, errW_some] <;> rfl) | (simp [*, errW_none, errW_some] <;> rfl), by with_reducible repeat (first | exact HB.out | refine h4 ?_ GE184.out | apply h1 | apply h2 | apply h3)⟩
      ·rw [if_neg c18] at H
       have c18b0 : (a0_0 == 3) = false := beq_eq_false_iff_ne.mpr c18
       have c18b1 : (a0_0 != 3) = true := bne_iff_ne.mpr c18
       obtain rfl := Option.some.inj H
       go_enter Try.func50, Try.ntmps50
       go_wp2_with (first | ((with_reducible refine gate_dst (N := 1) rfl ?_); (try (refine gate_guard (by rfl) ?_; dsimp only)); refine box_event ?hg (N := 1) ?hd (cs := #[.int .i64 a0_0, .int .i64 a0_1, .float .f64 a0_2, .slice A0_3 l0_3.length c0_3]) (t := 25) ?hr ?_; (case hd => rfl); (case hg => rfl); (case hr => first | (go_simp; done) | (go_simp; rfl)); intro gb184 hg w21 hbox hb; have n0_ := Aside0.mk (below_step (hup HB.out) hb); have n1_ := Aside0.mk (hbox); have n2_ := Aside0.mk ((by rw [hg]; exact (below_size (hup HB.out)) : w.heap.size ≤ gb184)); have n3_ := Aside0.mk ((by rw [hg]; exact (below_size (hup HB.out)) : w.heap.size ≤ gb184)); clear HB; have HB := n0_; have BK184 := n1_; have GW184 := n2_; have GE184 := n3_; clear n0_ n1_ n2_ n3_; clear hb hbox hg; obtain ⟨hcz22_0, hcz22_1, hcz22_2, hcz22_3⟩ := blk_cells4 BK184.out; obtain ⟨hfz22_0, hfz22_1, hfz22_2, hfz22_3⟩ := blk_frozens4 BK184.out) | ((with_reducible refine gate_callee (f := 80) rfl ?_); refine goesL_ (some 5) rfl rfl Try.func80 (by kernel_rfl) rfl #[.int .i64 a0_0, .int .i64 0, .int .i64 3] rfl (by (try simp only [List.map_toArray, List.map_cons, List.map_nil]); first | done | rfl) ?_; (with_reducible refine (impl_within.calls a0_0 0 3 true _ A2.out).mono ?_); rintro e w' ⟨rfl, ⟨nd, rfl⟩⟩; refine ⟨_, rfl, ?_⟩))
       go_ret
       exact ⟨by first | rfl | (simp [errW_none, errW_some] <;> rfl) | (simp [*, errW_none, errW_some] <;> rfl), by with_reducible repeat (first | exact HB.out | refine h4 ?_ GE184.out | apply h1 | apply h2 | apply h3)⟩
    ·rw [if_neg c14] at H
     have c14b0 : (a0_0 == 2) = false := beq_eq_false_iff_ne.mpr c14
     have c14b1 : (a0_0 != 2) = true := bne_iff_ne.mpr c14
     obtain rfl := Option.some.inj H
     go_enter Try.func50, Try.ntmps50
     go_wp2_with (first | ((with_reducible refine gate_dst (N := 1) rfl ?_); (try (refine gate_guard (by rfl) ?_; dsimp only)); refine box_event ?hg (N := 1) ?hd (cs := #[.int .i64 a0_0, .int .i64 a0_1, .float .f64 a0_2, .slice A0_3 l0_3.length c0_3]) (t := 25) ?hr ?_; (case hd => rfl); (case hg => rfl); (case hr => first | (go_simp; done) | (go_simp; rfl)); intro gb184 hg w23 hbox hb; have n0_ := Aside0.mk (below_step (hup HB.out) hb); have n1_ := Aside0.mk (hbox); have n2_ := Aside0.mk ((by rw [hg]; exact (below_size (hup HB.out)) : w.heap.size ≤ gb184)); have n3_ := Aside0.mk ((by rw [hg]; exact (below_size (hup HB.out)) : w.heap.size ≤ gb184)); clear HB; have HB := n0_; have BK184 := n1_; have GW184 := n2_; have GE184 := n3_; clear n0_ n1_ n2_ n3_; clear hb hbox hg; obtain ⟨hcz24_0, hcz24_1, hcz24_2, hcz24_3⟩ := blk_cells4 BK184.out; obtain ⟨hfz24_0, hfz24_1, hfz24_2, hfz24_3⟩ := blk_frozens4 BK184.out) | ((with_reducible refine gate_callee (f := 80) rfl ?_); refine goesL_ (some 5) rfl rfl Try.func80 (by kernel_rfl) rfl #[.int .i64 a0_0, .int .i64 0, .int .i64 3] rfl (by (try simp only [List.map_toArray, List.map_cons, List.map_nil]); first | done | rfl) ?_; (with_reducible refine (impl_within.calls a0_0 0 3 true _ A2.out).mono ?_); rintro e w' ⟨rfl, ⟨nd, rfl⟩⟩; refine ⟨_, rfl, ?_⟩))
     go_ret
     exact ⟨by first | rfl | (simp [errW_none, errW_some] <;> rfl) | (simp [*, errW_none, errW_some] <;> rfl), by with_reducible repeat (first | exact HB.out | refine h4 ?_ GE184.out | apply h1 | apply h2 | apply h3)⟩
  ·rw [if_neg c4] at H
   have c4b0 : (a0_1 == 0) = false := beq_eq_false_iff_ne.mpr c4
   have c4b1 : (a0_1 != 0) = true := bne_iff_ne.mpr c4
   by_cases c25 : a0_0 = 1
   ·rw [if_pos c25] at H
    have c25b0 : (a0_0 == 1) = true := beq_iff_eq.mpr c25
    have c25b1 : (a0_0 != 1) = false := bne_eq_false_iff_eq.mpr c25
    clear c25
    by_cases c26 : ((a0_2 : Nat) : Int) = 0
    ·rw [if_pos c26] at H
     have c26b0 : (((a0_2 : Nat) : Int) == 0) = true := beq_iff_eq.mpr c26
     have c26b1 : (((a0_2 : Nat) : Int) != 0) = false := bne_eq_false_iff_eq.mpr c26
     clear c26
     by_cases c27 : (l0_3.length : Int) = 0
     ·rw [if_pos c27] at H
      have c27b0 : ((l0_3.length : Int) == 0) = true := beq_iff_eq.mpr c27
      have c27b1 : ((l0_3.length : Int) != 0) = false := bne_eq_false_iff_eq.mpr c27
      clear c27
      obtain rfl := Option.some.inj H
      go_enter Try.func50, Try.ntmps50
      go_wp2_with (first | ((with_reducible refine gate_dst (N := 1) rfl ?_); (try (refine gate_guard (by rfl) ?_; dsimp only)); refine box_event ?hg (N := 1) ?hd (cs := #[.int .i64 a0_0, .int .i64 a0_1, .float .f64 a0_2, .slice A0_3 l0_3.length c0_3]) (t := 25) ?hr ?_; (case hd => rfl); (case hg => rfl); (case hr => first | (go_simp; done) | (go_simp; rfl)); intro gb184 hg w28 hbox hb; have n0_ := Aside0.mk (below_step (hup HB.out) hb); have n1_ := Aside0.mk (hbox); have n2_ := Aside0.mk ((by rw [hg]; exact (below_size (hup HB.out)) : w.heap.size ≤ gb184)); have n3_ := Aside0.mk ((by rw [hg]; exact (below_size (hup HB.out)) : w.heap.size ≤ gb184)); clear HB; have HB := n0_; have BK184 := n1_; have GW184 := n2_; have GE184 := n3_; clear n0_ n1_ n2_ n3_; clear hb hbox hg; obtain ⟨hcz29_0, hcz29_1, hcz29_2, hcz29_3⟩ := blk_cells4 BK184.out; obtain ⟨hfz29_0, hfz29_1, hfz29_2, hfz29_3⟩ := blk_frozens4 BK184.out) | ((with_reducible refine gate_callee (f := 80) rfl ?_); refine goesL_ (some 5) rfl rfl Try.func80 (by kernel_rfl) rfl #[.int .i64 a0_0, .int .i64 0, .int .i64 3] rfl (by (try simp only [List.map_toArray, List.map_cons, List.map_nil]); first | done | rfl) ?_; (with_reducible refine (impl_within.calls a0_0 0 3 true _ A2.out).mono ?_); rintro e w' ⟨rfl, ⟨nd, rfl⟩⟩; refine ⟨_, rfl, ?_⟩))
      go_ret
      exact ⟨by first | rfl | (simp [errW_none, errW_some] <;> rfl) | (simp [*, errW_none, errW_some] <;> rfl), by with_reducible repeat (first | exact HB.out | refine h4 ?_ GE184.out | apply h1 | apply h2 | apply h3)⟩
     ·rw [if_neg c27] at H
      have c27b0 : ((l0_3.length : Int) == 0) = false := beq_eq_false_iff_ne.mpr c27
      have c27b1 : ((l0_3.length : Int) != 0) = true := bne_iff_ne.mpr c27
      have c27b2 : ¬ (l0_3 = []) := fun h_ => c27 (by rw [h_]; rfl)
      by_cases c30 : a0_0 = 3
      ·rw [if_pos c30] at H
       have c30b0 : (a0_0 == 3) = true := beq_iff_eq.mpr c30
       have c30b1 : (a0_0 != 3) = false := bne_eq_false_iff_eq.mpr c30
       clear c30
       obtain rfl := Option.some.inj H
       go_enter Try.func50, Try.ntmps50
       go_wp2_with (first | ((with_reducible refine gate_dst (N := 1) rfl ?_); (try (refine gate_guard (by rfl) ?_; dsimp only)); refine box_event ?hg (N := 1) ?hd (cs := #[.int .i64 a0_0, .int .i64 a0_1, .float .f64 a0_2, .slice A0_3 l0_3.length c0_3]) (t := 25) ?hr ?_; (case hd => rfl); (case hg => rfl); (case hr => first | (go_simp; done) | (go_simp; rfl)); intro gb184 hg w31 hbox hb; have n0_ := Aside0.mk (below_step (hup HB.out) hb); have n1_ := Aside0.mk (hbox); have n2_ := Aside0.mk ((by rw [hg]; exact (below_size (hup HB.out)) : w.heap.size ≤ gb184)); have n3_ := Aside0.mk ((by rw [hg]; exact (below_size (hup HB.out)) : w.heap.size ≤ gb184)); clear HB; have HB := n0_; have BK184 := n1_; have GW184 := n2_; have GE184 := n3_; clear n0_ n1_ n2_ n3_; clear hb hbox hg; obtain ⟨hcz32_0, hcz32_1, hcz32_2, hcz32_3⟩ := blk_cells4 BK184.out; obtain ⟨hfz32_0, hfz32_1, hfz32_2, hfz32_3⟩ := blk_frozens4 BK184.out) | ((with_reducible refine gate_callee (f := 80) rfl ?_); refine goesL_ (some 5) rfl rfl Try.func80 (by kernel_rfl) rfl #[.int .i64 a0_0, .int .i64 0, .int .i64 3] rfl (by (try simp only [List.map_toArray, List.map_cons, List.map_nil]); first | done | rfl) ?_; (with_reducible refine (impl_within.calls a0_0 0 3 true _ A2.out).mono ?_); rintro e w' ⟨rfl, ⟨nd, rfl⟩⟩; refine ⟨_, rfl, ?_⟩))
       go_ret
       exact ⟨by first | rfl | (simp [errW_none, errW_some] <;> rfl) | (simp [*, errW_none, errW_some] <;> rfl), by with_reducible repeat (first | exact HB.out | refine h4 ?_ GE184.out | apply h1 | apply h2 | apply h3)⟩
      ·rw [if_neg c30] at H
       have c30b0 : (a0_0 == 3) = false := beq_eq_false_iff_ne.mpr c30
       have c30b1 : (a0_0 != 3) = true := bne_iff_ne.mpr c30
       obtain rfl := Option.some.inj H
       go_enter Try.func50, Try.ntmps50
       go_wp2_with (first | ((with_reducible refine gate_dst (N := 1) rfl ?_); (try (refine gate_guard (by rfl) ?_; dsimp only)); refine box_event ?hg (N := 1) ?hd (cs := #[.int .i64 a0_0, .int .i64 a0_1, .float .f64 a0_2, .slice A0_3 l0_3.length c0_3]) (t := 25) ?hr ?_; (case hd => rfl); (case hg => rfl); (case hr => first | (go_simp; done) | (go_simp; rfl)); intro gb184 hg w33 hbox hb; have n0_ := Aside0.mk (below_step (hup HB.out) hb); have n1_ := Aside0.mk (hbox); have n2_ := Aside0.mk ((by rw [hg]; exact (below_size (hup HB.out)) : w.heap.size ≤ gb184)); have n3_ := Aside0.mk ((by rw [hg]; exact (below_size (hup HB.out)) : w.heap.size ≤ gb184)); clear HB; have HB := n0_; have BK184 := n1_; have GW184 := n2_; have GE184 := n3_; clear n0_ n1_ n2_ n3_; clear hb hbox hg; obtain ⟨hcz34_0, hcz34_1, hcz34_2, hcz34_3⟩ := blk_cells4 BK184.out; obtain ⟨hfz34_0, hfz34_1, hfz34_2, hfz34_3⟩ := blk_frozens4 BK184.out) | ((with_reducible refine gate_callee (f := 80) rfl ?_); refine goesL_ (some 5) rfl rfl Try.func80 (by kernel_rfl) rfl #[.int .i64 a0_0, .int .i64 0, .int .i64 3] rfl (by (try simp only [List.map_toArray, List.map_cons, List.map_nil]); first | done | rfl) ?_; (with_reducible refine (impl_within.calls a0_0 0 3 true _ A2.out).mono ?_); rintro e w' ⟨rfl, ⟨nd, rfl⟩⟩; refine ⟨_, rfl, ?_⟩))
       go_ret
       exact ⟨by first | rfl | (simp [errW_none, errW_some] <;> rfl) | (simp [*, errW_none, errW_some] <;> rfl), by with_reducible repeat (first | exact HB.out | refine h4 ?_ GE184.out | apply h1 | apply h2 | apply h3)⟩
    ·rw [if_neg c26] at H
     have c26b0 : (((a0_2 : Nat) : Int) == 0) = false := beq_eq_false_iff_ne.mpr c26
     have c26b1 : (((a0_2 : Nat) : Int) != 0) = true := bne_iff_ne.mpr c26
     by_cases c35 : a0_0 = 2
     ·rw [if_pos c35] at H
      have c35b0 : (a0_0 == 2) = true := beq_iff_eq.mpr c35
      have c35b1 : (a0_0 != 2) = false := bne_eq_false_iff_eq.mpr c35
      clear c35
      by_cases c36 : (l0_3.length : Int) = 0
      ·rw [if_pos c36] at H
       have c36b0 : ((l0_3.length : Int) == 0) = true := beq_iff_eq.mpr c36
       have c36b1 : ((l0_3.length : Int) != 0) = false := bne_eq_false_iff_eq.mpr c36
       clear c36
       obtain rfl := Option.some.inj H
       go_enter Try.func50, Try.ntmps50
       go_wp2_with (first | ((with_reducible refine gate_dst (N := 1) rfl ?_); (try (refine gate_guard (by rfl) ?_; dsimp only)); refine box_event ?hg (N := 1) ?hd (cs := #[.int .i64 a0_0, .int .i64 a0_1, .float .f64 a0_2, .slice A0_3 l0_3.length c0_3]) (t := 25) ?hr ?_; (case hd => rfl); (case hg => rfl); (case hr => first | (go_simp; done) | (go_simp; rfl)); intro gb184 hg w37 hbox hb; have n0_ := Aside0.mk (below_step (hup HB.out) hb); have n1_ := Aside0.mk (hbox); have n2_ := Aside0.mk ((by rw [hg]; exact (below_size (hup HB.out)) : w.heap.size ≤ gb184)); have n3_ := Aside0.mk ((by rw [hg]; exact (below_size (hup HB.out)) : w.heap.size ≤ gb184)); clear HB; have HB := n0_; have BK184 := n1_; have GW184 := n2_; have GE184 := n3_; clear n0_ n1_ n2_ n3_; clear hb hbox hg; obtain ⟨hcz38_0, hcz38_1, hcz38_2, hcz38_3⟩ := blk_cells4 BK184.out; obtain ⟨hfz38_0, hfz38_1, hfz38_2, hfz38_3⟩ := blk_frozens4 BK184.out) | ((with_reducible refine gate_callee (f := 80) rfl ?_); refine goesL_ (some 5) rfl rfl Try.func80 (by kernel_rfl) rfl #[.int .i64 a0_0, .int .i64 0, .int .i64 3] rfl (by (try simp only [List.map_toArray, List.map_cons, List.map_nil]); first | done | rfl) ?_; (with_reducible refine (impl_within.calls a0_0 0 3 true _ A2.out).mono ?_); rintro e w' ⟨rfl, ⟨nd, rfl⟩⟩; refine ⟨_, rfl, ?_⟩))
       go_ret
       exact ⟨by first | rfl | (simp [errW_none, errW_some] <;> rfl) | (simp [*, errW_none, errW_some] <;> rfl), by with_reducible repeat (first | exact HB.out | refine h4 ?_ GE184.out | apply h1 | apply h2 | apply h3)⟩
      ·rw [if_neg c36] at H
       have c36b0 : ((l0_3.length : Int) == 0) = false := beq_eq_false_iff_ne.mpr c36
       have c36b1 : ((l0_3.length : Int) != 0) = true := bne_iff_ne.mpr c36
       have c36b2 : ¬ (l0_3 = []) := fun h_ => c36 (by rw [h_]; rfl)
       by_cases c39 : a0_0 = 3
       ·rw [if_pos c39] at H
        have c39b0 : (a0_0 == 3) = true := beq_iff_eq.mpr c39
        have c39b1 : (a0_0 != 3) = false := bne_eq_false_iff_eq.mpr c39
        clear c39
        obtain rfl := Option.some.inj H
        go_enter Try.func50, Try.ntmps50
        go_wp2_with (first | ((with_reducible refine gate_dst (N := 1) rfl ?_); (try (refine gate_guard (by rfl) ?_; dsimp only)); refine box_event ?hg (N := 1) ?hd (cs := #[.int .i64 a0_0, .int .i64 a0_1, .float .f64 a0_2, .slice A0_3 l0_3.length c0_3]) (t := 25) ?hr ?_; (case hd => rfl); (case hg => rfl); (case hr => first | (go_simp; done) | (go_simp; rfl)); intro gb184 hg w40 hbox hb; have n0_ := Aside0.mk (below_step (hup HB.out) hb); have n1_ := Aside0.mk (hbox); have n2_ := Aside0.mk ((by rw [hg]; exact (below_size (hup HB.out)) : w.heap.size ≤ gb184)); have n3_ := Aside0.mk ((by rw [hg]; exact (below_size (hup HB.out)) : w.heap.size ≤ gb184)); clear HB; have HB := n0_; have BK184 := n1_; have GW184 := n2_; have GE184 := n3_; clear n0_ n1_ n2_ n3_; clear hb hbox hg; obtain ⟨hcz41_0, hcz41_1, hcz41_2, hcz41_3⟩ := blk_cells4 BK184.out; obtain ⟨hfz41_0, hfz41_1, hfz41_2, hfz41_3⟩ := blk_frozens4 BK184.out) | ((with_reducible refine gate_callee (f := 80) rfl ?_); refine goesL_ (some 5) rfl rfl Try.func80 (by kernel_rfl) rfl #[.int .i64 a0_0, .int .i64 0, .int .i64 3] rfl (by (try simp only [List.map_toArray, List.map_cons, List.map_nil]); first | done | rfl) ?_; (with_reducible refine (impl_within.calls a0_0 0 3 true _ A2.out).mono ?_); rintro e w' ⟨rfl, ⟨nd, rfl⟩⟩; refine ⟨_, rfl, ?_⟩))
        go_ret
        exact ⟨by first | rfl | (simp [errW_none, errW_some] <;> rfl) | (simp [*, errW_none, errW_some] <;> rfl), by with_reducible repeat (first | exact HB.out | refine h4 ?_ GE184.out | apply h1 | apply h2 | apply h3)⟩
       ·rw [if_neg c39] at H
        have c39b0 : (a0_0 == 3) = false := beq_eq_false_iff_ne.mpr c39
        have c39b1 : (a0_0 != 3) = true := bne_iff_ne.mpr c39
        obtain rfl := Option.some.inj H
        go_enter Try.func50, Try.ntmps50
        go_wp2_with (first | ((with_reducible refine gate_dst (N := 1) rfl ?_); (try (refine gate_guard (by rfl) ?_; dsimp only)); refine box_event ?hg (N := 1) ?hd (cs := #[.int .i64 a0_0, .int .i64 a0_1, .float .f64 a0_2, .slice A0_3 l0_3.length c0_3]) (t := 25) ?hr ?_; (case hd => rfl); (case hg => rfl); (case hr => first | (go_simp; done) | (go_simp; rfl)); intro gb184 hg w42 hbox hb; have n0_ := Aside0.mk (below_step (hup HB.out) hb); have n1_ := Aside0.mk (hbox); have n2_ := Aside0.mk ((by rw [hg]; exact (below_size (hup HB.out)) : w.heap.size ≤ gb184)); have n3_ := Aside0.mk ((by rw [hg]; exact (below_size (hup HB.out)) : w.heap.size ≤ gb184)); clear HB; have HB := n0_; have BK184 := n1_; have GW184 := n2_; have GE184 := n3_; clear n0_ n1_ n2_ n3_; clear hb hbox hg; obtain ⟨hcz43_0, hcz43_1, hcz43_2, hcz43_3⟩ := blk_cells4 BK184.out; obtain ⟨hfz43_0, hfz43_1, hfz43_2, hfz43_3⟩ := blk_frozens4 BK184.out) | ((with_reducible refine gate_callee (f := 80) rfl ?_); refine goesL_ (some 5) rfl rfl Try.func80 (by kernel_rfl) rfl #[.int .i64 a0_0, .int .i64 0, .int .i64 3] rfl (by (try simp only [List.map_toArray, List.map_cons, List.map_nil]); first | done | rfl) ?_; (with_reducible refine (impl_within.calls a0_0 0 3 true _ A2.out).mono ?_); rintro e w' ⟨rfl, ⟨nd, rfl⟩⟩; refine ⟨_, rfl, ?_⟩))
        go_ret
        exact ⟨by first | rfl | (simp [errW_none, errW_some] <;> rfl) | (simp [*, errW_none, errW_some] <;> rfl), by with_reducible repeat (first | exact HB.out | refine h4 ?_ GE184.out | apply h1 | apply h2 | apply h3)⟩
     ·rw [if_neg c35] at H
      have c35b0 : (a0_0 == 2) = false := beq_eq_false_iff_ne.mpr c35
      have c35b1 : (a0_0 != 2) = true := bne_iff_ne.mpr c35
      obtain rfl := Option.some.inj H
      go_enter Try.func50, Try.ntmps50
      go_wp2_with (first | ((with_reducible refine gate_dst (N := 1) rfl ?_); (try (refine gate_guard (by rfl) ?_; dsimp only)); refine box_event ?hg (N := 1) ?hd (cs := #[.int .i64 a0_0, .int .i64 a0_1, .float .f64 a0_2, .slice A0_3 l0_3.length c0_3]) (t := 25) ?hr ?_; (case hd => rfl); (case hg => rfl); (case hr => first | (go_simp; done) | (go_simp; rfl)); intro gb184 hg w44 hbox hb; have n0_ := Aside0.mk (below_step (hup HB.out) hb); have n1_ := Aside0.mk (hbox); have n2_ := Aside0.mk ((by rw [hg]; exact (below_size (hup HB.out)) : w.heap.size ≤ gb184)); have n3_ := Aside0.mk ((by rw [hg]; exact (below_size (hup HB.out)) : w.heap.size ≤ gb184)); clear HB; have HB := n0_; have BK184 := n1_; have GW184 := n2_; have GE184 := n3_; clear n0_ n1_ n2_ n3_; clear hb hbox hg; obtain ⟨hcz45_0, hcz45_1, hcz45_2, hcz45_3⟩ := blk_cells4 BK184.out; obtain ⟨hfz45_0, hfz45_1, hfz45_2, hfz45_3⟩ := blk_frozens4 BK184.out) | ((with_reducible refine gate_callee (f := 80) rfl ?_); refine goesL_ (some 5) rfl rfl Try.func80 (by kernel_rfl) rfl #[.int .i64 a0_0, .int .i64 0, .int .i64 3] rfl (by (try simp only [List.map_toArray, List.map_cons, List.map_nil]); first | done | rfl) ?_; (with_reducible refine (impl_within.calls a0_0 0 3 true _ A2.out).mono ?_); rintro e w' ⟨rfl, ⟨nd, rfl⟩⟩; refine ⟨_, rfl, ?_⟩))
      go_ret
      exact ⟨by first | rfl | (simp [errW_none, errW_some] <;> rfl) | (simp [*, errW_none, errW_some] <;> rfl), by with_reducible repeat (first | exact HB.out | refine h4 ?_ GE184.out | apply h1 | apply h2 | apply h3)⟩
   ·rw [if_neg c25] at H
    have c25b0 : (a0_0 == 1) = false := beq_eq_false_iff_ne.mpr c25
    have c25b1 : (a0_0 != 1) = true := bne_iff_ne.mpr c25
    obtain rfl := Option.some.inj H
    go_enter Try.func50, Try.ntmps50
    go_wp2_with (first | ((with_reducible refine gate_dst (N := 1) rfl ?_); (try (refine gate_guard (by rfl) ?_; dsimp only)); refine box_event ?hg (N := 1) ?hd (cs := #[.int .i64 a0_0, .int .i64 a0_1, .float .f64 a0_2, .slice A0_3 l0_3.length c0_3]) (t := 25) ?hr ?_; (case hd => rfl); (case hg => rfl); (case hr => first | (go_simp; done) | (go_simp; rfl)); intro gb184 hg w46 hbox hb; have n0_ := Aside0.mk (below_step (hup HB.out) hb); have n1_ := Aside0.mk (hbox); have n2_ := Aside0.mk ((by rw [hg]; exact (below_size (hup HB.out)) : w.heap.size ≤ gb184)); have n3_ := Aside0.mk ((by rw [hg]; exact (below_size (hup HB.out)) : w.heap.size ≤ gb184)); clear HB; have HB := n0_; have BK184 := n1_; have GW184 := n2_; have GE184 := n3_; clear n0_ n1_ n2_ n3_; clear hb hbox hg; obtain ⟨hcz47_0, hcz47_1, hcz47_2, hcz47_3⟩ := blk_cells4 BK184.out; obtain ⟨hfz47_0, hfz47_1, hfz47_2, hfz47_3⟩ := blk_frozens4 BK184.out) | ((with_reducible refine gate_callee (f := 80) rfl ?_); refine goesL_ (some 5) rfl rfl Try.func80 (by kernel_rfl) rfl #[.int .i64 a0_0, .int .i64 0, .int .i64 3] rfl (by (try simp only [List.map_toArray, List.map_cons, List.map_nil]); first | done | rfl) ?_; (with_reducible refine (impl_within.calls a0_0 0 3 true _ A2.out).mono ?_); rintro e w' ⟨rfl, ⟨nd, rfl⟩⟩; refine ⟨_, rfl, ?_⟩))
    go_ret
    exact ⟨by first | rfl | (simp [errW_none, errW_some] <;> rfl) | (simp [*, errW_none, errW_some] <;> rfl), by with_reducible repeat (first | exact HB.out | refine h4 ?_ GE184.out | apply h1 | apply h2 | apply h3)⟩
 ·replace c3 := Bool.eq_false_iff.mpr c3
  subst c3
  have H1 : (some false) = some r := by rw [if_neg (show ¬ (false = true) by decide)] at H; exact H
  clear H
  have H := H1
  clear H1
  obtain rfl := Option.some.inj H
  go_enter Try.func50, Try.ntmps50
  go_wp2_with (first | ((with_reducible refine gate_dst (N := 1) rfl ?_); (try (refine gate_guard (by rfl) ?_; dsimp only)); refine box_event ?hg (N := 1) ?hd (cs := #[.int .i64 a0_0, .int .i64 a0_1, .float .f64 a0_2, .slice A0_3 l0_3.length c0_3]) (t := 25) ?hr ?_; (case hd => rfl); (case hg => rfl); (case hr => first | (go_simp; done) | (go_simp; rfl)); intro gb184 hg w48 hbox hb; have n0_ := Aside0.mk (below_step (hup HB.out) hb); have n1_ := Aside0.mk (hbox); have n2_ := Aside0.mk ((by rw [hg]; exact (below_size (hup HB.out)) : w.heap.size ≤ gb184)); have n3_ := Aside0.mk ((by rw [hg]; exact (below_size (hup HB.out)) : w.heap.size ≤ gb184)); clear HB; have HB := n0_; have BK184 := n1_; have GW184 := n2_; have GE184 := n3_; clear n0_ n1_ n2_ n3_; clear hb hbox hg; obtain ⟨hcz49_0, hcz49_1, hcz49_2, hcz49_3⟩ := blk_cells4 BK184.out; obtain ⟨hfz49_0, hfz49_1, hfz49_2, hfz49_3⟩ := blk_frozens4 BK184.out) | ((with_reducible refine gate_callee (f := 80) rfl ?_); refine goesL_ (some 5) rfl rfl Try.func80 (by kernel_rfl) rfl #[.int .i64 a0_0, .int .i64 0, .int .i64 3] rfl (by (try simp only [List.map_toArray, List.map_cons, List.map_nil]); first | done | rfl) ?_; (with_reducible refine (impl_within.calls a0_0 0 3 false _ A2.out).mono ?_); rintro e w' ⟨rfl, ⟨nd, rfl⟩⟩; refine ⟨_, rfl, ?_⟩))
  go_ret
  exact ⟨by first | rfl | (simp [errW_none, errW_some] <;> rfl) | (simp [*, errW_none, errW_some] <;> rfl), by with_reducible repeat (first | exact HB.out | refine h4 ?_ GE184.out | apply h1 | apply h2 | apply h3)⟩

/-! ### impl_KeyOk: function 23 -/
def impl_KeyOk.f (a0_0 : Int) (a0_1 : Int) (a0_2 : Nat) (l0_3 : List Int) : Option (Bool) := (impl_ItemOk.f a0_0 a0_1 a0_2 l0_3).bind fun t187 => (if t187 = true then (if a0_0 = 0 then (some false) else (if ((feq a0_2 0) = true) then (some (((a0_2 : Nat) : Int) == 0)) else (some true))) else (some false))
set_option maxHeartbeats 8000000 in
set_option maxRecDepth 100000 in
theorem impl_KeyOk.calls (a0_0 : Int) (a0_1 : Int) (a0_2 : Nat) (A0_3 : Option Addr) (c0_3 : Nat) (l0_3 : List Int) (r : Bool) (w : World) (hr0_3 : Kd.C (Kd.int .u8) w A0_3 l0_3.length l0_3) (hc0_3 : l0_3.length ≤ c0_3) (h : impl_KeyOk.f a0_0 a0_1 a0_2 l0_3 = some r) :
    Calls Try.prog 23 #[.agg #[.int .i64 a0_0, .int .i64 a0_1, .float .f64 a0_2, .slice A0_3 l0_3.length c0_3]] w fun e w' => e = .returned (.bool r) ∧ Below w.heap.size w w' := by
  have hu25 := Try.underlying25
  have HR0_3 := Aside0.mk hr0_3
  have HC0_3 := Aside0.mk hc0_3
  clear hr0_3 hc0_3
  have HB := Aside0.mk (Below.refl w.heap.size w)
  have H : ((impl_ItemOk.f a0_0 a0_1 a0_2 l0_3).bind fun t187 => (if t187 = true then (if a0_0 = 0 then (some false) else (if ((feq a0_2 0) = true) then (some (((a0_2 : Nat) : Int) == 0)) else (some true))) else (some false))) = some r := h
  clear h
  replace H := Option.bind_eq_some_iff.mp H
  obtain ⟨t187, A20, H⟩ := H
  replace H : (if t187 = true then (if a0_0 = 0 then (some false) else (if ((feq a0_2 0) = true) then (some (((a0_2 : Nat) : Int) == 0)) else (some true))) else (some false)) = some r := H
  have A2 := Aside0.mk A20
  clear A20
  by_cases c3 : t187 = true
  · subst c3
    have H1 : (if a0_0 = 0 then (some false) else (if ((feq a0_2 0) = true) then (some (((a0_2 : Nat) : Int) == 0)) else (some true))) = some r := by rw [if_pos rfl] at H; exact H
    clear H
    have H := H1
    clear H1
    by_cases c4 : a0_0 = 0
    · rw [if_pos c4] at H
      have c4b0 : (a0_0 == 0) = true := beq_iff_eq.mpr c4
      have c4b1 : (a0_0 != 0) = false := bne_eq_false_iff_eq.mpr c4
      clear c4
      obtain rfl := Option.some.inj H
      go_enter Try.func23, Try.ntmps23
      go_wp2_with (first | ((with_reducible refine gate_dst (N := 1) rfl ?_); refine box_event ?hg (N := 1) ?hd (cs := #[.int .i64 a0_0, .int .i64 a0_1, .float .f64 a0_2, .slice A0_3 l0_3.length c0_3]) (t := 25) ?hr ?_; (case hd => rfl); (case hg => rfl); (case hr => first | (go_simp; done) | (go_simp; rfl)); intro gb186 hg w5 hbox hb; have n0_ := Aside0.mk (below_step (hup HB.out) hb); have n1_ := Aside0.mk (hbox); have n2_ := Aside0.mk ((by rw [hg]; exact (below_size (hup HB.out)) : w.heap.size ≤ gb186)); have n3_ := Aside0.mk ((by rw [hg]; exact (below_size (hup HB.out)) : w.heap.size ≤ gb186)); clear HB; have HB := n0_; have BK186 := n1_; have GW186 := n2_; have GE186 := n3_; clear n0_ n1_ n2_ n3_; clear hb hbox hg; obtain ⟨hcz6_0, hcz6_1, hcz6_2, hcz6_3⟩ := blk_cells4 BK186.out; obtain ⟨hfz6_0, hfz6_1, hfz6_2, hfz6_3⟩ := blk_frozens4 BK186.out) | ((with_reducible refine gate_callee (f := 50) rfl ?_); refine goesL_ (some 4) rfl rfl Try.func50 (by kernel_rfl) rfl #[.agg #[.int .i64 a0_0, .int .i64 a0_1, .float .f64 a0_2, .slice A0_3 l0_3.length c0_3]] rfl (by (try simp only [List.map_toArray, List.map_cons, List.map_nil]); first | done | rfl) ?_; (with_reducible refine (impl_ItemOk.calls a0_0 a0_1 a0_2 _ _ l0_3 true _ ?side1 ?side2 A2.out).mono ?_); (case side1 => repeat (first | exact (Kd.C_below HR0_3.out HB.out) | (with_reducible refine Kd.C_alloc ?_ _) | (with_reducible refine Kd.C_drewN ?_ _) | (with_reducible refine Kd.C_drew ?_))); (case side2 => exact HC0_3.out); rintro e w7 ⟨rfl, hb⟩; refine ⟨_, rfl, ?_⟩; have n0_ := Aside0.mk (blk_below (g := gb186) (o := .cells #[.int .i64 a0_0, .int .i64 a0_1, .float .f64 a0_2, .slice A0_3 l0_3.length c0_3] 25 (0, 0)) (bup BK186.out) hb); have n1_ := Aside0.mk (below_step (by with_reducible repeat (first | exact HB.out | refine h4 ?_ GE186.out | apply h1 | apply h2 | apply h3)) hb); clear BK186; clear HB; have BK186 := n0_; have HB := n1_; clear n0_ n1_; (try clear hb); (try clear hb2); (try clear hk); (try clear hi); obtain ⟨hcz8_0, hcz8_1, hcz8_2, hcz8_3⟩ := blk_cells4 BK186.out; obtain ⟨hfz8_0, hfz8_1, hfz8_2, hfz8_3⟩ := blk_frozens4 BK186.out))
      go_ret
      exact ⟨by first | rfl | (simp [errW_none, errW_some] <;> rfl) | (simp [*, errW_none, errW_some] <;> rfl), by with_reducible repeat (first | exact HB.out | refine h4 ?_ GE186.out | apply h1 | apply h2 | apply h3)⟩
    · rw [if_neg c4] at H
      have c4b0 : (a0_0 == 0) = false := beq_eq_false_iff_ne.mpr c4
      have c4b1 : (a0_0 != 0) = true := bne_iff_ne.mpr c4
      by_cases c9 : ((feq a0_2 0) = true)
      · rw [if_pos c9] at H
        have c9b0 : (feq a0_2 0) = true := c9
        clear c9
        obtain rfl := Option.some.inj H
        go_enter Try.func23, Try.ntmps23
        go_wp2_with (first | ((with_reducible refine gate_dst (N := 1) rfl ?_); refine box_event ?hg (N := 1) ?hd (cs := #[.int .i64 a0_0, .int .i64 a0_1, .float .f64 a0_2, .slice A0_3 l0_3.length c0_3]) (t := 25) ?hr ?_; (case hd => rfl); (case hg => rfl); (case hr => first | (go_simp; done) | (go_simp; rfl)); intro gb186 hg w10 hbox hb; have n0_ := Aside0.mk (below_step (hup HB.out) hb); have n1_ := Aside0.mk (hbox); have n2_ := Aside0.mk ((by rw [hg]; exact (below_size (hup HB.out)) : w.heap.size ≤ gb186)); have n3_ := Aside0.mk ((by rw [hg]; exact (below_size (hup HB.out)) : w.heap.size ≤ gb186)); clear HB; have HB := n0_; have BK186 := n1_; have GW186 := n2_; have GE186 := n3_; clear n0_ n1_ n2_ n3_; clear hb hbox hg; obtain ⟨hcz11_0, hcz11_1, hcz11_2, hcz11_3⟩ := blk_cells4 BK186.out; obtain ⟨hfz11_0, hfz11_1, hfz11_2, hfz11_3⟩ := blk_frozens4 BK186.out) | ((with_reducible refine gate_callee (f := 50) rfl ?_); refine goesL_ (some 4) rfl rfl Try.func50 (by kernel_rfl) rfl #[.agg #[.int .i64 a0_0, .int .i64 a0_1, .float .f64 a0_2, .slice A0_3 l0_3.length c0_3]] rfl (by (try simp only [List.map_toArray, List.map_cons, List.map_nil]); first | done | rfl) ?_; (with_reducible refine (impl_ItemOk.calls a0_0 a0_1 a0_2 _ _ l0_3 true _ ?side1 ?side2 A2.out).mono ?_); (case side1 => repeat (first | exact (Kd.C_below HR0_3.out HB.out) | (with_reducible refine Kd.C_alloc ?_ _) | (with_reducible refine Kd.C_drewN ?_ _) | (with_reducible refine Kd.C_drew ?_))); (case side2 => exact HC0_3.out); rintro e w12 ⟨rfl, hb⟩; refine ⟨_, rfl, ?_⟩; have n0_ := Aside0.mk (blk_below (g := gb186) (o := .cells #[.int .i64 a0_0, .int .i64 a0_1, .float .f64 a0_2, .slice A0_3 l0_3.length c0_3] 25 (0, 0)) (bup BK186.out) hb); have n1_ := Aside0.mk (below_step (by with_reducible repeat (first | exact HB.out | refine h4 ?_ GE186.out | apply h1 | apply h2 | apply h3)) hb); clear BK186; clear HB; have BK186 := n0_; have HB := n1_; clear n0_ n1_; (try clear hb); (try clear hb2); (try clear hk); (try clear hi); obtain ⟨hcz13_0, hcz13_1, hcz13_2, hcz13_3⟩ := blk_cells4 BK186.out; obtain ⟨hfz13_0, hfz13_1, hfz13_2, hfz13_3⟩ := blk_frozens4 BK186.out))
        go_ret
        exact ⟨by first | rfl | (simp [errW_none, errW_some] <;> rfl) | (simp [*, errW_none, errW_some] <;> rfl), by with_reducible repeat (first | exact HB.out | refine h4 ?_ GE186.out | apply h1 | apply h2 | apply h3)⟩
      · rw [if_neg c9] at H
        have c9b0 : (feq a0_2 0) = false := by simpa using c9
        clear c9
        obtain rfl := Option.some.inj H
        go_enter Try.func23, Try.ntmps23
        go_wp2_with (first | ((with_reducible refine gate_dst (N := 1) rfl ?_); refine box_event ?hg (N := 1) ?hd (cs := #[.int .i64 a0_0, .int .i64 a0_1, .float .f64 a0_2, .slice A0_3 l0_3.length c0_3]) (t := 25) ?hr ?_; (case hd => rfl); (case hg => rfl); (case hr => first | (go_simp; done) | (go_simp; rfl)); intro gb186 hg w14 hbox hb; have n0_ := Aside0.mk (below_step (hup HB.out) hb); have n1_ := Aside0.mk (hbox); have n2_ := Aside0.mk ((by rw [hg]; exact (below_size (hup HB.out)) : w.heap.size ≤ gb186)); have n3_ := Aside0.mk ((by rw [hg]; exact (below_size (hup HB.out)) : w.heap.size ≤ gb186)); clear HB; have HB := n0_; have BK186 := n1_; have GW186 := n2_; have GE186 := n3_; clear n0_ n1_ n2_ n3_; clear hb hbox hg; obtain ⟨hcz15_0, hcz15_1, hcz15_2, hcz15_3⟩ := blk_cells4 BK186.out; obtain ⟨hfz15_0, hfz15_1, hfz15_2, hfz15_3⟩ := blk_frozens4 BK186.out) | ((with_reducible refine gate_callee (f := 50) rfl ?_); refine goesL_ (some 4) rfl rfl Try.func50 (by kernel_rfl) rfl #[.agg #[.int .i64 a0_0, .int .i64 a0_1, .float .f64 a0_2, .slice A0_3 l0_3.length c0_3]] rfl (by (try simp only [List.map_toArray, List.map_cons, List.map_nil]); first | done | rfl) ?_; (with_reducible refine (impl_ItemOk.calls a0_0 a0_1 a0_2 _ _ l0_3 true _ ?side1 ?side2 A2.out).mono ?_); (case side1 => repeat (first | exact (Kd.C_below HR0_3.out HB.out) | (with_reducible refine Kd.C_alloc ?_ _) | (with_reducible refine Kd.C_drewN ?_ _) | (with_reducible refine Kd.C_drew ?_))); (case side2 => exact HC0_3.out); rintro e w16 ⟨rfl, hb⟩; refine ⟨_, rfl, ?_⟩; have n0_ := Aside0.mk (blk_below (g := gb186) (o := .cells #[.int .i64 a0_0, .int .i64 a0_1, .float .f64 a0_2, .slice A0_3 l0_3.length c0_3] 25 (0, 0)) (bup BK186.out) hb); have n1_ := Aside0.mk (below_step (by with_reducible repeat (first | exact HB.out | refine h4 ?_ GE186.out | apply h1 | apply h2 | apply h3)) hb); clear BK186; clear HB; have BK186 := n0_; have HB := n1_; clear n0_ n1_; (try clear hb); (try clear hb2); (try clear hk); (try clear hi); obtain ⟨hcz17_0, hcz17_1, hcz17_2, hcz17_3⟩ := blk_cells4 BK186.out; obtain ⟨hfz17_0, hfz17_1, hfz17_2, hfz17_3⟩ := blk_frozens4 BK186.out))
        go_ret
        exact ⟨by first | rfl | (simp [errW_none, errW_some] <;> rfl) | (simp [*, errW_none, errW_some] <;> rfl), by with_reducible repeat (first | exact HB.out | refine h4 ?_ GE186.out | apply h1 | apply h2 | apply h3)⟩
  · replace c3 := Bool.eq_false_iff.mpr c3
    subst c3
    have H1 : (some false) = some r := by rw [if_neg (show ¬ (false = true) by decide)] at H; exact H
    clear H
    have H := H1
    clear H1
    obtain rfl := Option.some.inj H
    go_enter Try.func23, Try.ntmps23
    go_wp2_with (first | ((with_reducible refine gate_dst (N := 1) rfl ?_); refine box_event ?hg (N := 1) ?hd (cs := #[.int .i64 a0_0, .int .i64 a0_1, .float .f64 a0_2, .slice A0_3 l0_3.length c0_3]) (t := 25) ?hr ?_; (case hd => rfl); (case hg => rfl); (case hr => first | (go_simp; done) | (go_simp; rfl)); intro gb186 hg w18 hbox hb; have n0_ := Aside0.mk (below_step (hup HB.out) hb); have n1_ := Aside0.mk (hbox); have n2_ := Aside0.mk ((by rw [hg]; exact (below_size (hup HB.out)) : w.heap.size ≤ gb186)); have n3_ := Aside0.mk ((by rw [hg]; exact (below_size (hup HB.out)) : w.heap.size ≤ gb186)); clear HB; have HB := n0_; have BK186 := n1_; have GW186 := n2_; have GE186 := n3_; clear n0_ n1_ n2_ n3_; clear hb hbox hg; obtain ⟨hcz19_0, hcz19_1, hcz19_2, hcz19_3⟩ := blk_cells4 BK186.out; obtain ⟨hfz19_0, hfz19_1, hfz19_2, hfz19_3⟩ := blk_frozens4 BK186.out) | ((with_reducible refine gate_callee (f := 50) rfl ?_); refine goesL_ (some 4) rfl rfl Try.func50 (by kernel_rfl) rfl #[.agg #[.int .i64 a0_0, .int .i64 a0_1, .float .f64 a0_2, .slice A0_3 l0_3.length c0_3]] rfl (by (try simp only [List.map_toArray, List.map_cons, List.map_nil]); first | done | rfl) ?_; (with_reducible refine (impl_ItemOk.calls a0_0 a0_1 a0_2 _ _ l0_3 false _ ?side1 ?side2 A2.out).mono ?_); (case side1 => repeat (first | exact (Kd.C_below HR0_3.out HB.out) | (with_reducible refine Kd.C_alloc ?_ _) | (with_reducible refine Kd.C_drewN ?_ _) | (with_reducible refine Kd.C_drew ?_))); (case side2 => exact HC0_3.out); rintro e w20 ⟨rfl, hb⟩; refine ⟨_, rfl, ?_⟩; have n0_ := Aside0.mk (blk_below (g := gb186) (o := .cells #[.int .i64 a0_0, .int .i64 a0_1, .float .f64 a0_2, .slice A0_3 l0_3.length c0_3] 25 (0, 0)) (bup BK186.out) hb); have n1_ := Aside0.mk (below_step (by with_reducible repeat (first | exact HB.out | refine h4 ?_ GE186.out | apply h1 | apply h2 | apply h3)) hb); clear BK186; clear HB; have BK186 := n0_; have HB := n1_; clear n0_ n1_; (try clear hb); (try clear hb2); (try clear hk); (try clear hi)))
    go_ret
    exact ⟨by first | rfl | (simp [errW_none, errW_some] <;> rfl) | (simp [*, errW_none, errW_some] <;> rfl), by with_reducible repeat (first | exact HB.out | refine h4 ?_ GE186.out | apply h1 | apply h2 | apply h3)⟩

/-! ### impl_highFirst: function 89 -/
def impl_highFirst.l0 : Nat → Int → List Int → Int → Option (List Int)
  | 0, _, _, _ => none
  | k + 1, x0, x3, x4 => if x4 ≥ 0 then (if 0 ≤ x4 then (if x3.length < 140737488355328 then (impl_highFirst.l0 k x0 (x3 ++ [(shr .u64 x0 x4) % 256]) (wrap64 (x4 - 8))) else (none)) else (none)) else (some x3)
def impl_highFirst.f (k : Nat) (a0 : Int) : Option (List Int) := impl_highFirst.l0 k a0 ([] : List Int) 56
theorem impl_highFirst.mono_l : ∀ k, (∀ y0 y1 y2, LeO (impl_highFirst.l0 k y0 y1 y2) (impl_highFirst.l0 (k + 1) y0 y1 y2))
  | 0 => fun _ _ _ r h => by simp [impl_highFirst.l0] at h
  | k + 1 => by
    have ih0 := impl_highFirst.mono_l k
    · intro y0 y1 y2
      unfold impl_highFirst.l0
      repeat' with_reducible first | exact ih0 _ _ _ | exact LeO.refl _ | exact LeO.none _ | refine LeO.ite ?_ ?_ | refine LeO.bind ?_ (fun _ => ?_)
theorem impl_highFirst.mono : ∀ a0 k, LeO (impl_highFirst.f k a0) (impl_highFirst.f (k + 1) a0) := by
  intro a0 k
  have ih0 := impl_highFirst.mono_l k
  unfold impl_highFirst.f
  repeat' with_reducible first | exact ih0 _ _ _ | exact LeO.refl _ | exact LeO.none _ | refine LeO.ite ?_ ?_ | refine LeO.bind ?_ (fun _ => ?_)
set_option maxHeartbeats 8000000 in
set_option maxRecDepth 100000 in
theorem impl_highFirst.calls (k : Nat) (a0 : Int) (r : List Int) (w : World) (h : impl_highFirst.f k a0 = some r) :
    Calls Try.prog 89 #[.int .u64 a0] w fun e w' => ∃ v0_ : Value, e = .returned (v0_) ∧ Kd.R (Kd.int .u8) 5 w' w.heap.size (fun _ => True) v0_ r ∧ Below w.heap.size w w' := by
  have HB := Aside0.mk (Below.refl w.heap.size w)
  have H : (impl_highFirst.l0 k a0 ([] : List Int) 56) = some r := h
  clear h
  have H' := Aside0.mk H
  clear H
  go_enter Try.func89, Try.ntmps89
  go_wp2
  go_loopg [3, 4] k (fun kq v3 v4 w' => ∃ (x3_1 : List Int) (x4_1 : Int), v4 = .int .i64 x4_1 ∧ Aside0 (impl_highFirst.l0 kq a0 x3_1 x4_1 = some r) ∧ Aside0 (kq ≤ k) ∧ Aside0 (Kd.R (Kd.int .u8) 5 w' w.heap.size (fun _ => True) v3 x3_1) ∧ Aside0 (Below w.heap.size w w'))
  case atStart => exact ⟨(([] : List Int)), (56), (by first | rfl | (simp; done) | (simp [*]; done)), H', ⟨Nat.le_refl _⟩, ⟨by first | exact Kd.R_nil _ _ _ _ _ | exact Kd.N_nil _ _ _ _ _ | exact Kd.V_nil _ _ _ _ _ | exact Kd.Q_nil _ _ _ _ _ | exact Kd.S_nil _ _ _ _ _⟩, ⟨by with_reducible repeat (first | exact HB.out | apply h1 | apply h2 | apply h3)⟩⟩
  case round =>
    clear H'
    obtain ⟨x3_1, x4_1, rfl, HA, HK1, HO_3, HB⟩ := hrel
    cases gk with
    | zero => exact absurd HA.out (by simp [impl_highFirst.l0])
    | succ k1 =>
      have H := HA.out
      clear HA
      simp only [impl_highFirst.l0] at H
      by_cases c2 : x4_1 ≥ 0
      · rw [if_pos c2] at H
        have c2b0 : decide (0 ≤ x4_1) = true := decide_eq_true c2
        clear c2
        by_cases c3 : 0 ≤ x4_1
        · rw [if_pos c3] at H
          have c3b0 := eq_true c3
          have c3b1 : decide (0 ≤ x4_1) = true := decide_eq_true c3
          clear c3
          obtain ⟨ji4, hji4⟩ : ∃ j_ : Int, (shr .u64 a0 x4_1) = j_ := ⟨_, rfl⟩
          replace H : (if x3_1.length < 140737488355328 then (impl_highFirst.l0 k1 a0 (x3_1 ++ [(ji4) % 256]) (wrap64 (x4_1 - 8))) else (none)) = some r := by first | (rw [hji4] at H; exact H) | (simp only [hji4] at H ⊢; exact H)
          have hji4_ : (a0 / 2 ^ min x4_1.toNat 64) = ji4 := hji4
          have hji4z : x4_1 ≤ 64 → (a0 / 2 ^ x4_1.toNat) = ji4 := shr_small hji4
          by_cases c5 : x3_1.length < 140737488355328
          · rw [if_pos c5] at H
            have LMc5 := Aside0.mk c5
            clear c5
            obtain ⟨y188, hy188⟩ : ∃ y_ : List Int, y_ = (x3_1 ++ [(ji4) % 256]) := ⟨_, rfl⟩
            replace H : (impl_highFirst.l0 k1 a0 y188 (wrap64 (x4_1 - 8))) = some r := by first | (rw [hy188]; with_reducible exact H) | (have H2_ := (Option.bind_some _ _).symm.trans H; rw [hy188]; with_reducible exact H2_) | (have H2_ := (Option.bind_some _ _).symm.trans H; with_reducible exact H2_) | with_reducible exact H | (rw [hy188]; exact H) | exact H
            have Ny188 := Aside0.mk hy188
            clear hy188
            have H' := Aside0.mk H
            clear H
            go_wp2_with (first | ((with_reducible refine gate_builtin (b := .append) (xs := #[.tmp 9, .tmp 14]) rfl ?_); at_builtin; refine Kd.R_append (Kd.int .u8) (w0 := w) w.heap.size rfl (.tmp 9) (.tmp 14) 22 5 (.int .u8 0) 1 rfl Try.underlying22 info5 rfl (by decide) (by omega) u3 x3_1 ((ji4) % 256) [.int .u8 ((ji4) % 256)] (fun _ => True) (fun _ => False) rfl rfl ?aP (fun _ hk => hk.elim) ?aF ?aO ?aB ?aS ?aL ?_; (case aP => exact rfl); (case aB => exact (hup HB.out)); (case aF => exact (fun _ _ => trivial)); (case aO => exact (Kd.rup HO_3.out)); (case aS => exact (below_size (hup HB.out))); (case aL => have := LMc5.out; omega); intro v189 w6 ho hb hg hat; rw [← Ny188.out] at ho; have n0_ := Aside0.mk (hb); have n1_ := Aside0.mk (ho); clear HB; clear HO_3; have HB := n0_; have HO190 := n1_; clear n0_ n1_; clear ho hb hg hat))
            go_roundg k1
            case measure => have := HK1.out; omega
            case rel => exact ⟨(y188), (wrap64 (x4_1 - 8)), (by first | rfl | (simp; done) | (simp [*]; done)), H', ⟨by have := HK1.out; omega⟩, ⟨by exact Kd.rup HO190.out⟩, ⟨by with_reducible repeat (first | exact HB.out | apply h1 | apply h2 | apply h3)⟩⟩
          · rw [if_neg c5] at H
            exact absurd H (by simp)
        · rw [if_neg c3] at H
          exact absurd H (by simp)
      · rw [if_neg c2] at H
        have c2b0 : decide (0 ≤ x4_1) = false := decide_eq_false c2
        clear c2
        obtain rfl := Option.some.inj H
        go_wp2
        go_ret
        exact ⟨_, by first | rfl | (simp [errW_none, errW_some] <;> rfl) | (simp [*, errW_none, errW_some] <;> rfl), by exact Kd.rup HO_3.out, by with_reducible repeat (first | exact HB.out | apply h1 | apply h2 | apply h3)⟩

/-! ### impl_itemBytes: function 64 -/
def impl_itemBytes.f (k : Nat) (a0_0 : Int) (a0_1 : Int) (a0_2 : Nat) (l0_3 : List Int) (a1 : Int) : Option (List Int) := (some (([(a0_0) % 256] : List Int) : List Int)).bind fun y192 => (if a0_0 = 1 then ((impl_highFirst.f k (IntKind.u64.wrap ((IntKind.u64.wrap (a0_1)) + 9223372036854775808))).bind fun t195 => (if y192.length + t195.length < 140737488355328 then (some (y192 ++ t195)) else (none))) else (if a0_0 = 2 then ((impl_highFirst.f k a1).bind fun t201 => (if y192.length + t201.length < 140737488355328 then (some (y192 ++ t201)) else (none))) else (if y192.length + l0_3.length < 140737488355328 then (some (y192 ++ l0_3)) else (none))))
theorem impl_itemBytes.mono : ∀ a0 a1 a2 a3 a4 k, LeO (impl_itemBytes.f k a0 a1 a2 a3 a4) (impl_itemBytes.f (k + 1) a0 a1 a2 a3 a4) := by
 intro a0 a1 a2 a3 a4 k
 unfold impl_itemBytes.f
 repeat' with_reducible first | exact impl_highFirst.mono _ _ | exact LeO.refl _ | exact LeO.none _ | refine LeO.ite ?_ ?_ | refine LeO.bind ?_ (fun _ => ?_)
set_option maxHeartbeats 8000000 in
set_option maxRecDepth 100000 in
theorem impl_itemBytes.calls (k : Nat) (a0_0 : Int) (a0_1 : Int) (a0_2 : Nat) (A0_3 : Option Addr) (c0_3 : Nat) (l0_3 : List Int) (a1 : Int) (r : List Int) (w : World) (hr0_3 : Kd.C (Kd.int .u8) w A0_3 l0_3.length l0_3) (hc0_3 : l0_3.length ≤ c0_3) (h : impl_itemBytes.f k a0_0 a0_1 a0_2 l0_3 a1 = some r) :
  Calls Try.prog 64 #[.agg #[.int .i64 a0_0, .int .i64 a0_1, .float .f64 a0_2, .slice A0_3 l0_3.length c0_3], .int .u64 a1] w fun e w' => ∃ v0_ : Value, e = .returned (v0_) ∧ Kd.R (Kd.int .u8) 5 w' w.heap.size (fun _ => True) v0_ r ∧ Below w.heap.size w w' := by
 have hu25 := Try.underlying25
 have HR0_3 := Aside0.mk hr0_3
 have HC0_3 := Aside0.mk hc0_3
 clear hr0_3 hc0_3
 have HB := Aside0.mk (Below.refl w.heap.size w)
 have H : ((some (([(a0_0) % 256] : List Int) : List Int)).bind fun y192 => (if a0_0 = 1 then ((impl_highFirst.f k (IntKind.u64.wrap ((IntKind.u64.wrap (a0_1)) + 9223372036854775808))).bind fun t195 => (if y192.length + t195.length < 140737488355328 then (some (y192 ++ t195)) else (none))) else (if a0_0 = 2 then ((impl_highFirst.f k a1).bind fun t201 => (if y192.length + t201.length < 140737488355328 then (some (y192 ++ t201)) else (none))) else (if y192.length + l0_3.length < 140737488355328 then (some (y192 ++ l0_3)) else (none))))) = some r := h
 clear h
 obtain ⟨y192, hy192⟩ : ∃ y_ : List Int, y_ = (([(a0_0) % 256] : List Int)) := ⟨_, rfl⟩
 replace H : (if a0_0 = 1 then ((impl_highFirst.f k (IntKind.u64.wrap ((IntKind.u64.wrap (a0_1)) + 9223372036854775808))).bind fun t195 => (if y192.length + t195.length < 140737488355328 then (some (y192 ++ t195)) else (none))) else (if a0_0 = 2 then ((impl_highFirst.f k a1).bind fun t201 => (if y192.length + t201.length < 140737488355328 then (some (y192 ++ t201)) else (none))) else (if y192.length + l0_3.length < 140737488355328 then (some (y192 ++ l0_3)) else (none)))) = some r := by first | (rw [hy192]; with_reducible exact H) | (have H2_ := (Option.bind_some _ _).symm.trans H; rw [hy192]; with_reducible exact H2_) | (have H2_ := (Option.bind_some _ _).symm.trans H; with_reducible exact H2_) | with_reducible exact H | (rw [hy192]; exact H) | exact H
 have Ny192 := Aside0.mk hy192
 clear hy192
 by_cases c3 : a0_0 = 1
 ·rw [if_pos c3] at H
  have c3b0 : (a0_0 == 1) = true := beq_iff_eq.mpr c3
  have c3b1 : (a0_0 != 1) = false := bne_eq_false_iff_eq.mpr c3
  clear c3
  replace H := Option.bind_eq_some_iff.mp H
  obtain ⟨t195, A40, H⟩ := H
  replace H : (if y192.length + t195.length < 140737488355328 then (some (y192 ++ t195)) else (none)) = some r := H
  have A4 := Aside0.mk A40
  clear A40
  by_cases c5 : y192.length + t195.length < 140737488355328
  ·rw [if_pos c5] at H
   have LMc5 := Aside0.mk c5
   clear c5
   obtain ⟨y198, hy198⟩ : ∃ y_ : List Int, y_ = (y192 ++ t195) := ⟨_, rfl⟩
   replace H : (some y198) = some r := by first | (rw [hy198]; with_reducible exact H) | (have H2_ := (Option.bind_some _ _).symm.trans H; rw [hy198]; with_reducible exact H2_) | (have H2_ := (Option.bind_some _ _).symm.trans H; with_reducible exact H2_) | with_reducible exact H | (rw [hy198]; exact H) | exact H
   have Ny198 := Aside0.mk hy198
   clear hy198
   obtain rfl := Option.some.inj H
   go_enter Try.func64, Try.ntmps64
   go_wp2_with (first | ((with_reducible refine gate_dst (N := 2) rfl ?_); refine box_event ?hg (N := 2) ?hd (cs := #[.int .i64 a0_0, .int .i64 a0_1, .float .f64 a0_2, .slice A0_3 l0_3.length c0_3]) (t := 25) ?hr ?_; (case hd => rfl); (case hg => rfl); (case hr => first | (go_simp; done) | (go_simp; rfl)); intro gb191 hg w6 hbox hb; have n0_ := Aside0.mk (below_step (hup HB.out) hb); have n1_ := Aside0.mk (hbox); have n2_ := Aside0.mk ((by rw [hg]; exact (below_size (hup HB.out)) : w.heap.size ≤ gb191)); have n3_ := Aside0.mk ((by rw [hg]; exact (below_size (hup HB.out)) : w.heap.size ≤ gb191)); clear HB; have HB := n0_; have BK191 := n1_; have GW191 := n2_; have GE191 := n3_; clear n0_ n1_ n2_ n3_; clear hb hbox hg; obtain ⟨hcz7_0, hcz7_1, hcz7_2, hcz7_3⟩ := blk_cells4 BK191.out; obtain ⟨hfz7_0, hfz7_1, hfz7_2, hfz7_3⟩ := blk_frozens4 BK191.out) | ((with_reducible refine gate_dst (N := 9) rfl ?_); refine Kd.R_lit (Kd.int .u8) _ 5 ?hg (N := 9) ?hd (xs := ([(a0_0) % 256] : List Int)) (inner := [.int .u8 ((a0_0) % 256)]) (ok := fun _ => True) (okp := fun _ => True) ?hr ?hp (fun _ hk => hk) trivial (Below.refl _ _) (Nat.le_refl _) (by simp) ?_; (case hd => rfl); (case hg => rfl); (case hr => first | (go_simp; done) | (go_simp; rfl)); (case hp => exact (Reps.one (show Kd.M (Kd.int .u8) _ _ _ ((a0_0) % 256) [.int .u8 ((a0_0) % 256)] from rfl) (Reps.none _ _))); intro v193 w8 ho9 hb hg_ hnew_; clear hg_ hnew_; (first | rw [← Ny192.out] at ho9 | (simp only [Int.reduceToNat] at ho9; rw [← Ny192.out] at ho9)); have n0_ := Aside0.mk (Kd.R_lower ho9 (below_size (by with_reducible repeat (first | exact HB.out | refine h4 ?_ GE191.out | apply h1 | apply h2 | apply h3)))); have n1_ := Aside0.mk (blk_below (g := gb191) (o := .cells #[.int .i64 a0_0, .int .i64 a0_1, .float .f64 a0_2, .slice A0_3 l0_3.length c0_3] 25 (0, 0)) (bup BK191.out) hb); have n2_ := Aside0.mk (below_step (by with_reducible repeat (first | exact HB.out | refine h4 ?_ GE191.out | apply h1 | apply h2 | apply h3)) hb); clear BK191; clear HB; have HO194 := n0_; have BK191 := n1_; have HB := n2_; clear n0_ n1_ n2_; clear hb ho9; obtain ⟨hcz10_0, hcz10_1, hcz10_2, hcz10_3⟩ := blk_cells4 BK191.out; obtain ⟨hfz10_0, hfz10_1, hfz10_2, hfz10_3⟩ := blk_frozens4 BK191.out) | ((with_reducible refine gate_callee (f := 89) rfl ?_); refine goesL_ (some 19) rfl rfl Try.func89 (by kernel_rfl) rfl #[.int .u64 (IntKind.u64.wrap ((IntKind.u64.wrap (a0_1)) + 9223372036854775808))] rfl (by (try simp only [List.map_toArray, List.map_cons, List.map_nil]); first | done | rfl) ?_; (with_reducible refine (impl_highFirst.calls k (IntKind.u64.wrap ((IntKind.u64.wrap (a0_1)) + 9223372036854775808)) t195 _ A4.out).mono ?_); rintro e w11 ⟨v196, rfl, ho0, hb⟩; refine ⟨_, rfl, ?_⟩; have n0_ := Aside0.mk (Kd.R_elder' (Kd.rup HO194.out) (Kd.R_base ho0) hb); have n1_ := Aside0.mk (Kd.R_lower (Kd.R_new' ho0 (Kd.R_lt (Kd.rup HO194.out))) (below_size (by with_reducible repeat (first | exact HB.out | refine h4 ?_ GE191.out | apply h1 | apply h2 | apply h3)))); have n2_ := Aside0.mk (blk_below (g := gb191) (o := .cells #[.int .i64 a0_0, .int .i64 a0_1, .float .f64 a0_2, .slice A0_3 l0_3.length c0_3] 25 (0, 0)) (bup BK191.out) hb); have n3_ := Aside0.mk (below_step (by with_reducible repeat (first | exact HB.out | refine h4 ?_ GE191.out | apply h1 | apply h2 | apply h3)) hb); clear HO194; clear BK191; clear HB; have HO194 := n0_; have HO197 := n1_; have BK191 := n2_; have HB := n3_; clear n0_ n1_ n2_ n3_; (try clear hb); (try clear hb2); (try clear hk); (try clear hi); (try clear ho0); obtain ⟨Ao13, co13, eo13⟩ := Kd.R_slice HO197.out; subst eo13) | ((with_reducible refine gate_builtin (b := .append) (xs := #[.tmp 14, .tmp 19]) rfl ?_); at_builtin; refine Kd.R_append_rows (Kd.int .u8) (w0 := w) w.heap.size rfl (.tmp 14) (.tmp 19) 22 5 (.int .u8 0) 1 rfl Try.underlying22 info5 rfl (by decide) (by omega) v193 y192 t195 _ _ _ (fun k_ => some k_ ≠ (.slice Ao13 t195.length co13 : Value).ownBlock) (fun _ => False) rfl rfl ?aO ?aR (fun _ _ h => h) (fun _ h => h.elim) ?aF ?aB ?aS ?aL ?_; (case aR => repeat (first | exact (Kd.R_reads' HO197.out).2.2 | (with_reducible refine Kd.C_alloc ?_ _) | (with_reducible refine Kd.C_drewN ?_ _) | (with_reducible refine Kd.C_drew ?_))); (case aB => exact (by with_reducible repeat (first | exact HB.out | refine h4 ?_ GE191.out | apply h1 | apply h2 | apply h3))); (case aF => exact (fun k_ hk => Kd.fresh' (Kd.R_lt (Kd.rup HO197.out)) k_ hk)); (case aO => exact (by exact Kd.rup (Kd.R_mono HO194.out (fun _ hk => hk.2)))); (case aS => exact (below_size (by with_reducible repeat (first | exact HB.out | refine h4 ?_ GE191.out | apply h1 | apply h2 | apply h3)))); (case aL => have := LMc5.out; omega); intro v199 w12 ho hb hg hat; rw [← Ny198.out] at ho; have n0_ := Aside0.mk (blk_grown (g := gb191) (o := .cells #[.int .i64 a0_0, .int .i64 a0_1, .float .f64 a0_2, .slice A0_3 l0_3.length c0_3] 25 (0, 0)) (bup BK191.out) hg (Kd.R_ne HO194.out BK191.out (by decide))); have n1_ := Aside0.mk (Kd.R_after (ok := (fun _ => True)) (Kd.rup HO197.out) hg hat); have n2_ := Aside0.mk (hb); have n3_ := Aside0.mk (ho); clear BK191; clear HO197; clear HB; clear HO194; have BK191 := n0_; have HO197 := n1_; have HB := n2_; have HO200 := n3_; clear n0_ n1_ n2_ n3_; clear ho hb hg hat))
   go_ret
   exact ⟨_, by first | rfl | (simp [errW_none, errW_some] <;> rfl) | (simp [*, errW_none, errW_some] <;> rfl), by exact Kd.rup (Kd.R_mono HO200.out (fun _ hk => trivial)), by with_reducible repeat (first | exact HB.out | refine h4 ?_ GE191.out | apply h1 | apply h2 | apply h3)⟩
  ·rw [if_neg c5] at H
   exact absurd H (by simp)
 ·rw [if_neg c3] at H
  have c3b0 : (a0_0 == 1) = false := beq_eq_false_iff_ne.mpr c3
  have c3b1 : (a0_0 != 1) = true := bne_iff_ne.mpr c3
  by_cases c14 : a0_0 = 2
  ·rw [if_pos c14] at H
   have c14b0 : (a0_0 == 2) = true := beq_iff_eq.mpr c14
   have c14b1 : (a0_0 != 2) = false := bne_eq_false_iff_eq.mpr c14
   clear c14
   replace H := Option.bind_eq_some_iff.mp H
   obtain ⟨t201, A150, H⟩ := H
   replace H : (if y192.length + t201.length < 140737488355328 then (some (y192 ++ t201)) else (none)) = some r := H
   have A15 := Aside0.mk A150
   clear A150
   by_cases c16 : y192.length + t201.length < 140737488355328
   ·rw [if_pos c16] at H
    have LMc16 := Aside0.mk c16
    clear c16
    obtain ⟨y204, hy204⟩ : ∃ y_ : List Int, y_ = (y192 ++ t201) := ⟨_, rfl⟩
    replace H : (some y204) = some r := by first | (rw [hy204]; with_reducible exact H) | (have H2_ := (Option.bind_some _ _).symm.trans H; rw [hy204]; with_reducible exact H2_) | (have H2_ := (Option.bind_some _ _).symm.trans H; with_reducible exact H2_) | with_reducible exact H | (rw [hy204]; exact H) | exact H
    have Ny204 := Aside0.mk hy204
    clear hy204
    obtain rfl := Option.some.inj H
    go_enter Try.func64, Try.ntmps64
    go_wp2_with (first | ((with_reducible refine gate_dst (N := 2) rfl ?_); refine box_event ?hg (N := 2) ?hd (cs := #[.int .i64 a0_0, .int .i64 a0_1, .float .f64 a0_2, .slice A0_3 l0_3.length c0_3]) (t := 25) ?hr ?_; (case hd => rfl); (case hg => rfl); (case hr => first | (go_simp; done) | (go_simp; rfl)); intro gb191 hg w17 hbox hb; have n0_ := Aside0.mk (below_step (hup HB.out) hb); have n1_ := Aside0.mk (hbox); have n2_ := Aside0.mk ((by rw [hg]; exact (below_size (hup HB.out)) : w.heap.size ≤ gb191)); have n3_ := Aside0.mk ((by rw [hg]; exact (below_size (hup HB.out)) : w.heap.size ≤ gb191)); clear HB; have HB := n0_; have BK191 := n1_; have GW191 := n2_; have GE191 := n3_; clear n0_ n1_ n2_ n3_; clear hb hbox hg; obtain ⟨hcz18_0, hcz18_1, hcz18_2, hcz18_3⟩ := blk_cells4 BK191.out; obtain ⟨hfz18_0, hfz18_1, hfz18_2, hfz18_3⟩ := blk_frozens4 BK191.out) | ((with_reducible refine gate_dst (N := 9) rfl ?_); refine Kd.R_lit (Kd.int .u8) _ 5 ?hg (N := 9) ?hd (xs := ([(a0_0) % 256] : List Int)) (inner := [.int .u8 ((a0_0) % 256)]) (ok := fun _ => True) (okp := fun _ => True) ?hr ?hp (fun _ hk => hk) trivial (Below.refl _ _) (Nat.le_refl _) (by simp) ?_; (case hd => rfl); (case hg => rfl); (case hr => first | (go_simp; done) | (go_simp; rfl)); (case hp => exact (Reps.one (show Kd.M (Kd.int .u8) _ _ _ ((a0_0) % 256) [.int .u8 ((a0_0) % 256)] from rfl) (Reps.none _ _))); intro v193 w19 ho20 hb hg_ hnew_; clear hg_ hnew_; (first | rw [← Ny192.out] at ho20 | (simp only [Int.reduceToNat] at ho20; rw [← Ny192.out] at ho20)); have n0_ := Aside0.mk (Kd.R_lower ho20 (below_size (by with_reducible repeat (first | exact HB.out | refine h4 ?_ GE191.out | apply h1 | apply h2 | apply h3)))); have n1_ := Aside0.mk (blk_below (g := gb191) (o := .cells #[.int .i64 a0_0, .int .i64 a0_1, .float .f64 a0_2, .slice A0_3 l0_3.length c0_3] 25 (0, 0)) (bup BK191.out) hb); have n2_ := Aside0.mk (below_step (by with_reducible repeat (first | exact HB.out | refine h4 ?_ GE191.out | apply h1 | apply h2 | apply h3)) hb); clear BK191; clear HB; have HO194 := n0_; have BK191 := n1_; have HB := n2_; clear n0_ n1_ n2_; clear hb ho20; obtain ⟨hcz21_0, hcz21_1, hcz21_2, hcz21_3⟩ := blk_cells4 BK191.out; obtain ⟨hfz21_0, hfz21_1, hfz21_2, hfz21_3⟩ := blk_frozens4 BK191.out) | ((with_reducible refine gate_callee (f := 89) rfl ?_); refine goesL_ (some 25) rfl rfl Try.func89 (by kernel_rfl) rfl #[.int .u64 a1] rfl (by (try simp only [List.map_toArray, List.map_cons, List.map_nil]); first | done | rfl) ?_; (with_reducible refine (impl_highFirst.calls k a1 t201 _ A15.out).mono ?_); rintro e w22 ⟨v202, rfl, ho0, hb⟩; refine ⟨_, rfl, ?_⟩; have n0_ := Aside0.mk (Kd.R_elder' (Kd.rup HO194.out) (Kd.R_base ho0) hb); have n1_ := Aside0.mk (Kd.R_lower (Kd.R_new' ho0 (Kd.R_lt (Kd.rup HO194.out))) (below_size (by with_reducible repeat (first | exact HB.out | refine h4 ?_ GE191.out | apply h1 | apply h2 | apply h3)))); have n2_ := Aside0.mk (blk_below (g := gb191) (o := .cells #[.int .i64 a0_0, .int .i64 a0_1, .float .f64 a0_2, .slice A0_3 l0_3.length c0_3] 25 (0, 0)) (bup BK191.out) hb); have n3_ := Aside0.mk (below_step (by with_reducible repeat (first | exact HB.out | refine h4 ?_ GE191.out | apply h1 | apply h2 | apply h3)) hb); clear HO194; clear BK191; clear HB; have HO194 := n0_; have HO203 := n1_; have BK191 := n2_; have HB := n3_; clear n0_ n1_ n2_ n3_; (try clear hb); (try clear hb2); (try clear hk); (try clear hi); (try clear ho0); obtain ⟨Ao24, co24, eo24⟩ := Kd.R_slice HO203.out; subst eo24) | ((with_reducible refine gate_builtin (b := .append) (xs := #[.tmp 23, .tmp 25]) rfl ?_); at_builtin; refine Kd.R_append_rows (Kd.int .u8) (w0 := w) w.heap.size rfl (.tmp 23) (.tmp 25) 22 5 (.int .u8 0) 1 rfl Try.underlying22 info5 rfl (by decide) (by omega) v193 y192 t201 _ _ _ (fun k_ => some k_ ≠ (.slice Ao24 t201.length co24 : Value).ownBlock) (fun _ => False) rfl rfl ?aO ?aR (fun _ _ h => h) (fun _ h => h.elim) ?aF ?aB ?aS ?aL ?_; (case aR => repeat (first | exact (Kd.R_reads' HO203.out).2.2 | (with_reducible refine Kd.C_alloc ?_ _) | (with_reducible refine Kd.C_drewN ?_ _) | (with_reducible refine Kd.C_drew ?_))); (case aB => exact (by with_reducible repeat (first | exact HB.out | refine h4 ?_ GE191.out | apply h1 | apply h2 | apply h3))); (case aF => exact (fun k_ hk => Kd.fresh' (Kd.R_lt (Kd.rup HO203.out)) k_ hk)); (case aO => exact (by exact Kd.rup (Kd.R_mono HO194.out (fun _ hk => hk.2)))); (case aS => exact (below_size (by with_reducible repeat (first | exact HB.out | refine h4 ?_ GE191.out | apply h1 | apply h2 | apply h3)))); (case aL => have := LMc16.out; omega); intro v205 w23 ho hb hg hat; rw [← Ny204.out] at ho; have n0_ := Aside0.mk (blk_grown (g := gb191) (o := .cells #[.int .i64 a0_0, .int .i64 a0_1, .float .f64 a0_2, .slice A0_3 l0_3.length c0_3] 25 (0, 0)) (bup BK191.out) hg (Kd.R_ne HO194.out BK191.out (by decide))); have n1_ := Aside0.mk (Kd.R_after (ok := (fun _ => True)) (Kd.rup HO203.out) hg hat); have n2_ := Aside0.mk (hb); have n3_ := Aside0.mk (ho); clear BK191; clear HO203; clear HB; clear HO194; have BK191 := n0_; have HO203 := n1_; have HB := n2_; have HO206 := n3_; clear n0_ n1_ n2_ n3_; clear ho hb hg hat))
    go_ret
    exact ⟨_, by first | rfl | (simp [errW_none, errW_some] <;> rfl) | (simp [*, errW_none, errW_some] <;> rfl), by exact Kd.rup (Kd.R_mono HO206.out (fun _ hk => trivial)), by with_reducible repeat (first | exact HB.out | refine h4 ?_ GE191.out | apply h1 | apply h2 | apply h3)⟩
   ·rw [if_neg c16] at H
    exact absurd H (by simp)
  ·rw [if_neg c14] at H
   have c14b0 : (a0_0 == 2) = false := beq_eq_false_iff_ne.mpr c14
   have c14b1 : (a0_0 != 2) = true := bne_iff_ne.mpr c14
   by_cases c25 : y192.length + l0_3.length < 140737488355328
   ·rw [if_pos c25] at H
    have LMc25 := Aside0.mk c25
    clear c25
    obtain ⟨y207, hy207⟩ : ∃ y_ : List Int, y_ = (y192 ++ l0_3) := ⟨_, rfl⟩
    replace H : (some y207) = some r := by first | (rw [hy207]; with_reducible exact H) | (have H2_ := (Option.bind_some _ _).symm.trans H; rw [hy207]; with_reducible exact H2_) | (have H2_ := (Option.bind_some _ _).symm.trans H; with_reducible exact H2_) | with_reducible exact H | (rw [hy207]; exact H) | exact H
    have Ny207 := Aside0.mk hy207
    clear hy207
    obtain rfl := Option.some.inj H
    go_enter Try.func64, Try.ntmps64
    go_wp2_with (first | ((with_reducible refine gate_dst (N := 2) rfl ?_); refine box_event ?hg (N := 2) ?hd (cs := #[.int .i64 a0_0, .int .i64 a0_1, .float .f64 a0_2, .slice A0_3 l0_3.length c0_3]) (t := 25) ?hr ?_; (case hd => rfl); (case hg => rfl); (case hr => first | (go_simp; done) | (go_simp; rfl)); intro gb191 hg w26 hbox hb; have n0_ := Aside0.mk (below_step (hup HB.out) hb); have n1_ := Aside0.mk (hbox); have n2_ := Aside0.mk ((by rw [hg]; exact (below_size (hup HB.out)) : w.heap.size ≤ gb191)); have n3_ := Aside0.mk ((by rw [hg]; exact (below_size (hup HB.out)) : w.heap.size ≤ gb191)); clear HB; have HB := n0_; have BK191 := n1_; have GW191 := n2_; have GE191 := n3_; clear n0_ n1_ n2_ n3_; clear hb hbox hg; obtain ⟨hcz27_0, hcz27_1, hcz27_2, hcz27_3⟩ := blk_cells4 BK191.out; obtain ⟨hfz27_0, hfz27_1, hfz27_2, hfz27_3⟩ := blk_frozens4 BK191.out) | ((with_reducible refine gate_dst (N := 9) rfl ?_); refine Kd.R_lit (Kd.int .u8) _ 5 ?hg (N := 9) ?hd (xs := ([(a0_0) % 256] : List Int)) (inner := [.int .u8 ((a0_0) % 256)]) (ok := fun _ => True) (okp := fun _ => True) ?hr ?hp (fun _ hk => hk) trivial (Below.refl _ _) (Nat.le_refl _) (by simp) ?_; (case hd => rfl); (case hg => rfl); (case hr => first | (go_simp; done) | (go_simp; rfl)); (case hp => exact (Reps.one (show Kd.M (Kd.int .u8) _ _ _ ((a0_0) % 256) [.int .u8 ((a0_0) % 256)] from rfl) (Reps.none _ _))); intro v193 w28 ho29 hb hg_ hnew_; clear hg_ hnew_; (first | rw [← Ny192.out] at ho29 | (simp only [Int.reduceToNat] at ho29; rw [← Ny192.out] at ho29)); have n0_ := Aside0.mk (Kd.R_lower ho29 (below_size (by with_reducible repeat (first | exact HB.out | refine h4 ?_ GE191.out | apply h1 | apply h2 | apply h3)))); have n1_ := Aside0.mk (blk_below (g := gb191) (o := .cells #[.int .i64 a0_0, .int .i64 a0_1, .float .f64 a0_2, .slice A0_3 l0_3.length c0_3] 25 (0, 0)) (bup BK191.out) hb); have n2_ := Aside0.mk (below_step (by with_reducible repeat (first | exact HB.out | refine h4 ?_ GE191.out | apply h1 | apply h2 | apply h3)) hb); clear BK191; clear HB; have HO194 := n0_; have BK191 := n1_; have HB := n2_; clear n0_ n1_ n2_; clear hb ho29; obtain ⟨hcz30_0, hcz30_1, hcz30_2, hcz30_3⟩ := blk_cells4 BK191.out; obtain ⟨hfz30_0, hfz30_1, hfz30_2, hfz30_3⟩ := blk_frozens4 BK191.out) | ((with_reducible refine gate_builtin (b := .append) (xs := #[.tmp 27, .tmp 29]) rfl ?_); at_builtin; refine Kd.R_append_rows (Kd.int .u8) (w0 := w) w.heap.size rfl (.tmp 27) (.tmp 29) 22 5 (.int .u8 0) 1 rfl Try.underlying22 info5 rfl (by decide) (by omega) v193 y192 l0_3 _ _ _ (fun _ => True) (fun _ => False) rfl rfl ?aO ?aR (fun _ _ h => h) (fun _ h => h.elim) ?aF ?aB ?aS ?aL ?_; (case aR => repeat (first | exact (Kd.C_below HR0_3.out HB.out) | (with_reducible refine Kd.C_alloc ?_ _) | (with_reducible refine Kd.C_drewN ?_ _) | (with_reducible refine Kd.C_drew ?_))); (case aB => exact (by with_reducible repeat (first | exact HB.out | refine h4 ?_ GE191.out | apply h1 | apply h2 | apply h3))); (case aF => exact (fun _ _ => trivial)); (case aO => exact (Kd.rup HO194.out)); (case aS => exact (below_size (by with_reducible repeat (first | exact HB.out | refine h4 ?_ GE191.out | apply h1 | apply h2 | apply h3)))); (case aL => have := LMc25.out; omega); intro v208 w31 ho hb hg hat; rw [← Ny207.out] at ho; have n0_ := Aside0.mk (blk_grown (g := gb191) (o := .cells #[.int .i64 a0_0, .int .i64 a0_1, .float .f64 a0_2, .slice A0_3 l0_3.length c0_3] 25 (0, 0)) (bup BK191.out) hg (Kd.R_ne HO194.out BK191.out (by decide))); have n1_ := Aside0.mk (hb); have n2_ := Aside0.mk (ho); clear BK191; clear HB; clear HO194; have BK191 := n0_; have HB := n1_; have HO209 := n2_; clear n0_ n1_ n2_; clear ho hb hg hat))
    go_ret
    exact ⟨_, by first | rfl | (simp [errW_none, errW_some] <;> rfl) | (simp [*, errW_none, errW_some] <;> rfl), by exact Kd.rup HO209.out, by with_reducible repeat (first | exact HB.out | refine h4 ?_ GE191.out | apply h1 | apply h2 | apply h3)⟩
   ·rw [if_neg c25] at H
    exact absurd H (by simp)

/-! ### impl_FloatRank: function 65 -/
def impl_FloatRank.f (a0 : Nat) : Option (Int) := if ((feq a0 a0) = true) then (if (feq a0 0) = true then (some 9223372036854775808) else (if (fgt a0 0) = true then (some (Go.bits .or .u64 ((a0 : Nat) : Int) 9223372036854775808)) else (some (Go.bits .xor .u64 IntKind.u64.max ((a0 : Nat) : Int))))) else (some 18446744073709551615)
set_option maxHeartbeats 8000000 in
set_option maxRecDepth 100000 in
theorem impl_FloatRank.calls (a0 : Nat) (r : Int) (w : World) (h : impl_FloatRank.f a0 = some r) :
    Calls Try.prog 65 #[.float .f64 a0] w fun e w' => e = .returned (.int .u64 r) ∧ Drawn0 w w' := by
  have H : (if ((feq a0 a0) = true) then (if (feq a0 0) = true then (some 9223372036854775808) else (if (fgt a0 0) = true then (some (Go.bits .or .u64 ((a0 : Nat) : Int) 9223372036854775808)) else (some (Go.bits .xor .u64 IntKind.u64.max ((a0 : Nat) : Int))))) else (some 18446744073709551615)) = some r := h
  clear h
  by_cases c2 : ((feq a0 a0) = true)
  · rw [if_pos c2] at H
    have c2b0 : (feq a0 a0) = true := c2
    clear c2
    by_cases c3 : (feq a0 0) = true
    · rw [if_pos c3] at H
      have c3b0 : (feq a0 0) = true := c3
      clear c3
      obtain rfl := Option.some.inj H
      go_enter Try.func65, Try.ntmps65
      go_wp2
      go_ret
      exact ⟨by first | rfl | (simp; done) | (simp [*]; done), by repeat (first | exact Drawn0.refl _ | apply Drawn0.step)⟩
    · rw [if_neg c3] at H
      have c3b0 : (feq a0 0) = false := by simpa using c3
      clear c3
      by_cases c4 : (fgt a0 0) = true
      · rw [if_pos c4] at H
        have c4b0 : (fgt a0 0) = true := c4
        clear c4
        obtain rfl := Option.some.inj H
        go_enter Try.func65, Try.ntmps65
        go_wp2
        go_ret
        exact ⟨by first | rfl | (simp; done) | (simp [*]; done), by repeat (first | exact Drawn0.refl _ | apply Drawn0.step)⟩
      · rw [if_neg c4] at H
        have c4b0 : (fgt a0 0) = false := by simpa using c4
        clear c4
        obtain rfl := Option.some.inj H
        go_enter Try.func65, Try.ntmps65
        go_wp2
        go_ret
        exact ⟨by first | rfl | (simp; done) | (simp [*]; done), by repeat (first | exact Drawn0.refl _ | apply Drawn0.step)⟩
  · rw [if_neg c2] at H
    have c2b0 : (feq a0 a0) = false := by simpa using c2
    clear c2
    obtain rfl := Option.some.inj H
    go_enter Try.func65, Try.ntmps65
    go_wp2
    go_ret
    exact ⟨by first | rfl | (simp; done) | (simp [*]; done), by repeat (first | exact Drawn0.refl _ | apply Drawn0.step)⟩
theorem impl_FloatRank.inv0 (a0 : Nat) : impl_FloatRank.f (cn a0) = impl_FloatRank.f a0 := by
  by_cases h_ : nanw a0
  · unfold impl_FloatRank.f
    first
      | (simp only [cn_zero, feq_cn_l, feq_cn_r, fls_cn_l, fls_cn_r, fgt_cn_l, fgt_cn_r, fle_cn_l, fle_cn_r, fge_cn_l, fge_cn_r]; done)
      | (simp only [cn_zero, feq_cn_l, feq_cn_r, fls_cn_l, fls_cn_r, fgt_cn_l, fgt_cn_r, fle_cn_l, fle_cn_r, fge_cn_l, fge_cn_r, feq_nan_l h_, feq_nan_l (cn_nanw h_), Bool.false_eq_true, if_false]; done)
      | (simp [feq_nan_l h_, feq_nan_l (cn_nanw h_)]; done)
  · rw [cn_num h_]


/-! ### impl_KeyBytes: function 24 -/
def impl_KeyBytes.f (k : Nat) (a0_0 : Int) (a0_1 : Int) (a0_2 : Nat) (l0_3 : List Int) : Option (List Int) := (impl_KeyOk.f a0_0 a0_1 a0_2 l0_3).bind fun t211 => (if t211 = true then ((impl_FloatRank.f a0_2).bind fun t212 => ((impl_itemBytes.f k a0_0 a0_1 a0_2 l0_3 t212).bind fun t213 => (some t213))) else (some ([] : List Int)))
theorem impl_KeyBytes.mono : ∀ a0 a1 a2 a3 k, LeO (impl_KeyBytes.f k a0 a1 a2 a3) (impl_KeyBytes.f (k + 1) a0 a1 a2 a3) := by
  intro a0 a1 a2 a3 k
  unfold impl_KeyBytes.f
  repeat' with_reducible first | exact impl_itemBytes.mono _ _ _ _ _ _ | exact LeO.refl _ | exact LeO.none _ | refine LeO.ite ?_ ?_ | refine LeO.bind ?_ (fun _ => ?_)
set_option maxHeartbeats 8000000 in
set_option maxRecDepth 100000 in
theorem impl_KeyBytes.calls (k : Nat) (a0_0 : Int) (a0_1 : Int) (a0_2 : Nat) (A0_3 : Option Addr) (c0_3 : Nat) (l0_3 : List Int) (r : List Int) (w : World) (hr0_3 : Kd.C (Kd.int .u8) w A0_3 l0_3.length l0_3) (hc0_3 : l0_3.length ≤ c0_3) (h : impl_KeyBytes.f k a0_0 a0_1 a0_2 l0_3 = some r) :
    Calls Try.prog 24 #[.agg #[.int .i64 a0_0, .int .i64 a0_1, .float .f64 a0_2, .slice A0_3 l0_3.length c0_3]] w fun e w' => ∃ v0_ : Value, e = .returned (v0_) ∧ Kd.R (Kd.int .u8) 5 w' w.heap.size (fun _ => True) v0_ r ∧ Below w.heap.size w w' := by
  have hu25 := Try.underlying25
  have HR0_3 := Aside0.mk hr0_3
  have HC0_3 := Aside0.mk hc0_3
  clear hr0_3 hc0_3
  have HB := Aside0.mk (Below.refl w.heap.size w)
  have H : ((impl_KeyOk.f a0_0 a0_1 a0_2 l0_3).bind fun t211 => (if t211 = true then ((impl_FloatRank.f a0_2).bind fun t212 => ((impl_itemBytes.f k a0_0 a0_1 a0_2 l0_3 t212).bind fun t213 => (some t213))) else (some ([] : List Int)))) = some r := h
  clear h
  replace H := Option.bind_eq_some_iff.mp H
  obtain ⟨t211, A20, H⟩ := H
  replace H : (if t211 = true then ((impl_FloatRank.f a0_2).bind fun t212 => ((impl_itemBytes.f k a0_0 a0_1 a0_2 l0_3 t212).bind fun t213 => (some t213))) else (some ([] : List Int))) = some r := H
  have A2 := Aside0.mk A20
  clear A20
  by_cases c3 : t211 = true
  · subst c3
    have H1 : ((impl_FloatRank.f a0_2).bind fun t212 => ((impl_itemBytes.f k a0_0 a0_1 a0_2 l0_3 t212).bind fun t213 => (some t213))) = some r := by rw [if_pos rfl] at H; exact H
    clear H
    have H := H1
    clear H1
    replace H := Option.bind_eq_some_iff.mp H
    obtain ⟨t212, A40, H⟩ := H
    replace H : ((impl_itemBytes.f k a0_0 a0_1 a0_2 l0_3 t212).bind fun t213 => (some t213)) = some r := H
    have A4 := Aside0.mk A40
    clear A40
    replace H := Option.bind_eq_some_iff.mp H
    obtain ⟨t213, A50, H⟩ := H
    replace H : (some t213) = some r := H
    have A5 := Aside0.mk A50
    clear A50
    obtain rfl := Option.some.inj H
    go_enter Try.func24, Try.ntmps24
    try go_wp2_with (first | ((with_reducible refine gate_dst (N := 1) rfl ?_); refine box_event ?hg (N := 1) ?hd (cs := #[.int .i64 a0_0, .int .i64 a0_1, .float .f64 a0_2, .slice A0_3 l0_3.length c0_3]) (t := 25) ?hr ?_; (case hd => rfl); (case hg => rfl); (case hr => first | (go_simp; done) | (go_simp; rfl)); intro gb210 hg w6 hbox hb; have n0_ := Aside0.mk (below_step (hup HB.out) hb); have n1_ := Aside0.mk (hbox); have n2_ := Aside0.mk ((by rw [hg]; exact (below_size (hup HB.out)) : w.heap.size ≤ gb210)); have n3_ := Aside0.mk ((by rw [hg]; exact (below_size (hup HB.out)) : w.heap.size ≤ gb210)); clear HB; have HB := n0_; have BK210 := n1_; have GW210 := n2_; have GE210 := n3_; clear n0_ n1_ n2_ n3_; clear hb hbox hg; obtain ⟨hcz7_0, hcz7_1, hcz7_2, hcz7_3⟩ := blk_cells4 BK210.out; obtain ⟨hfz7_0, hfz7_1, hfz7_2, hfz7_3⟩ := blk_frozens4 BK210.out) | ((with_reducible refine gate_callee (f := 23) rfl ?_); refine goesL_ (some 4) rfl rfl Try.func23 (by kernel_rfl) rfl #[.agg #[.int .i64 a0_0, .int .i64 a0_1, .float .f64 a0_2, .slice A0_3 l0_3.length c0_3]] rfl (by (try simp only [List.map_toArray, List.map_cons, List.map_nil]); first | done | rfl) ?_; (with_reducible refine (impl_KeyOk.calls a0_0 a0_1 a0_2 _ _ l0_3 true _ ?side1 ?side2 A2.out).mono ?_); (case side1 => repeat (first | exact (Kd.C_below HR0_3.out HB.out) | (with_reducible refine Kd.C_alloc ?_ _) | (with_reducible refine Kd.C_drewN ?_ _) | (with_reducible refine Kd.C_drew ?_))); (case side2 => exact HC0_3.out); rintro e w8 ⟨rfl, hb⟩; refine ⟨_, rfl, ?_⟩; have n0_ := Aside0.mk (blk_below (g := gb210) (o := .cells #[.int .i64 a0_0, .int .i64 a0_1, .float .f64 a0_2, .slice A0_3 l0_3.length c0_3] 25 (0, 0)) (bup BK210.out) hb); have n1_ := Aside0.mk (below_step (by with_reducible repeat (first | exact HB.out | refine h4 ?_ GE210.out | apply h1 | apply h2 | apply h3)) hb); clear BK210; clear HB; have BK210 := n0_; have HB := n1_; clear n0_ n1_; (try clear hb); (try clear hb2); (try clear hk); (try clear hi)))
    have n0_ := Aside0.mk (blk_drew BK210.out)
    have n1_ := Aside0.mk (below_drew1 HB.out)
    clear BK210
    clear HB
    have BK210 := n0_
    have HB := n1_
    clear n0_ n1_
    refine start_ (n := 6) (S := fun w' => w'.cell? ⟨gb210, 0, none⟩ = some (.int .i64 a0_0) ∧ w'.cell? ⟨gb210, 1, none⟩ = some (.int .i64 a0_1) ∧ w'.cell? ⟨gb210, 2, none⟩ = some (.float .f64 a0_2) ∧ w'.cell? ⟨gb210, 3, none⟩ = some (.slice A0_3 l0_3.length c0_3)) (ds := []) #[false, false, false, false, false, false] (by kernel_rfl) rfl rfl (blk_cells4 BK210.out) (fun hHeld => ?_)
    generalize w8.drew = w9 at BK210 HB hHeld ⊢
    refine pure_ (i := 1) (N := some 7) (v := ?_) (a' := ?_) #[false, true, false, false, false, false] rfl rfl (by kernel_rfl) (fun _ _ _ h => h) (Or.inl ⟨by rfl, ?_⟩) ?_ ?_
    rotate_left
    · intro w'
      go_simp
      with_reducible rfl
    rotate_left
    · simp only [Act.put, List.setIfInBounds_toArray, List.set_cons_zero, List.set_cons_succ, i64_w, i32_w]
      rfl
    refine take_ (i := 0) (N := some 6) (v := ?_) (a' := ?_) #[true, true, false, false, false, false] rfl rfl (by kernel_rfl) (fun _ _ _ h => h) (Or.inl ⟨by rfl, ?_⟩) hHeld ?_ ?_
    rotate_left
    · rintro w' ⟨s0, s1, s2, s3⟩
      go_simp
      with_reducible rfl
    rotate_left
    · simp only [Act.put, List.setIfInBounds_toArray, List.set_cons_zero, List.set_cons_succ, i64_w, i32_w]
      rfl
    refine take_ (i := 2) (N := some 8) (v := ?_) (a' := ?_) #[true, true, true, false, false, false] rfl rfl (by kernel_rfl) (fun _ _ _ h => h) (Or.inl ⟨by rfl, ?_⟩) hHeld ?_ ?_
    rotate_left
    · rintro w' ⟨s0, s1, s2, s3⟩
      go_simp
      with_reducible rfl
    rotate_left
    · simp only [Act.put, List.setIfInBounds_toArray, List.set_cons_zero, List.set_cons_succ, i64_w, i32_w]
      rfl
    refine one_ (i := 3) (N := some 9) #[true, true, true, true, false, false] rfl rfl (by kernel_rfl) (by decide) (fun K hK => ?_)
    refine goes_ Try.func65 (by kernel_rfl) rfl #[.float .f64 a0_2] (by rfl) rfl rfl (by (try simp only [List.map_toArray, List.map_cons, List.map_nil]); first | done | rfl) ?_
    with_reducible refine (impl_FloatRank.calls a0_2 t212 _ A4.out).mono ?_
    rintro e w' ⟨rfl, ⟨nd, rfl⟩⟩
    refine ⟨_, rfl, ?_⟩
    refine hK.out _ _ (blk_cells4 BK210.out) (fun hHeld => ?_)
    clear hK K
    refine norm_ (a' := ?_) ?_ ?_
    rotate_left
    · show Act.put _ (some 9) _ = _
      simp only [Act.put, List.setIfInBounds_toArray, List.set_cons_zero, List.set_cons_succ, i64_w, i32_w]
      rfl
    refine one_ (i := 4) (N := some 10) #[true, true, true, true, true, false] rfl rfl (by kernel_rfl) (by decide) (fun K hK => ?_)
    refine goes_ Try.func64 (by kernel_rfl) rfl #[.agg #[.int .i64 a0_0, .int .i64 a0_1, .float .f64 a0_2, .slice A0_3 l0_3.length c0_3], .int .u64 t212] (by rfl) rfl rfl (by (try simp only [List.map_toArray, List.map_cons, List.map_nil]); first | done | rfl) ?_
    with_reducible refine (impl_itemBytes.calls k a0_0 a0_1 a0_2 _ _ l0_3 t212 t213 _ ?side1 ?side2 A5.out).mono ?_
    (case side1 => repeat (first | exact (Kd.C_below HR0_3.out (by with_reducible repeat (first | exact HB.out | refine h4 ?_ GE210.out | apply h1 | apply h2 | apply h3))) | (with_reducible refine Kd.C_alloc ?_ _) | (with_reducible refine Kd.C_drewN ?_ _) | (with_reducible refine Kd.C_drew ?_)))
    (case side2 => exact HC0_3.out)
    rintro e w10 ⟨v214, rfl, ho0, hb⟩
    refine ⟨_, rfl, ?_⟩
    have n0_ := Aside0.mk (Kd.R_lower ho0 (below_size (by with_reducible repeat (first | exact HB.out | refine h4 ?_ GE210.out | apply h1 | apply h2 | apply h3))))
    have n1_ := Aside0.mk (blk_below (g := gb210) (o := .cells #[.int .i64 a0_0, .int .i64 a0_1, .float .f64 a0_2, .slice A0_3 l0_3.length c0_3] 25 (0, 0)) (bup BK210.out) hb)
    have n2_ := Aside0.mk (below_step (by with_reducible repeat (first | exact HB.out | refine h4 ?_ GE210.out | apply h1 | apply h2 | apply h3)) hb)
    clear BK210
    clear HB
    have HO215 := n0_
    have BK210 := n1_
    have HB := n2_
    clear n0_ n1_ n2_
    (try clear hb)
    (try clear hb2)
    (try clear hk)
    (try clear hi)
    (try clear ho0)
    refine hK.out _ _ (blk_cells4 BK210.out) (fun hHeld => ?_)
    clear hK K
    refine norm_ (a' := ?_) ?_ ?_
    rotate_left
    · show Act.put _ (some 10) _ = _
      simp only [Act.put, List.setIfInBounds_toArray, List.set_cons_zero, List.set_cons_succ, i64_w, i32_w]
      rfl
    refine pure_ (i := 5) (N := some 2) (v := ?_) (a' := ?_) #[true, true, true, true, true, true] rfl rfl (by kernel_rfl) (fun _ _ _ h => h) (Or.inl ⟨by rfl, ?_⟩) ?_ ?_
    rotate_left
    · intro w'
      go_simp
      with_reducible rfl
    rotate_left
    · simp only [Act.put, List.setIfInBounds_toArray, List.set_cons_zero, List.set_cons_succ, i64_w, i32_w]
      rfl
    refine done_ (by kernel_rfl) ?_
    try go_wp2
    go_ret
    exact ⟨_, by first | rfl | (simp [errW_none, errW_some] <;> rfl) | (simp [*, errW_none, errW_some] <;> rfl), by exact Kd.rup HO215.out, by with_reducible repeat (first | exact HB.out | refine h4 ?_ GE210.out | apply h1 | apply h2 | apply h3)⟩
  · replace c3 := Bool.eq_false_iff.mpr c3
    subst c3
    have H1 : (some ([] : List Int)) = some r := by rw [if_neg (show ¬ (false = true) by decide)] at H; exact H
    clear H
    have H := H1
    clear H1
    obtain rfl := Option.some.inj H
    go_enter Try.func24, Try.ntmps24
    go_wp2_with (first | ((with_reducible refine gate_dst (N := 1) rfl ?_); refine box_event ?hg (N := 1) ?hd (cs := #[.int .i64 a0_0, .int .i64 a0_1, .float .f64 a0_2, .slice A0_3 l0_3.length c0_3]) (t := 25) ?hr ?_; (case hd => rfl); (case hg => rfl); (case hr => first | (go_simp; done) | (go_simp; rfl)); intro gb210 hg w11 hbox hb; have n0_ := Aside0.mk (below_step (hup HB.out) hb); have n1_ := Aside0.mk (hbox); have n2_ := Aside0.mk ((by rw [hg]; exact (below_size (hup HB.out)) : w.heap.size ≤ gb210)); have n3_ := Aside0.mk ((by rw [hg]; exact (below_size (hup HB.out)) : w.heap.size ≤ gb210)); clear HB; have HB := n0_; have BK210 := n1_; have GW210 := n2_; have GE210 := n3_; clear n0_ n1_ n2_ n3_; clear hb hbox hg; obtain ⟨hcz12_0, hcz12_1, hcz12_2, hcz12_3⟩ := blk_cells4 BK210.out; obtain ⟨hfz12_0, hfz12_1, hfz12_2, hfz12_3⟩ := blk_frozens4 BK210.out) | ((with_reducible refine gate_callee (f := 23) rfl ?_); refine goesL_ (some 4) rfl rfl Try.func23 (by kernel_rfl) rfl #[.agg #[.int .i64 a0_0, .int .i64 a0_1, .float .f64 a0_2, .slice A0_3 l0_3.length c0_3]] rfl (by (try simp only [List.map_toArray, List.map_cons, List.map_nil]); first | done | rfl) ?_; (with_reducible refine (impl_KeyOk.calls a0_0 a0_1 a0_2 _ _ l0_3 false _ ?side1 ?side2 A2.out).mono ?_); (case side1 => repeat (first | exact (Kd.C_below HR0_3.out HB.out) | (with_reducible refine Kd.C_alloc ?_ _) | (with_reducible refine Kd.C_drewN ?_ _) | (with_reducible refine Kd.C_drew ?_))); (case side2 => exact HC0_3.out); rintro e w13 ⟨rfl, hb⟩; refine ⟨_, rfl, ?_⟩; have n0_ := Aside0.mk (blk_below (g := gb210) (o := .cells #[.int .i64 a0_0, .int .i64 a0_1, .float .f64 a0_2, .slice A0_3 l0_3.length c0_3] 25 (0, 0)) (bup BK210.out) hb); have n1_ := Aside0.mk (below_step (by with_reducible repeat (first | exact HB.out | refine h4 ?_ GE210.out | apply h1 | apply h2 | apply h3)) hb); clear BK210; clear HB; have BK210 := n0_; have HB := n1_; clear n0_ n1_; (try clear hb); (try clear hb2); (try clear hk); (try clear hi)))
    go_ret
    exact ⟨_, by first | rfl | (simp [errW_none, errW_some] <;> rfl) | (simp [*, errW_none, errW_some] <;> rfl), by first | exact Kd.R_nil _ _ _ _ _ | exact Kd.N_nil _ _ _ _ _ | exact Kd.V_nil _ _ _ _ _ | exact Kd.Q_nil _ _ _ _ _ | exact Kd.S_nil _ _ _ _ _, by with_reducible repeat (first | exact HB.out | refine h4 ?_ GE210.out | apply h1 | apply h2 | apply h3)⟩

-- NOT PRINTED: function 84 (math_Float64frombits)

/-! ### impl_FloatOf: function 49 -/
def impl_FloatOf.f (a0 : Int) : Option (Nat) := some ((a0 : Int).toNat)
set_option maxHeartbeats 8000000 in
set_option maxRecDepth 100000 in
theorem impl_FloatOf.calls (a0 : Int) (r : Nat) (w : World) (h : impl_FloatOf.f a0 = some r) :
    Calls Try.prog 49 #[.int .u64 a0] w fun e w' => e = .returned (.float .f64 r) ∧ Drawn0 w w' := by
  have H : (some ((a0 : Int).toNat)) = some r := h
  clear h
  obtain rfl := Option.some.inj H
  go_enter Try.func49, Try.ntmps49
  go_wp2
  go_ret
  exact ⟨by first | rfl | (simp; done) | (simp [*]; done), by repeat (first | exact Drawn0.refl _ | apply Drawn0.step)⟩

/-! ### math_NaN: function 86 -/
def math_NaN.f  : Option (Nat) := some ((9221120237041090561 : Int).toNat)
set_option maxHeartbeats 8000000 in
set_option maxRecDepth 100000 in
theorem math_NaN.calls  (r : Nat) (w : World) (h : math_NaN.f  = some r) :
    Calls Try.prog 86 #[] w fun e w' => e = .returned (.float .f64 r) ∧ Drawn0 w w' := by
  have H : (some ((9221120237041090561 : Int).toNat)) = some r := h
  clear h
  obtain rfl := Option.some.inj H
  go_enter Try.func86, Try.ntmps86
  go_wp2
  go_ret
  exact ⟨by first | rfl | (simp; done) | (simp [*]; done), by repeat (first | exact Drawn0.refl _ | apply Drawn0.step)⟩

/-! ### impl_FloatUnrank: function 56 -/
def impl_FloatUnrank.j0 : Nat → Int → Int → Option (Nat × Bool)
  | 0, _, _ => none
  | k + 1, x0, x4 => if x0 = 18446744073709551615 then ((math_NaN.f).bind fun t216 => (some (t216, true))) else (if ((feq ((x4 : Int).toNat) ((x4 : Int).toNat)) = true) then ((impl_FloatRank.f ((x4 : Int).toNat)).bind fun t217 => (if t217 = x0 then (some ((x4 : Int).toNat, true)) else (some (0, false)))) else (some (0, false)))
def impl_FloatUnrank.f (k : Nat) (a0 : Int) : Option (Nat × Bool) := if a0 < 9223372036854775808 then (impl_FloatUnrank.j0 k a0 (Go.bits .xor .u64 IntKind.u64.max a0)) else (impl_FloatUnrank.j0 k a0 (Go.bits .andNot .u64 a0 9223372036854775808))
theorem impl_FloatUnrank.mono_l : ∀ k, (∀ y0 y1, LeO (impl_FloatUnrank.j0 k y0 y1) (impl_FloatUnrank.j0 (k + 1) y0 y1))
  | 0 => fun _ _ r h => by simp [impl_FloatUnrank.j0] at h
  | k + 1 => by
    have ih0 := impl_FloatUnrank.mono_l k
    · intro y0 y1
      unfold impl_FloatUnrank.j0
      repeat' with_reducible first | exact ih0 _ _ | exact LeO.refl _ | exact LeO.none _ | refine LeO.ite ?_ ?_ | refine LeO.bind ?_ (fun _ => ?_)
theorem impl_FloatUnrank.mono : ∀ a0 k, LeO (impl_FloatUnrank.f k a0) (impl_FloatUnrank.f (k + 1) a0) := by
  intro a0 k
  have ih0 := impl_FloatUnrank.mono_l k
  unfold impl_FloatUnrank.f
  repeat' with_reducible first | exact ih0 _ _ | exact LeO.refl _ | exact LeO.none _ | refine LeO.ite ?_ ?_ | refine LeO.bind ?_ (fun _ => ?_)
set_option maxHeartbeats 8000000 in
set_option maxRecDepth 100000 in
theorem impl_FloatUnrank.calls (k : Nat) (a0 : Int) (r1 : Nat) (r2 : Bool) (w : World) (h : impl_FloatUnrank.f k a0 = some (r1, r2)) :
    Calls Try.prog 56 #[.int .u64 a0] w fun e w' => e = .returned (.tuple #[.float .f64 r1, .bool r2]) ∧ Drawn0 w w' := by
  have H : (if a0 < 9223372036854775808 then (impl_FloatUnrank.j0 k a0 (Go.bits .xor .u64 IntKind.u64.max a0)) else (impl_FloatUnrank.j0 k a0 (Go.bits .andNot .u64 a0 9223372036854775808))) = some (r1, r2) := h
  clear h
  have HC2 := Aside0.mk H
  clear H
  go_enter Try.func56, Try.ntmps56
  go_upto_if 9 with (fail)
  go_cut [4] (fun v4 wc => ∃ (kq : Nat) (x4_1 : Int), v4 = .int .u64 x4_1 ∧ Aside0 (impl_FloatUnrank.j0 kq a0 x4_1 = some (r1, r2)) ∧ Aside0 (kq ≤ k) ∧ Drawn0 w wc)
  case first =>
    have H := HC2.out
    clear HC2
    by_cases c3 : a0 < 9223372036854775808
    · rw [if_pos c3] at H
      have c3b0 : decide (a0 < 9223372036854775808) = true := decide_eq_true c3
      clear c3
      (first | rw [c3b0] | (simp only [i64_w, i32_w]; rw [c3b0]) | skip)
      have H' := Aside0.mk H
      clear H
      go_wp2
      go_meet
      case rel => exact ⟨_, (Go.bits .xor .u64 IntKind.u64.max a0), (by first | rfl | (simp; done) | (simp [*]; done)), H', ⟨by first | omega | exact Nat.le_refl _⟩, by repeat (first | exact Drawn0.refl _ | apply Drawn0.step)⟩
    · rw [if_neg c3] at H
      have c3b0 : decide (a0 < 9223372036854775808) = false := decide_eq_false c3
      clear c3
      (first | rw [c3b0] | (simp only [i64_w, i32_w]; rw [c3b0]) | skip)
      have H' := Aside0.mk H
      clear H
      go_wp2
      go_meet
      case rel => exact ⟨_, (Go.bits .andNot .u64 a0 9223372036854775808), (by first | rfl | (simp; done) | (simp [*]; done)), H', ⟨by first | omega | exact Nat.le_refl _⟩, by repeat (first | exact Drawn0.refl _ | apply Drawn0.step)⟩
  case rest =>
    clear HC2
    try clear p2
    try clear c3
    try clear c3b0
    obtain ⟨kq, x4_1, rfl, HA, HJ1, ⟨mc1, rfl⟩⟩ := hcut
    cases kq with
    | zero => exact absurd HA.out (by simp [impl_FloatUnrank.j0])
    | succ kj1 =>
      have H := HA.out
      clear HA
      simp only [impl_FloatUnrank.j0] at H
      by_cases c4 : a0 = 18446744073709551615
      · rw [if_pos c4] at H
        have c4b0 : (a0 == 18446744073709551615) = true := beq_iff_eq.mpr c4
        have c4b1 : (a0 != 18446744073709551615) = false := bne_eq_false_iff_eq.mpr c4
        clear c4
        replace H := Option.bind_eq_some_iff.mp H
        obtain ⟨t216, A50, H⟩ := H
        replace H : (some (t216, true)) = some (r1, r2) := H
        have A5 := Aside0.mk A50
        clear A50
        simp only [Option.some.injEq, Prod.mk.injEq] at H
        obtain ⟨rfl, rfl⟩ := H
        go_wp2_with (first | ((with_reducible refine gate_callee (f := 86) rfl ?_); refine goesL_ (some 17) rfl rfl Try.func86 (by kernel_rfl) rfl #[] rfl (by (try simp only [List.map_toArray, List.map_cons, List.map_nil]); first | done | rfl) ?_; (with_reducible refine (math_NaN.calls  t216 _ A5.out).mono ?_); rintro e w' ⟨rfl, ⟨nd, rfl⟩⟩; refine ⟨_, rfl, ?_⟩))
        go_ret2
        exact ⟨by first | rfl | (simp; done) | (simp [*]; done), by repeat (first | exact Drawn0.refl _ | apply Drawn0.step)⟩
      · rw [if_neg c4] at H
        have c4b0 : (a0 == 18446744073709551615) = false := beq_eq_false_iff_ne.mpr c4
        have c4b1 : (a0 != 18446744073709551615) = true := bne_iff_ne.mpr c4
        by_cases c6 : ((feq ((x4_1 : Int).toNat) ((x4_1 : Int).toNat)) = true)
        · rw [if_pos c6] at H
          have c6b0 : (feq ((x4_1 : Int).toNat) ((x4_1 : Int).toNat)) = true := c6
          clear c6
          replace H := Option.bind_eq_some_iff.mp H
          obtain ⟨t217, A70, H⟩ := H
          replace H : (if t217 = a0 then (some ((x4_1 : Int).toNat, true)) else (some (0, false))) = some (r1, r2) := H
          have A7 := Aside0.mk A70
          clear A70
          by_cases c8 : t217 = a0
          · rw [if_pos c8] at H
            have c8b0 : (t217 == a0) = true := beq_iff_eq.mpr c8
            have c8b1 : (t217 != a0) = false := bne_eq_false_iff_eq.mpr c8
            clear c8
            simp only [Option.some.injEq, Prod.mk.injEq] at H
            obtain ⟨rfl, rfl⟩ := H
            go_wp2_with (first | (go_at_call 65; (with_reducible refine (impl_FloatRank.calls ((x4_1 : Int).toNat) t217 _ A7.out).mono ?_); rintro e w' ⟨rfl, ⟨nd, rfl⟩⟩))
            go_ret2
            exact ⟨by first | rfl | (simp; done) | (simp [*]; done), by repeat (first | exact Drawn0.refl _ | apply Drawn0.step)⟩
          · rw [if_neg c8] at H
            have c8b0 : (t217 == a0) = false := beq_eq_false_iff_ne.mpr c8
            have c8b1 : (t217 != a0) = true := bne_iff_ne.mpr c8
            simp only [Option.some.injEq, Prod.mk.injEq] at H
            obtain ⟨rfl, rfl⟩ := H
            go_wp2_with (first | (go_at_call 65; (with_reducible refine (impl_FloatRank.calls ((x4_1 : Int).toNat) t217 _ A7.out).mono ?_); rintro e w' ⟨rfl, ⟨nd, rfl⟩⟩))
            go_ret2
            exact ⟨by first | rfl | (simp; done) | (simp [*]; done), by repeat (first | exact Drawn0.refl _ | apply Drawn0.step)⟩
        · rw [if_neg c6] at H
          have c6b0 : (feq ((x4_1 : Int).toNat) ((x4_1 : Int).toNat)) = false := by simpa using c6
          clear c6
          simp only [Option.some.injEq, Prod.mk.injEq] at H
          obtain ⟨rfl, rfl⟩ := H
          go_wp2
          go_ret2
          exact ⟨by first | rfl | (simp; done) | (simp [*]; done), by repeat (first | exact Drawn0.refl _ | apply Drawn0.step)⟩

/-! ### impl_KeyRead_1: function 55 -/
def impl_KeyRead_1.f (k : Nat) (a0 : Int) : Option (Nat) := (impl_FloatUnrank.f k a0).bind fun bt218 => (some bt218.1)
theorem impl_KeyRead_1.mono : ∀ a0 k, LeO (impl_KeyRead_1.f k a0) (impl_KeyRead_1.f (k + 1) a0) := by
  intro a0 k
  unfold impl_KeyRead_1.f
  repeat' with_reducible first | exact impl_FloatUnrank.mono _ _ | exact LeO.refl _ | exact LeO.none _ | refine LeO.ite ?_ ?_ | refine LeO.bind ?_ (fun _ => ?_)
set_option maxHeartbeats 8000000 in
set_option maxRecDepth 100000 in
theorem impl_KeyRead_1.calls (k : Nat) (a0 : Int) (r : Nat) (w : World) (h : impl_KeyRead_1.f k a0 = some r) :
    Calls Try.prog 55 #[.int .u64 a0] w fun e w' => e = .returned (.float .f64 r) ∧ Drawn0 w w' := by
  have H : ((impl_FloatUnrank.f k a0).bind fun bt218 => (some bt218.1)) = some r := h
  clear h
  replace H := Option.bind_eq_some_iff.mp H
  obtain ⟨⟨t218, t219⟩, A20, H⟩ := H
  replace H : (some t218) = some r := H
  have A2 := Aside0.mk A20
  clear A20
  obtain rfl := Option.some.inj H
  go_enter Try.func55, Try.ntmps55
  go_wp2_with (first | ((with_reducible refine gate_callee (f := 56) rfl ?_); refine goesL_ (some 7) rfl rfl Try.func56 (by kernel_rfl) rfl #[.int .u64 a0] rfl (by (try simp only [List.map_toArray, List.map_cons, List.map_nil]); first | done | rfl) ?_; (with_reducible refine (impl_FloatUnrank.calls k a0 t218 t219 _ A2.out).mono ?_); rintro e w' ⟨rfl, ⟨nd, rfl⟩⟩; refine ⟨_, rfl, ?_⟩))
  go_ret
  exact ⟨by first | rfl | (simp; done) | (simp [*]; done), by repeat (first | exact Drawn0.refl _ | apply Drawn0.step)⟩

/-! ### slices_Clone_byte_byte: function 82 -/
def slices_Clone_byte_byte.f (l0 : List Int) : Option (List Int) := (some (([] : List Int) : List Int)).bind fun y220 => (if y220.length + l0.length < 140737488355328 then (some (y220 ++ l0)) else (none))
set_option maxHeartbeats 8000000 in
set_option maxRecDepth 100000 in
theorem slices_Clone_byte_byte.calls (A0 : Option Addr) (c0 : Nat) (l0 : List Int) (r : List Int) (w : World) (hr0 : Kd.C (Kd.int .u8) w A0 l0.length l0) (hc0 : l0.length ≤ c0) (h : slices_Clone_byte_byte.f l0 = some r) :
    Calls Try.prog 82 #[.slice A0 l0.length c0] w fun e w' => ∃ v0_ : Value, e = .returned (v0_) ∧ Kd.R (Kd.int .u8) 5 w' w.heap.size (fun _ => True) v0_ r ∧ Below w.heap.size w w' := by
  rcases A0 with _ | ad0
  · have hl0 : l0 = [] := by
      rcases Nat.eq_zero_or_pos l0.length with hz | hz
      · exact List.eq_nil_of_length_eq_zero hz
      · obtain ⟨ad, e, _⟩ := hr0.2.2 hz
        cases e
    subst hl0
    have hr : r = [] := by simpa [slices_Clone_byte_byte.f] using h.symm
    subst hr
    have hq := fun (w : World) (a : Option Addr) (n c : Nat) => Lib.run_eql_slice_nil (P := Try.prog) w 22 5 a n c 0 0 Try.underlying22
    go_enter Try.func82, Try.ntmps82
    go_wp2
    go_ret
    exact ⟨_, rfl, Kd.R_nil _ _ _ _ _, by repeat (first | exact Below.refl _ _ | apply h1 | apply h2 | apply h3)⟩
  · have HR0 := Aside0.mk hr0
    have HC0 := Aside0.mk hc0
    clear hr0 hc0
    have HB := Aside0.mk (Below.refl w.heap.size w)
    have H : ((some (([] : List Int) : List Int)).bind fun y220 => (if y220.length + l0.length < 140737488355328 then (some (y220 ++ l0)) else (none))) = some r := h
    clear h
    obtain ⟨y220, hy220⟩ : ∃ y_ : List Int, y_ = (([] : List Int)) := ⟨_, rfl⟩
    replace H : (if y220.length + l0.length < 140737488355328 then (some (y220 ++ l0)) else (none)) = some r := by first | (rw [hy220]; with_reducible exact H) | (have H2_ := (Option.bind_some _ _).symm.trans H; rw [hy220]; with_reducible exact H2_) | (have H2_ := (Option.bind_some _ _).symm.trans H; with_reducible exact H2_) | with_reducible exact H | (rw [hy220]; exact H) | exact H
    have Ny220 := Aside0.mk hy220
    clear hy220
    by_cases c2 : y220.length + l0.length < 140737488355328
    · rw [if_pos c2] at H
      have LMc2 := Aside0.mk c2
      clear c2
      obtain ⟨y223, hy223⟩ : ∃ y_ : List Int, y_ = (y220 ++ l0) := ⟨_, rfl⟩
      replace H : (some y223) = some r := by first | (rw [hy223]; with_reducible exact H) | (have H2_ := (Option.bind_some _ _).symm.trans H; rw [hy223]; with_reducible exact H2_) | (have H2_ := (Option.bind_some _ _).symm.trans H; with_reducible exact H2_) | with_reducible exact H | (rw [hy223]; exact H) | exact H
      have Ny223 := Aside0.mk hy223
      clear hy223
      obtain rfl := Option.some.inj H
      have hq := fun (w : World) (a : Option Addr) (n c : Nat) => Lib.run_eql_slice_nil (P := Try.prog) w 22 5 a n c 0 0 Try.underlying22
      go_enter Try.func82, Try.ntmps82
      go_wp2_with (first | ((with_reducible refine gate_dst (N := 5) rfl ?_); refine Kd.R_lit (Kd.int .u8) _ 5 ?hg (N := 5) ?hd (xs := ([] : List Int)) (inner := []) (ok := fun _ => True) (okp := fun _ => True) ?hr ?hp (fun _ hk => hk) trivial (Below.refl _ _) (Nat.le_refl _) (by simp) ?_; (case hd => rfl); (case hg => rfl); (case hr => first | (go_simp; done) | (go_simp; rfl)); (case hp => exact (Reps.none _ _)); intro v221 w3 ho4 hb hg_ hnew_; clear hg_ hnew_; (first | rw [← Ny220.out] at ho4 | (simp only [Int.reduceToNat] at ho4; rw [← Ny220.out] at ho4)); have n0_ := Aside0.mk (Kd.R_lower ho4 (below_size (hup HB.out))); have n1_ := Aside0.mk (below_step (hup HB.out) hb); clear HB; have HO222 := n0_; have HB := n1_; clear n0_ n1_; clear hb ho4) | ((with_reducible refine gate_builtin (b := .append) (xs := #[.tmp 5, .tmp 6]) rfl ?_); at_builtin; refine Kd.R_append_rows (Kd.int .u8) (w0 := w) w.heap.size rfl (.tmp 5) (.tmp 6) 22 5 (.int .u8 0) 1 rfl Try.underlying22 info5 rfl (by decide) (by omega) v221 y220 l0 _ _ _ (fun _ => True) (fun _ => False) rfl rfl ?aO ?aR (fun _ _ h => h) (fun _ h => h.elim) ?aF ?aB ?aS ?aL ?_; (case aR => repeat (first | exact (Kd.C_below HR0.out HB.out) | (with_reducible refine Kd.C_alloc ?_ _) | (with_reducible refine Kd.C_drewN ?_ _) | (with_reducible refine Kd.C_drew ?_))); (case aB => exact (hup HB.out)); (case aF => exact (fun _ _ => trivial)); (case aO => exact (Kd.rup HO222.out)); (case aS => exact (below_size (hup HB.out))); (case aL => have := LMc2.out; omega); intro v224 w5 ho hb hg hat; rw [← Ny223.out] at ho; have n0_ := Aside0.mk (hb); have n1_ := Aside0.mk (ho); clear HB; clear HO222; have HB := n0_; have HO225 := n1_; clear n0_ n1_; clear ho hb hg hat))
      go_ret
      exact ⟨_, by first | rfl | (simp [errW_none, errW_some] <;> rfl) | (simp [*, errW_none, errW_some] <;> rfl), by exact Kd.rup HO225.out, by with_reducible repeat (first | exact HB.out | apply h1 | apply h2 | apply h3)⟩
    · rw [if_neg c2] at H
      exact absurd H (by simp)
  
end Go.Proofs.Ytjjkhlphdbmdfaa.PFnExactKeyRead
