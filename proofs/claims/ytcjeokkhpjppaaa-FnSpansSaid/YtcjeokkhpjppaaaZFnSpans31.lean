import Derived.Test.YtcjeokkhpjppaaaZFnSpans29
import Derived.Test.YtcjeokkhpjppaaaZFnSpans30
namespace Go.Proofs.Ytcjeokkhpjppaaa.PFnSpans
open Go.RowKit Go.Proofs.YtcjeokkhpjppaaaW.PrintWords Go.Proofs.YtcjeokkhpjppaaaW.PrintLast Go.Proofs.YtcjeokkhpjppaaaW.PrintMore
attribute [local go_sem] max2_int min2_int max_two min_two max_three min_three max_four min_four   -- for this text's walks alone
attribute [local go_sem high] fl_eql fl_neq fl_lss fl_leq fl_gtr fl_geq fl_add fl_sub fl_mul fl_quo fl_neg fl_ofInt fl_toInt fl_store sub_sign ext_bits fl_nan_quo fl_nan_add fl_nan_mul fl_nan_sub
open Go.Proofs.YtcjeokkhpjppaaaW.PrintWords renaming below_alloc → h1, pw_below_drewN → h2, below_drew1 → h3, below_set → h4, blk_drewN → b1, blk_drew → b2, blk_alloc → b3
set_option linter.unusedVariables false
set_option linter.unusedSimpArgs false
def impl_ItemOk.f (a0_0 : Int) (a0_1 : Int) (a0_2 : Nat) (l0_3 : List Int) : Option (Bool) := (impl_within.f a0_0 0 3).bind fun t120 => (if t120 = true then (if a0_1 = 0 then (if ((a0_2 : Nat) : Int) = 0 then (if (l0_3.length : Int) = 0 then (some true) else (if a0_0 = 3 then (some (decide ((l0_3.length : Int) ≤ 40))) else (some false))) else (if a0_0 = 2 then (if (l0_3.length : Int) = 0 then (some true) else (if a0_0 = 3 then (some (decide ((l0_3.length : Int) ≤ 40))) else (some false))) else (some false))) else (if a0_0 = 1 then (if ((a0_2 : Nat) : Int) = 0 then (if (l0_3.length : Int) = 0 then (some true) else (if a0_0 = 3 then (some (decide ((l0_3.length : Int) ≤ 40))) else (some false))) else (if a0_0 = 2 then (if (l0_3.length : Int) = 0 then (some true) else (if a0_0 = 3 then (some (decide ((l0_3.length : Int) ≤ 40))) else (some false))) else (some false))) else (some false))) else (some false))
set_option maxHeartbeats 8000000 in
set_option maxRecDepth 100000 in
theorem impl_ItemOk.calls (a0_0 : Int) (a0_1 : Int) (a0_2 : Nat) (A0_3 : Option Addr) (c0_3 : Nat) (l0_3 : List Int) (r : Bool) (w : World) (hr0_3 : Kd.C (Kd.int .u8) w A0_3 l0_3.length l0_3) (hc0_3 : l0_3.length ≤ c0_3) (h : impl_ItemOk.f a0_0 a0_1 a0_2 l0_3 = some r) :
  Calls Try.prog 32 #[.agg #[.int .i64 a0_0, .int .i64 a0_1, .float .f64 a0_2, .slice A0_3 l0_3.length c0_3]] w fun e w' => e = .returned (.bool r) ∧ Below w.heap.size w w' := by
 have hu28 := Try.underlying28
 have HR0_3 := Aside0.mk hr0_3
 have HC0_3 := Aside0.mk hc0_3
 clear hr0_3 hc0_3
 have HB := Aside0.mk (Below.refl w.heap.size w)
 have H := h
 clear h
 unfold impl_ItemOk.f at H
 replace H := Option.bind_eq_some_iff.mp H
 obtain ⟨t120, A20, H⟩ := H
 (try dsimp only at H)
 have A2 := Aside0.mk A20
 clear A20
 go_enter Try.func32, Try.ntmps32
 repeat (first | ((with_reducible refine gate_dst (N := 1) rfl ?_); (try (refine gate_guard (by rfl) ?_; dsimp only)); refine box_event ?hg (N := 1) ?hd (cs := #[.int .i64 a0_0, .int .i64 a0_1, .float .f64 a0_2, .slice A0_3 l0_3.length c0_3]) (t := 28) ?hr ?_; (case hd => rfl); (case hg => rfl); (case hr => first | (go_simp; done) | (go_simp; rfl)); intro gb119 hg w7 hbox hb; have n0_ := Aside0.mk (below_step (hup HB.out) hb); have n1_ := Aside0.mk (hbox); have n2_ := Geq.mk ((by rw [hg]; exact (below_size (hup HB.out)) : w.heap.size ≤ gb119)); have n3_ := Geq.mk ((by rw [hg]; exact (below_size (hup HB.out)) : w.heap.size ≤ gb119)); clear HB; have HB := n0_; have BK119 := n1_; have GW119 := n2_; have GE119 := n3_; clear n0_ n1_ n2_ n3_; clear hb hbox hg; obtain ⟨hcz8_0, hcz8_1, hcz8_2, hcz8_3⟩ := blk_cells4 BK119.out; obtain ⟨hfz8_0, hfz8_1, hfz8_2, hfz8_3⟩ := blk_frozens4 BK119.out) | ((fail_if_success (with_reducible refine gate_callee (f := 47) rfl ?_)); first | go_values | go_skip | go_guarded | go_step | go_upon | go_back | (simp only [Int.not_lt, Int.not_le] at *; go_simp)))
 (with_reducible refine gate_callee (f := 47) rfl ?_); refine goesL_ (some 5) rfl rfl Try.func47 (by kernel_rfl) rfl #[.int .i64 a0_0, .int .i64 0, .int .i64 3] rfl (by (try simp only [List.map_toArray, List.map_cons, List.map_nil]); first | done | rfl) ?_; (with_reducible refine (impl_within.calls a0_0 0 3 t120 _ A2.out).mono ?_); rintro e w' ⟨rfl, ⟨nd, rfl⟩⟩; refine ⟨_, rfl, ?_⟩
 by_cases c3 : t120 = true
 ·subst c3
  rw [if_pos rfl] at H
  (try dsimp only at H)
  by_cases c4 : a0_1 = 0
  ·rw [if_pos c4] at H
   have c4b0 : (a0_1 == 0) = true := beq_iff_eq.mpr c4
   have c4b1 : (a0_1 != 0) = false := bne_eq_false_iff_eq.mpr c4
   (try simp only [c4b0, c4b1, Bool.not_true, Bool.not_false])
   clear c4
   by_cases c5 : ((a0_2 : Nat) : Int) = 0
   ·rw [if_pos c5] at H
    have c5b0 : (((a0_2 : Nat) : Int) == 0) = true := beq_iff_eq.mpr c5
    have c5b1 : (((a0_2 : Nat) : Int) != 0) = false := bne_eq_false_iff_eq.mpr c5
    (try simp only [c5b0, c5b1, Bool.not_true, Bool.not_false])
    clear c5
    by_cases c6 : (l0_3.length : Int) = 0
    ·rw [if_pos c6] at H
     have c6b0 : ((l0_3.length : Int) == 0) = true := beq_iff_eq.mpr c6
     have c6b1 : ((l0_3.length : Int) != 0) = false := bne_eq_false_iff_eq.mpr c6
     (try simp only [c6b0, c6b1, Bool.not_true, Bool.not_false])
     clear c6
     obtain rfl := Option.some.inj H
     try go_wp2
     go_ret
     exact ⟨by first | rfl | (simp [errW_none, errW_some] <;> rfl) | (simp [*, errW_none, errW_some] <;> rfl), hset HB.out⟩
    ·rw [if_neg c6] at H
     have c6b0 : ((l0_3.length : Int) == 0) = false := beq_eq_false_iff_ne.mpr c6
     have c6b1 : ((l0_3.length : Int) != 0) = true := bne_iff_ne.mpr c6
     have c6b2 : ¬ (l0_3 = []) := fun h_ => c6 (by rw [h_]; rfl)
     (try simp only [c6b0, c6b1, c6b2, Bool.not_true, Bool.not_false])
     by_cases c9 : a0_0 = 3
     ·rw [if_pos c9] at H
      have c9b0 : (a0_0 == 3) = true := beq_iff_eq.mpr c9
      have c9b1 : (a0_0 != 3) = false := bne_eq_false_iff_eq.mpr c9
      (try simp only [c9b0, c9b1, Bool.not_true, Bool.not_false])
      clear c9
      obtain rfl := Option.some.inj H
      try go_wp2
      go_ret
      exact ⟨by first | rfl | (simp [errW_none, errW_some] <;> rfl) | (simp [*, errW_none, errW_some] <;> rfl), hset HB.out⟩
     ·rw [if_neg c9] at H
      have c9b0 : (a0_0 == 3) = false := beq_eq_false_iff_ne.mpr c9
      have c9b1 : (a0_0 != 3) = true := bne_iff_ne.mpr c9
      (try simp only [c9b0, c9b1, Bool.not_true, Bool.not_false])
      obtain rfl := Option.some.inj H
      try go_wp2
      go_ret
      exact ⟨by first | rfl | (simp [errW_none, errW_some] <;> rfl) | (simp [*, errW_none, errW_some] <;> rfl), hset HB.out⟩
   ·rw [if_neg c5] at H
    have c5b0 : (((a0_2 : Nat) : Int) == 0) = false := beq_eq_false_iff_ne.mpr c5
    have c5b1 : (((a0_2 : Nat) : Int) != 0) = true := bne_iff_ne.mpr c5
    (try simp only [c5b0, c5b1, Bool.not_true, Bool.not_false])
    by_cases c14 : a0_0 = 2
    ·rw [if_pos c14] at H
     have c14b0 : (a0_0 == 2) = true := beq_iff_eq.mpr c14
     have c14b1 : (a0_0 != 2) = false := bne_eq_false_iff_eq.mpr c14
     (try simp only [c14b0, c14b1, Bool.not_true, Bool.not_false])
     clear c14
     by_cases c15 : (l0_3.length : Int) = 0
     ·rw [if_pos c15] at H
      have c15b0 : ((l0_3.length : Int) == 0) = true := beq_iff_eq.mpr c15
      have c15b1 : ((l0_3.length : Int) != 0) = false := bne_eq_false_iff_eq.mpr c15
      (try simp only [c15b0, c15b1, Bool.not_true, Bool.not_false])
      clear c15
      obtain rfl := Option.some.inj H
      try go_wp2
      go_ret
      exact ⟨by first | rfl | (simp [errW_none, errW_some] <;> rfl) | (simp [*, errW_none, errW_some] <;> rfl), hset HB.out⟩
     ·rw [if_neg c15] at H
      have c15b0 : ((l0_3.length : Int) == 0) = false := beq_eq_false_iff_ne.mpr c15
      have c15b1 : ((l0_3.length : Int) != 0) = true := bne_iff_ne.mpr c15
      have c15b2 : ¬ (l0_3 = []) := fun h_ => c15 (by rw [h_]; rfl)
      (try simp only [c15b0, c15b1, c15b2, Bool.not_true, Bool.not_false])
      by_cases c18 : a0_0 = 3
      ·rw [if_pos c18] at H
       have c18b0 : (a0_0 == 3) = true := beq_iff_eq.mpr c18
       have c18b1 : (a0_0 != 3) = false := bne_eq_false_iff_eq.mpr c18
       (try simp only [c18b0, c18b1, Bool.not_true, Bool.not_false])
       clear c18
       obtain rfl := Option.some.inj H
       try go_wp2
       go_ret
       exact ⟨by first | rfl | (simp [errW_none, errW_some] <;> rfl) | (simp [*, errW_none, errW_some] <;> rfl), hset HB.out⟩
      ·rw [if_neg c18] at H
       have c18b0 : (a0_0 == 3) = false := beq_eq_false_iff_ne.mpr c18
       have c18b1 : (a0_0 != 3) = true := bne_iff_ne.mpr c18
       (try simp only [c18b0, c18b1, Bool.not_true, Bool.not_false])
       obtain rfl := Option.some.inj H
       try go_wp2
       go_ret
       exact ⟨by first | rfl | (simp [errW_none, errW_some] <;> rfl) | (simp [*, errW_none, errW_some] <;> rfl), hset HB.out⟩
    ·rw [if_neg c14] at H
     have c14b0 : (a0_0 == 2) = false := beq_eq_false_iff_ne.mpr c14
     have c14b1 : (a0_0 != 2) = true := bne_iff_ne.mpr c14
     (try simp only [c14b0, c14b1, Bool.not_true, Bool.not_false])
     obtain rfl := Option.some.inj H
     try go_wp2
     go_ret
     exact ⟨by first | rfl | (simp [errW_none, errW_some] <;> rfl) | (simp [*, errW_none, errW_some] <;> rfl), hset HB.out⟩
  ·rw [if_neg c4] at H
   have c4b0 : (a0_1 == 0) = false := beq_eq_false_iff_ne.mpr c4
   have c4b1 : (a0_1 != 0) = true := bne_iff_ne.mpr c4
   (try simp only [c4b0, c4b1, Bool.not_true, Bool.not_false])
   by_cases c25 : a0_0 = 1
   ·rw [if_pos c25] at H
    have c25b0 : (a0_0 == 1) = true := beq_iff_eq.mpr c25
    have c25b1 : (a0_0 != 1) = false := bne_eq_false_iff_eq.mpr c25
    (try simp only [c25b0, c25b1, Bool.not_true, Bool.not_false])
    clear c25
    by_cases c26 : ((a0_2 : Nat) : Int) = 0
    ·rw [if_pos c26] at H
     have c26b0 : (((a0_2 : Nat) : Int) == 0) = true := beq_iff_eq.mpr c26
     have c26b1 : (((a0_2 : Nat) : Int) != 0) = false := bne_eq_false_iff_eq.mpr c26
     (try simp only [c26b0, c26b1, Bool.not_true, Bool.not_false])
     clear c26
     by_cases c27 : (l0_3.length : Int) = 0
     ·rw [if_pos c27] at H
      have c27b0 : ((l0_3.length : Int) == 0) = true := beq_iff_eq.mpr c27
      have c27b1 : ((l0_3.length : Int) != 0) = false := bne_eq_false_iff_eq.mpr c27
      (try simp only [c27b0, c27b1, Bool.not_true, Bool.not_false])
      clear c27
      obtain rfl := Option.some.inj H
      try go_wp2
      go_ret
      exact ⟨by first | rfl | (simp [errW_none, errW_some] <;> rfl) | (simp [*, errW_none, errW_some] <;> rfl), hset HB.out⟩
     ·rw [if_neg c27] at H
      have c27b0 : ((l0_3.length : Int) == 0) = false := beq_eq_false_iff_ne.mpr c27
      have c27b1 : ((l0_3.length : Int) != 0) = true := bne_iff_ne.mpr c27
      have c27b2 : ¬ (l0_3 = []) := fun h_ => c27 (by rw [h_]; rfl)
      (try simp only [c27b0, c27b1, c27b2, Bool.not_true, Bool.not_false])
      by_cases c30 : a0_0 = 3
      ·rw [if_pos c30] at H
       have c30b0 : (a0_0 == 3) = true := beq_iff_eq.mpr c30
       have c30b1 : (a0_0 != 3) = false := bne_eq_false_iff_eq.mpr c30
       (try simp only [c30b0, c30b1, Bool.not_true, Bool.not_false])
       clear c30
       obtain rfl := Option.some.inj H
       try go_wp2
       go_ret
       exact ⟨by first | rfl | (simp [errW_none, errW_some] <;> rfl) | (simp [*, errW_none, errW_some] <;> rfl), hset HB.out⟩
      ·rw [if_neg c30] at H
       have c30b0 : (a0_0 == 3) = false := beq_eq_false_iff_ne.mpr c30
       have c30b1 : (a0_0 != 3) = true := bne_iff_ne.mpr c30
       (try simp only [c30b0, c30b1, Bool.not_true, Bool.not_false])
       obtain rfl := Option.some.inj H
       try go_wp2
       go_ret
       exact ⟨by first | rfl | (simp [errW_none, errW_some] <;> rfl) | (simp [*, errW_none, errW_some] <;> rfl), hset HB.out⟩
    ·rw [if_neg c26] at H
     have c26b0 : (((a0_2 : Nat) : Int) == 0) = false := beq_eq_false_iff_ne.mpr c26
     have c26b1 : (((a0_2 : Nat) : Int) != 0) = true := bne_iff_ne.mpr c26
     (try simp only [c26b0, c26b1, Bool.not_true, Bool.not_false])
     by_cases c35 : a0_0 = 2
     ·rw [if_pos c35] at H
      have c35b0 : (a0_0 == 2) = true := beq_iff_eq.mpr c35
      have c35b1 : (a0_0 != 2) = false := bne_eq_false_iff_eq.mpr c35
      (try simp only [c35b0, c35b1, Bool.not_true, Bool.not_false])
      clear c35
      by_cases c36 : (l0_3.length : Int) = 0
      ·rw [if_pos c36] at H
       have c36b0 : ((l0_3.length : Int) == 0) = true := beq_iff_eq.mpr c36
       have c36b1 : ((l0_3.length : Int) != 0) = false := bne_eq_false_iff_eq.mpr c36
       (try simp only [c36b0, c36b1, Bool.not_true, Bool.not_false])
       clear c36
       obtain rfl := Option.some.inj H
       try go_wp2
       go_ret
       exact ⟨by first | rfl | (simp [errW_none, errW_some] <;> rfl) | (simp [*, errW_none, errW_some] <;> rfl), hset HB.out⟩
      ·rw [if_neg c36] at H
       have c36b0 : ((l0_3.length : Int) == 0) = false := beq_eq_false_iff_ne.mpr c36
       have c36b1 : ((l0_3.length : Int) != 0) = true := bne_iff_ne.mpr c36
       have c36b2 : ¬ (l0_3 = []) := fun h_ => c36 (by rw [h_]; rfl)
       (try simp only [c36b0, c36b1, c36b2, Bool.not_true, Bool.not_false])
       by_cases c39 : a0_0 = 3
       ·rw [if_pos c39] at H
        have c39b0 : (a0_0 == 3) = true := beq_iff_eq.mpr c39
        have c39b1 : (a0_0 != 3) = false := bne_eq_false_iff_eq.mpr c39
        (try simp only [c39b0, c39b1, Bool.not_true, Bool.not_false])
        clear c39
        obtain rfl := Option.some.inj H
        try go_wp2
        go_ret
        exact ⟨by first | rfl | (simp [errW_none, errW_some] <;> rfl) | (simp [*, errW_none, errW_some] <;> rfl), hset HB.out⟩
       ·rw [if_neg c39] at H
        have c39b0 : (a0_0 == 3) = false := beq_eq_false_iff_ne.mpr c39
        have c39b1 : (a0_0 != 3) = true := bne_iff_ne.mpr c39
        (try simp only [c39b0, c39b1, Bool.not_true, Bool.not_false])
        obtain rfl := Option.some.inj H
        try go_wp2
        go_ret
        exact ⟨by first | rfl | (simp [errW_none, errW_some] <;> rfl) | (simp [*, errW_none, errW_some] <;> rfl), hset HB.out⟩
     ·rw [if_neg c35] at H
      have c35b0 : (a0_0 == 2) = false := beq_eq_false_iff_ne.mpr c35
      have c35b1 : (a0_0 != 2) = true := bne_iff_ne.mpr c35
      (try simp only [c35b0, c35b1, Bool.not_true, Bool.not_false])
      obtain rfl := Option.some.inj H
      try go_wp2
      go_ret
      exact ⟨by first | rfl | (simp [errW_none, errW_some] <;> rfl) | (simp [*, errW_none, errW_some] <;> rfl), hset HB.out⟩
   ·rw [if_neg c25] at H
    have c25b0 : (a0_0 == 1) = false := beq_eq_false_iff_ne.mpr c25
    have c25b1 : (a0_0 != 1) = true := bne_iff_ne.mpr c25
    (try simp only [c25b0, c25b1, Bool.not_true, Bool.not_false])
    obtain rfl := Option.some.inj H
    try go_wp2
    go_ret
    exact ⟨by first | rfl | (simp [errW_none, errW_some] <;> rfl) | (simp [*, errW_none, errW_some] <;> rfl), hset HB.out⟩
 ·replace c3 := Bool.eq_false_iff.mpr c3
  subst c3
  rw [if_neg (show ¬ (false = true) by decide)] at H
  (try dsimp only at H)
  obtain rfl := Option.some.inj H
  try go_wp2
  go_ret
  exact ⟨by first | rfl | (simp [errW_none, errW_some] <;> rfl) | (simp [*, errW_none, errW_some] <;> rfl), hset HB.out⟩
theorem impl_ItemOk.inv0 (a0_0 : Int) (a0_1 : Int) (a0_2 : Nat) (l0_3 : List Int) : impl_ItemOk.f a0_0 a0_1 (cn a0_2) l0_3 = impl_ItemOk.f a0_0 a0_1 a0_2 l0_3 := by
  by_cases h_ : nanw a0_2
  · unfold impl_ItemOk.f
    first
      | (simp only [cn_zeroI, cn_zero, feq_cn_l, feq_cn_r, fls_cn_l, fls_cn_r, fgt_cn_l, fgt_cn_r, fle_cn_l, fle_cn_r, fge_cn_l, fge_cn_r]; done)
      | (simp only [cn_zeroI, cn_zero, feq_cn_l, feq_cn_r, fls_cn_l, fls_cn_r, fgt_cn_l, fgt_cn_r, fle_cn_l, fle_cn_r, fge_cn_l, fge_cn_r, feq_nan_l h_, feq_nan_l (cn_nanw h_), Bool.false_eq_true, if_false]; done)
      | (simp [feq_nan_l h_, feq_nan_l (cn_nanw h_)]; done)
  · rw [cn_num h_]
def impl_KeyOk.f (a0_0 : Int) (a0_1 : Int) (a0_2 : Nat) (l0_3 : List Int) : Option (Bool) := (impl_ItemOk.f a0_0 a0_1 a0_2 l0_3).bind fun t122 => (if t122 = true then (if a0_0 = 0 then (some false) else (if ((feq a0_2 0) = true) then (some (((a0_2 : Nat) : Int) == 0)) else (some true))) else (some false))
set_option maxHeartbeats 8000000 in
set_option maxRecDepth 100000 in
theorem impl_KeyOk.calls (a0_0 : Int) (a0_1 : Int) (a0_2 : Nat) (A0_3 : Option Addr) (c0_3 : Nat) (l0_3 : List Int) (r : Bool) (w : World) (hr0_3 : Kd.C (Kd.int .u8) w A0_3 l0_3.length l0_3) (hc0_3 : l0_3.length ≤ c0_3) (h : impl_KeyOk.f a0_0 a0_1 a0_2 l0_3 = some r) :
    Calls Try.prog 35 #[.agg #[.int .i64 a0_0, .int .i64 a0_1, .float .f64 a0_2, .slice A0_3 l0_3.length c0_3]] w fun e w' => e = .returned (.bool r) ∧ Below w.heap.size w w' := by
  have hu28 := Try.underlying28
  have HR0_3 := Aside0.mk hr0_3
  have HC0_3 := Aside0.mk hc0_3
  clear hr0_3 hc0_3
  have HB := Aside0.mk (Below.refl w.heap.size w)
  have H := h
  clear h
  unfold impl_KeyOk.f at H
  replace H := Option.bind_eq_some_iff.mp H
  obtain ⟨t122, A20, H⟩ := H
  (try dsimp only at H)
  have A2 := Aside0.mk A20
  clear A20
  go_enter Try.func35, Try.ntmps35
  repeat (first | ((with_reducible refine gate_dst (N := 1) rfl ?_); refine box_event ?hg (N := 1) ?hd (cs := #[.int .i64 a0_0, .int .i64 a0_1, .float .f64 a0_2, .slice A0_3 l0_3.length c0_3]) (t := 28) ?hr ?_; (case hd => rfl); (case hg => rfl); (case hr => first | (go_simp; done) | (go_simp; rfl)); intro gb121 hg w5 hbox hb; have n0_ := Aside0.mk (below_step (hup HB.out) hb); have n1_ := Aside0.mk (hbox); have n2_ := Geq.mk ((by rw [hg]; exact (below_size (hup HB.out)) : w.heap.size ≤ gb121)); have n3_ := Geq.mk ((by rw [hg]; exact (below_size (hup HB.out)) : w.heap.size ≤ gb121)); clear HB; have HB := n0_; have BK121 := n1_; have GW121 := n2_; have GE121 := n3_; clear n0_ n1_ n2_ n3_; clear hb hbox hg; obtain ⟨hcz6_0, hcz6_1, hcz6_2, hcz6_3⟩ := blk_cells4 BK121.out; obtain ⟨hfz6_0, hfz6_1, hfz6_2, hfz6_3⟩ := blk_frozens4 BK121.out) | ((fail_if_success (with_reducible refine gate_callee (f := 32) rfl ?_)); first | go_values | go_skip | go_guarded | go_step | go_upon | go_back | (simp only [Int.not_lt, Int.not_le] at *; go_simp)))
  (with_reducible refine gate_callee (f := 32) rfl ?_); refine goesL_ (some 4) rfl rfl Try.func32 (by kernel_rfl) rfl #[.agg #[.int .i64 a0_0, .int .i64 a0_1, .float .f64 a0_2, .slice A0_3 l0_3.length c0_3]] rfl (by (try simp only [List.map_toArray, List.map_cons, List.map_nil]); first | done | rfl) ?_; (with_reducible refine (impl_ItemOk.calls a0_0 a0_1 a0_2 _ _ l0_3 t122 _ ?side1 ?side2 A2.out).mono ?_); (case side1 => repeat (first | exact (Kd.C_below HR0_3.out HB.out) | (with_reducible refine Kd.C_alloc ?_ _) | (with_reducible refine Kd.C_drewN ?_ _) | (with_reducible refine Kd.C_drew ?_))); (case side2 => exact HC0_3.out); rintro e w7 ⟨rfl, hb⟩; refine ⟨_, rfl, ?_⟩; have n0_ := Aside0.mk (blk_below (bup BK121.out) hb); have n1_ := Aside0.mk (below_step (hset HB.out) hb); clear BK121; clear HB; have BK121 := n0_; have HB := n1_; clear n0_ n1_; (try clear hb); (try clear hb2); (try clear hk)
  by_cases c3 : t122 = true
  · subst c3
    rw [if_pos rfl] at H
    (try dsimp only at H)
    by_cases c4 : a0_0 = 0
    · rw [if_pos c4] at H
      have c4b0 : (a0_0 == 0) = true := beq_iff_eq.mpr c4
      have c4b1 : (a0_0 != 0) = false := bne_eq_false_iff_eq.mpr c4
      (try simp only [c4b0, c4b1, Bool.not_true, Bool.not_false])
      clear c4
      obtain rfl := Option.some.inj H
      (try clear hi); obtain ⟨hcz8_0, hcz8_1, hcz8_2, hcz8_3⟩ := blk_cells4 BK121.out; obtain ⟨hfz8_0, hfz8_1, hfz8_2, hfz8_3⟩ := blk_frozens4 BK121.out
      try go_wp2
      go_ret
      exact ⟨by first | rfl | (simp [errW_none, errW_some] <;> rfl) | (simp [*, errW_none, errW_some] <;> rfl), hset HB.out⟩
    · rw [if_neg c4] at H
      have c4b0 : (a0_0 == 0) = false := beq_eq_false_iff_ne.mpr c4
      have c4b1 : (a0_0 != 0) = true := bne_iff_ne.mpr c4
      (try simp only [c4b0, c4b1, Bool.not_true, Bool.not_false])
      by_cases c9 : ((feq a0_2 0) = true)
      · rw [if_pos c9] at H
        have c9b0 : (feq a0_2 0) = true := c9
        (try simp only [c9b0, Bool.not_true, Bool.not_false])
        clear c9
        obtain rfl := Option.some.inj H
        (try clear hi); obtain ⟨hcz13_0, hcz13_1, hcz13_2, hcz13_3⟩ := blk_cells4 BK121.out; obtain ⟨hfz13_0, hfz13_1, hfz13_2, hfz13_3⟩ := blk_frozens4 BK121.out
        try go_wp2
        go_ret
        exact ⟨by first | rfl | (simp [errW_none, errW_some] <;> rfl) | (simp [*, errW_none, errW_some] <;> rfl), hset HB.out⟩
      · rw [if_neg c9] at H
        have c9b0 : (feq a0_2 0) = false := by simpa using c9
        (try simp only [c9b0, Bool.not_true, Bool.not_false])
        clear c9
        obtain rfl := Option.some.inj H
        (try clear hi); obtain ⟨hcz17_0, hcz17_1, hcz17_2, hcz17_3⟩ := blk_cells4 BK121.out; obtain ⟨hfz17_0, hfz17_1, hfz17_2, hfz17_3⟩ := blk_frozens4 BK121.out
        try go_wp2
        go_ret
        exact ⟨by first | rfl | (simp [errW_none, errW_some] <;> rfl) | (simp [*, errW_none, errW_some] <;> rfl), hset HB.out⟩
  · replace c3 := Bool.eq_false_iff.mpr c3
    subst c3
    rw [if_neg (show ¬ (false = true) by decide)] at H
    (try dsimp only at H)
    obtain rfl := Option.some.inj H
    (try clear hi)
    try go_wp2
    go_ret
    exact ⟨by first | rfl | (simp [errW_none, errW_some] <;> rfl) | (simp [*, errW_none, errW_some] <;> rfl), hset HB.out⟩
theorem impl_KeyOk.inv0 (a0_0 : Int) (a0_1 : Int) (a0_2 : Nat) (l0_3 : List Int) : impl_KeyOk.f a0_0 a0_1 (cn a0_2) l0_3 = impl_KeyOk.f a0_0 a0_1 a0_2 l0_3 := by
  by_cases h_ : nanw a0_2
  · unfold impl_KeyOk.f
    first
      | (simp only [impl_ItemOk.inv0, cn_zeroI, cn_zero, feq_cn_l, feq_cn_r, fls_cn_l, fls_cn_r, fgt_cn_l, fgt_cn_r, fle_cn_l, fle_cn_r, fge_cn_l, fge_cn_r]; done)
      | (simp only [impl_ItemOk.inv0, cn_zeroI, cn_zero, feq_cn_l, feq_cn_r, fls_cn_l, fls_cn_r, fgt_cn_l, fgt_cn_r, fle_cn_l, fle_cn_r, fge_cn_l, fge_cn_r, feq_nan_l h_, feq_nan_l (cn_nanw h_), Bool.false_eq_true, if_false]; done)
      | (simp [feq_nan_l h_, feq_nan_l (cn_nanw h_)]; done)
  · rw [cn_num h_]
def impl_InSpan.f (k : Nat) (a0_0 : Int) (a0_1 : Int) (a0_2 : Nat) (l0_3 : List Int) (a1_0 : Int) (a1_1 : Int) (a1_2 : Nat) (l1_3 : List Int) (a2_0 : Int) (a2_1 : Int) (a2_2 : Nat) (l2_3 : List Int) : Option (Bool) := (impl_KeyOk.f a0_0 a0_1 a0_2 l0_3).bind fun t126 => (if t126 = true then ((impl_KeyOk.f a1_0 a1_1 a1_2 l1_3).bind fun t127 => (if t127 = true then ((impl_KeyOk.f a2_0 a2_1 a2_2 l2_3).bind fun t128 => (if t128 = true then ((impl_compareItems.f k a0_0 a0_1 a0_2 l0_3 a2_0 a2_1 a2_2 l2_3).bind fun t129 => (if t129 ≤ 0 then ((impl_compareItems.f k a2_0 a2_1 a2_2 l2_3 a1_0 a1_1 a1_2 l1_3).bind fun t130 => (some (decide (t130 ≤ 0)))) else (some false))) else (some false))) else (some false))) else (some false))
theorem impl_InSpan.mono : ∀ a0 a1 a2 a3 a4 a5 a6 a7 a8 a9 a10 a11 k, LeO (impl_InSpan.f k a0 a1 a2 a3 a4 a5 a6 a7 a8 a9 a10 a11) (impl_InSpan.f (k + 1) a0 a1 a2 a3 a4 a5 a6 a7 a8 a9 a10 a11) := by
 intro a0 a1 a2 a3 a4 a5 a6 a7 a8 a9 a10 a11 k
 unfold impl_InSpan.f
 repeat' with_reducible first | exact impl_compareItems.mono _ _ _ _ _ _ _ _ _ | exact LeO.refl _ | exact LeO.none _ | refine LeO.ite ?_ ?_ | refine LeO.bind ?_ (fun _ => ?_)
set_option maxHeartbeats 8000000 in
set_option maxRecDepth 100000 in
theorem impl_InSpan.calls (k : Nat) (a0_0 : Int) (a0_1 : Int) (a0_2 : Nat) (A0_3 : Option Addr) (c0_3 : Nat) (l0_3 : List Int) (a1_0 : Int) (a1_1 : Int) (a1_2 : Nat) (A1_3 : Option Addr) (c1_3 : Nat) (l1_3 : List Int) (a2_0 : Int) (a2_1 : Int) (a2_2 : Nat) (A2_3 : Option Addr) (c2_3 : Nat) (l2_3 : List Int) (r : Bool) (w : World) (hr0_3 : Kd.C (Kd.int .u8) w A0_3 l0_3.length l0_3) (hc0_3 : l0_3.length ≤ c0_3) (hr1_3 : Kd.C (Kd.int .u8) w A1_3 l1_3.length l1_3) (hc1_3 : l1_3.length ≤ c1_3) (hr2_3 : Kd.C (Kd.int .u8) w A2_3 l2_3.length l2_3) (hc2_3 : l2_3.length ≤ c2_3) (h : impl_InSpan.f k a0_0 a0_1 a0_2 l0_3 a1_0 a1_1 a1_2 l1_3 a2_0 a2_1 a2_2 l2_3 = some r) :
  Calls Try.prog 14 #[.agg #[.int .i64 a0_0, .int .i64 a0_1, .float .f64 a0_2, .slice A0_3 l0_3.length c0_3], .agg #[.int .i64 a1_0, .int .i64 a1_1, .float .f64 a1_2, .slice A1_3 l1_3.length c1_3], .agg #[.int .i64 a2_0, .int .i64 a2_1, .float .f64 a2_2, .slice A2_3 l2_3.length c2_3]] w fun e w' => e = .returned (.bool r) ∧ Below w.heap.size w w' := by
 have hu28 := Try.underlying28
 have HR0_3 := Aside0.mk hr0_3
 have HC0_3 := Aside0.mk hc0_3
 clear hr0_3 hc0_3
 have HR1_3 := Aside0.mk hr1_3
 have HC1_3 := Aside0.mk hc1_3
 clear hr1_3 hc1_3
 have HR2_3 := Aside0.mk hr2_3
 have HC2_3 := Aside0.mk hc2_3
 clear hr2_3 hc2_3
 have HB := Aside0.mk (Below.refl w.heap.size w)
 have H := h
 clear h
 unfold impl_InSpan.f at H
 replace H := Option.bind_eq_some_iff.mp H
 obtain ⟨t126, A40, H⟩ := H
 (try dsimp only at H)
 have A4 := Aside0.mk A40
 clear A40
 go_enter Try.func14, Try.ntmps14
 repeat (first | ((with_reducible refine gate_dst (N := 3) rfl ?_); refine box_event ?hg (N := 3) ?hd (cs := #[.int .i64 a0_0, .int .i64 a0_1, .float .f64 a0_2, .slice A0_3 l0_3.length c0_3]) (t := 28) ?hr ?_; (case hd => rfl); (case hg => rfl); (case hr => first | (go_simp; done) | (go_simp; rfl)); intro gb123 hg w13 hbox hb; have n0_ := Aside0.mk (below_step (hup HB.out) hb); have n1_ := Aside0.mk (hbox); have n2_ := Geq.mk ((by rw [hg]; exact (below_size (hup HB.out)) : w.heap.size ≤ gb123)); have n3_ := Geq.mk ((by rw [hg]; exact (below_size (hup HB.out)) : w.heap.size ≤ gb123)); clear HB; have HB := n0_; have BK123 := n1_; have GW123 := n2_; have GE123 := n3_; clear n0_ n1_ n2_ n3_; clear hb hbox hg) | ((with_reducible refine gate_dst (N := 4) rfl ?_); refine box_event ?hg (N := 4) ?hd (cs := #[.int .i64 a1_0, .int .i64 a1_1, .float .f64 a1_2, .slice A1_3 l1_3.length c1_3]) (t := 28) ?hr ?_; (case hd => rfl); (case hg => rfl); (case hr => first | (go_simp; done) | (go_simp; rfl)); intro gb124 hg w14 hbox hb; have n0_ := Aside0.mk (blk_below (bup BK123.out) hb); have n1_ := Aside0.mk (below_step (hset HB.out) hb); have n2_ := Aside0.mk (hbox); have n3_ := Geq.mk ((by rw [hg]; exact (below_size (hset HB.out)) : w.heap.size ≤ gb124)); have n4_ := Geq.mk ((by rw [hg]; exact (below_size (hset HB.out)) : w.heap.size ≤ gb124)); have n5_ := Neq.mk ((by rw [hg]; exact Nat.ne_of_lt (blk_lt (g := gb123) (o := .cells #[.int .i64 a0_0, .int .i64 a0_1, .float .f64 a0_2, .slice A0_3 l0_3.length c0_3] 28 (0, 0)) (bup BK123.out)) : gb123 ≠ gb124)); have n6_ := Neq.mk ((by rw [hg]; exact Nat.ne_of_gt (blk_lt (g := gb123) (o := .cells #[.int .i64 a0_0, .int .i64 a0_1, .float .f64 a0_2, .slice A0_3 l0_3.length c0_3] 28 (0, 0)) (bup BK123.out)) : gb124 ≠ gb123)); clear BK123; clear HB; have BK123 := n0_; have HB := n1_; have BK124 := n2_; have GW124 := n3_; have GE124 := n4_; have NB123_124 := n5_; have NB124_123 := n6_; clear n0_ n1_ n2_ n3_ n4_ n5_ n6_; clear hb hbox hg) | ((with_reducible refine gate_dst (N := 5) rfl ?_); refine box_event ?hg (N := 5) ?hd (cs := #[.int .i64 a2_0, .int .i64 a2_1, .float .f64 a2_2, .slice A2_3 l2_3.length c2_3]) (t := 28) ?hr ?_; (case hd => rfl); (case hg => rfl); (case hr => first | (go_simp; done) | (go_simp; rfl)); intro gb125 hg w15 hbox hb; have n0_ := Aside0.mk (blk_below (bup BK123.out) hb); have n1_ := Aside0.mk (blk_below (bup BK124.out) hb); have n2_ := Aside0.mk (below_step (hset HB.out) hb); have n3_ := Aside0.mk (hbox); have n4_ := Geq.mk ((by rw [hg]; exact (below_size (hset HB.out)) : w.heap.size ≤ gb125)); have n5_ := Geq.mk ((by rw [hg]; exact (below_size (hset HB.out)) : w.heap.size ≤ gb125)); have n6_ := Neq.mk ((by rw [hg]; exact Nat.ne_of_lt (blk_lt (g := gb123) (o := .cells #[.int .i64 a0_0, .int .i64 a0_1, .float .f64 a0_2, .slice A0_3 l0_3.length c0_3] 28 (0, 0)) (bup BK123.out)) : gb123 ≠ gb125)); have n7_ := Neq.mk ((by rw [hg]; exact Nat.ne_of_gt (blk_lt (g := gb123) (o := .cells #[.int .i64 a0_0, .int .i64 a0_1, .float .f64 a0_2, .slice A0_3 l0_3.length c0_3] 28 (0, 0)) (bup BK123.out)) : gb125 ≠ gb123)); have n8_ := Neq.mk ((by rw [hg]; exact Nat.ne_of_lt (blk_lt (g := gb124) (o := .cells #[.int .i64 a1_0, .int .i64 a1_1, .float .f64 a1_2, .slice A1_3 l1_3.length c1_3] 28 (0, 0)) (bup BK124.out)) : gb124 ≠ gb125)); have n9_ := Neq.mk ((by rw [hg]; exact Nat.ne_of_gt (blk_lt (g := gb124) (o := .cells #[.int .i64 a1_0, .int .i64 a1_1, .float .f64 a1_2, .slice A1_3 l1_3.length c1_3] 28 (0, 0)) (bup BK124.out)) : gb125 ≠ gb124)); clear BK123; clear BK124; clear HB; have BK123 := n0_; have BK124 := n1_; have HB := n2_; have BK125 := n3_; have GW125 := n4_; have GE125 := n5_; have NB123_125 := n6_; have NB125_123 := n7_; have NB124_125 := n8_; have NB125_124 := n9_; clear n0_ n1_ n2_ n3_ n4_ n5_ n6_ n7_ n8_ n9_; clear hb hbox hg; have hnb16 := NB123_124.out; have hnc16 := NB124_123.out; have hnb17 := NB123_125.out; have hnc17 := NB125_123.out; obtain ⟨hcz18_0, hcz18_1, hcz18_2, hcz18_3⟩ := blk_cells4 BK123.out; obtain ⟨hfz18_0, hfz18_1, hfz18_2, hfz18_3⟩ := blk_frozens4 BK123.out) | ((fail_if_success (with_reducible refine gate_callee (f := 35) rfl ?_)); first | go_values | go_skip | go_guarded | go_step | go_upon | go_back | (simp only [Int.not_lt, Int.not_le] at *; go_simp)))
 (with_reducible refine gate_callee (f := 35) rfl ?_); refine goesL_ (some 8) rfl rfl Try.func35 (by kernel_rfl) rfl #[.agg #[.int .i64 a0_0, .int .i64 a0_1, .float .f64 a0_2, .slice A0_3 l0_3.length c0_3]] rfl (by (try simp only [List.map_toArray, List.map_cons, List.map_nil]); first | done | rfl) ?_; (with_reducible refine (impl_KeyOk.calls a0_0 a0_1 a0_2 _ _ l0_3 t126 _ ?side1 ?side2 A4.out).mono ?_); (case side1 => repeat (first | exact (Kd.C_below HR0_3.out HB.out) | (with_reducible refine Kd.C_alloc ?_ _) | (with_reducible refine Kd.C_drewN ?_ _) | (with_reducible refine Kd.C_drew ?_))); (case side2 => exact HC0_3.out); rintro e w19 ⟨rfl, hb⟩; refine ⟨_, rfl, ?_⟩; have n0_ := Aside0.mk (blk_below (bup BK123.out) hb); have n1_ := Aside0.mk (blk_below (bup BK124.out) hb); have n2_ := Aside0.mk (blk_below (bup BK125.out) hb); have n3_ := Aside0.mk (below_step (hset HB.out) hb); clear BK123; clear BK124; clear BK125; clear HB; have BK123 := n0_; have BK124 := n1_; have BK125 := n2_; have HB := n3_; clear n0_ n1_ n2_ n3_; (try clear hb); (try clear hb2); (try clear hk)
 by_cases c5 : t126 = true
 ·subst c5
  rw [if_pos rfl] at H
  (try dsimp only at H)
  replace H := Option.bind_eq_some_iff.mp H
  obtain ⟨t127, A60, H⟩ := H
  (try dsimp only at H)
  have A6 := Aside0.mk A60
  clear A60
  (try clear hi); have hnb20 := NB124_125.out; have hnc20 := NB125_124.out; obtain ⟨hcz21_0, hcz21_1, hcz21_2, hcz21_3⟩ := blk_cells4 BK124.out; obtain ⟨hfz21_0, hfz21_1, hfz21_2, hfz21_3⟩ := blk_frozens4 BK124.out
  try go_wp2_with (fail)
  go_at_call 35; (with_reducible refine (impl_KeyOk.calls a1_0 a1_1 a1_2 _ _ l1_3 t127 _ ?side1 ?side2 A6.out).mono ?_); (case side1 => repeat (first | exact (Kd.C_below HR1_3.out HB.out) | (with_reducible refine Kd.C_alloc ?_ _) | (with_reducible refine Kd.C_drewN ?_ _) | (with_reducible refine Kd.C_drew ?_))); (case side2 => exact HC1_3.out); rintro e w22 ⟨rfl, hb⟩; have n0_ := Aside0.mk (blk_below (bup BK123.out) hb); have n1_ := Aside0.mk (blk_below (bup BK124.out) hb); have n2_ := Aside0.mk (blk_below (bup BK125.out) hb); have n3_ := Aside0.mk (below_step (hset HB.out) hb); clear BK123; clear BK124; clear BK125; clear HB; have BK123 := n0_; have BK124 := n1_; have BK125 := n2_; have HB := n3_; clear n0_ n1_ n2_ n3_; (try clear hb); (try clear hb2); (try clear hk)
  by_cases c7 : t127 = true
  ·subst c7
   rw [if_pos rfl] at H
   (try dsimp only at H)
   replace H := Option.bind_eq_some_iff.mp H
   obtain ⟨t128, A80, H⟩ := H
   (try dsimp only at H)
   have A8 := Aside0.mk A80
   clear A80
   (try clear hi); obtain ⟨hcz23_0, hcz23_1, hcz23_2, hcz23_3⟩ := blk_cells4 BK125.out; obtain ⟨hfz23_0, hfz23_1, hfz23_2, hfz23_3⟩ := blk_frozens4 BK125.out
   try go_wp2_with (fail)
   go_at_call 35; (with_reducible refine (impl_KeyOk.calls a2_0 a2_1 a2_2 _ _ l2_3 t128 _ ?side1 ?side2 A8.out).mono ?_); (case side1 => repeat (first | exact (Kd.C_below HR2_3.out HB.out) | (with_reducible refine Kd.C_alloc ?_ _) | (with_reducible refine Kd.C_drewN ?_ _) | (with_reducible refine Kd.C_drew ?_))); (case side2 => exact HC2_3.out); rintro e w24 ⟨rfl, hb⟩; have n0_ := Aside0.mk (blk_below (bup BK123.out) hb); have n1_ := Aside0.mk (blk_below (bup BK124.out) hb); have n2_ := Aside0.mk (blk_below (bup BK125.out) hb); have n3_ := Aside0.mk (below_step (hset HB.out) hb); clear BK123; clear BK124; clear BK125; clear HB; have BK123 := n0_; have BK124 := n1_; have BK125 := n2_; have HB := n3_; clear n0_ n1_ n2_ n3_; (try clear hb); (try clear hb2); (try clear hk)
   by_cases c9 : t128 = true
   ·subst c9
    rw [if_pos rfl] at H
    (try dsimp only at H)
    replace H := Option.bind_eq_some_iff.mp H
    obtain ⟨t129, A100, H⟩ := H
    (try dsimp only at H)
    have A10 := Aside0.mk A100
    clear A100
    (try clear hi); obtain ⟨hcz25_0, hcz25_1, hcz25_2, hcz25_3⟩ := blk_cells4 BK123.out; obtain ⟨hfz25_0, hfz25_1, hfz25_2, hfz25_3⟩ := blk_frozens4 BK123.out; obtain ⟨hcz26_0, hcz26_1, hcz26_2, hcz26_3⟩ := blk_cells4 BK125.out; obtain ⟨hfz26_0, hfz26_1, hfz26_2, hfz26_3⟩ := blk_frozens4 BK125.out
    try go_wp2_with (fail)
    go_at_call 33; (with_reducible refine (impl_compareItems.calls k a0_0 a0_1 a0_2 _ _ l0_3 a2_0 a2_1 a2_2 _ _ l2_3 t129 _ ?side1 ?side2 ?side3 ?side4 A10.out).mono ?_); (case side1 => repeat (first | exact (Kd.C_below HR0_3.out HB.out) | (with_reducible refine Kd.C_alloc ?_ _) | (with_reducible refine Kd.C_drewN ?_ _) | (with_reducible refine Kd.C_drew ?_))); (case side2 => exact HC0_3.out); (case side3 => repeat (first | exact (Kd.C_below HR2_3.out HB.out) | (with_reducible refine Kd.C_alloc ?_ _) | (with_reducible refine Kd.C_drewN ?_ _) | (with_reducible refine Kd.C_drew ?_))); (case side4 => exact HC2_3.out); rintro e w27 ⟨rfl, hb⟩; have n0_ := Aside0.mk (blk_below (bup BK123.out) hb); have n1_ := Aside0.mk (blk_below (bup BK124.out) hb); have n2_ := Aside0.mk (blk_below (bup BK125.out) hb); have n3_ := Aside0.mk (below_step (hset HB.out) hb); clear BK123; clear BK124; clear BK125; clear HB; have BK123 := n0_; have BK124 := n1_; have BK125 := n2_; have HB := n3_; clear n0_ n1_ n2_ n3_; (try clear hb); (try clear hb2); (try clear hk)
    by_cases c11 : t129 ≤ 0
    ·rw [if_pos c11] at H
     have c11b0 : decide (t129 ≤ 0) = true := decide_eq_true c11
     (try simp only [c11b0, Bool.not_true, Bool.not_false])
     clear c11
     replace H := Option.bind_eq_some_iff.mp H
     obtain ⟨t130, A120, H⟩ := H
     (try dsimp only at H)
     have A12 := Aside0.mk A120
     clear A120
     obtain rfl := Option.some.inj H
     (try clear hi); obtain ⟨hcz28_0, hcz28_1, hcz28_2, hcz28_3⟩ := blk_cells4 BK125.out; obtain ⟨hfz28_0, hfz28_1, hfz28_2, hfz28_3⟩ := blk_frozens4 BK125.out; obtain ⟨hcz29_0, hcz29_1, hcz29_2, hcz29_3⟩ := blk_cells4 BK124.out; obtain ⟨hfz29_0, hfz29_1, hfz29_2, hfz29_3⟩ := blk_frozens4 BK124.out
     try go_wp2_with (first | (go_at_call 33; (with_reducible refine (impl_compareItems.calls k a2_0 a2_1 a2_2 _ _ l2_3 a1_0 a1_1 a1_2 _ _ l1_3 t130 _ ?side1 ?side2 ?side3 ?side4 A12.out).mono ?_); (case side1 => repeat (first | exact (Kd.C_below HR2_3.out HB.out) | (with_reducible refine Kd.C_alloc ?_ _) | (with_reducible refine Kd.C_drewN ?_ _) | (with_reducible refine Kd.C_drew ?_))); (case side2 => exact HC2_3.out); (case side3 => repeat (first | exact (Kd.C_below HR1_3.out HB.out) | (with_reducible refine Kd.C_alloc ?_ _) | (with_reducible refine Kd.C_drewN ?_ _) | (with_reducible refine Kd.C_drew ?_))); (case side4 => exact HC1_3.out); rintro e w30 ⟨rfl, hb⟩; have n0_ := Aside0.mk (blk_below (bup BK123.out) hb); have n1_ := Aside0.mk (blk_below (bup BK124.out) hb); have n2_ := Aside0.mk (blk_below (bup BK125.out) hb); have n3_ := Aside0.mk (below_step (hset HB.out) hb); clear BK123; clear BK124; clear BK125; clear HB; have BK123 := n0_; have BK124 := n1_; have BK125 := n2_; have HB := n3_; clear n0_ n1_ n2_ n3_; (try clear hb); (try clear hb2); (try clear hk); (try clear hi)))
     go_ret
     exact ⟨by first | rfl | (simp [errW_none, errW_some] <;> rfl) | (simp [*, errW_none, errW_some] <;> rfl), hset HB.out⟩
    ·rw [if_neg c11] at H
     have c11b0 : decide (t129 ≤ 0) = false := decide_eq_false c11
     (try simp only [c11b0, Bool.not_true, Bool.not_false])
     clear c11
     obtain rfl := Option.some.inj H
     (try clear hi)
     try go_wp2
     go_ret
     exact ⟨by first | rfl | (simp [errW_none, errW_some] <;> rfl) | (simp [*, errW_none, errW_some] <;> rfl), hset HB.out⟩
   ·replace c9 := Bool.eq_false_iff.mpr c9
    subst c9
    rw [if_neg (show ¬ (false = true) by decide)] at H
    (try dsimp only at H)
    obtain rfl := Option.some.inj H
    (try clear hi)
    try go_wp2
    go_ret
    exact ⟨by first | rfl | (simp [errW_none, errW_some] <;> rfl) | (simp [*, errW_none, errW_some] <;> rfl), hset HB.out⟩
  ·replace c7 := Bool.eq_false_iff.mpr c7
   subst c7
   rw [if_neg (show ¬ (false = true) by decide)] at H
   (try dsimp only at H)
   obtain rfl := Option.some.inj H
   (try clear hi)
   try go_wp2
   go_ret
   exact ⟨by first | rfl | (simp [errW_none, errW_some] <;> rfl) | (simp [*, errW_none, errW_some] <;> rfl), hset HB.out⟩
 ·replace c5 := Bool.eq_false_iff.mpr c5
  subst c5
  rw [if_neg (show ¬ (false = true) by decide)] at H
  (try dsimp only at H)
  obtain rfl := Option.some.inj H
  (try clear hi)
  try go_wp2
  go_ret
  exact ⟨by first | rfl | (simp [errW_none, errW_some] <;> rfl) | (simp [*, errW_none, errW_some] <;> rfl), hset HB.out⟩
theorem impl_InSpan.inv0 (k : Nat) (a0_0 : Int) (a0_1 : Int) (a0_2 : Nat) (l0_3 : List Int) (a1_0 : Int) (a1_1 : Int) (a1_2 : Nat) (l1_3 : List Int) (a2_0 : Int) (a2_1 : Int) (a2_2 : Nat) (l2_3 : List Int) : impl_InSpan.f k a0_0 a0_1 (cn a0_2) l0_3 a1_0 a1_1 a1_2 l1_3 a2_0 a2_1 a2_2 l2_3 = impl_InSpan.f k a0_0 a0_1 a0_2 l0_3 a1_0 a1_1 a1_2 l1_3 a2_0 a2_1 a2_2 l2_3 := by
  by_cases h_ : nanw a0_2
  · unfold impl_InSpan.f
    first
      | (simp only [impl_compareItems.inv0, impl_compareItems.inv1, impl_KeyOk.inv0, cn_zeroI, cn_zero, feq_cn_l, feq_cn_r, fls_cn_l, fls_cn_r, fgt_cn_l, fgt_cn_r, fle_cn_l, fle_cn_r, fge_cn_l, fge_cn_r]; done)
      | (simp only [impl_compareItems.inv0, impl_compareItems.inv1, impl_KeyOk.inv0, cn_zeroI, cn_zero, feq_cn_l, feq_cn_r, fls_cn_l, fls_cn_r, fgt_cn_l, fgt_cn_r, fle_cn_l, fle_cn_r, fge_cn_l, fge_cn_r, feq_nan_l h_, feq_nan_l (cn_nanw h_), Bool.false_eq_true, if_false]; done)
      | (simp [feq_nan_l h_, feq_nan_l (cn_nanw h_)]; done)
  · rw [cn_num h_]
theorem impl_InSpan.inv1 (k : Nat) (a0_0 : Int) (a0_1 : Int) (a0_2 : Nat) (l0_3 : List Int) (a1_0 : Int) (a1_1 : Int) (a1_2 : Nat) (l1_3 : List Int) (a2_0 : Int) (a2_1 : Int) (a2_2 : Nat) (l2_3 : List Int) : impl_InSpan.f k a0_0 a0_1 a0_2 l0_3 a1_0 a1_1 (cn a1_2) l1_3 a2_0 a2_1 a2_2 l2_3 = impl_InSpan.f k a0_0 a0_1 a0_2 l0_3 a1_0 a1_1 a1_2 l1_3 a2_0 a2_1 a2_2 l2_3 := by
  by_cases h_ : nanw a1_2
  · unfold impl_InSpan.f
    first
      | (simp only [impl_compareItems.inv0, impl_compareItems.inv1, impl_KeyOk.inv0, cn_zeroI, cn_zero, feq_cn_l, feq_cn_r, fls_cn_l, fls_cn_r, fgt_cn_l, fgt_cn_r, fle_cn_l, fle_cn_r, fge_cn_l, fge_cn_r]; done)
      | (simp only [impl_compareItems.inv0, impl_compareItems.inv1, impl_KeyOk.inv0, cn_zeroI, cn_zero, feq_cn_l, feq_cn_r, fls_cn_l, fls_cn_r, fgt_cn_l, fgt_cn_r, fle_cn_l, fle_cn_r, fge_cn_l, fge_cn_r, feq_nan_l h_, feq_nan_l (cn_nanw h_), Bool.false_eq_true, if_false]; done)
      | (simp [feq_nan_l h_, feq_nan_l (cn_nanw h_)]; done)
  · rw [cn_num h_]
theorem impl_InSpan.inv2 (k : Nat) (a0_0 : Int) (a0_1 : Int) (a0_2 : Nat) (l0_3 : List Int) (a1_0 : Int) (a1_1 : Int) (a1_2 : Nat) (l1_3 : List Int) (a2_0 : Int) (a2_1 : Int) (a2_2 : Nat) (l2_3 : List Int) : impl_InSpan.f k a0_0 a0_1 a0_2 l0_3 a1_0 a1_1 a1_2 l1_3 a2_0 a2_1 (cn a2_2) l2_3 = impl_InSpan.f k a0_0 a0_1 a0_2 l0_3 a1_0 a1_1 a1_2 l1_3 a2_0 a2_1 a2_2 l2_3 := by
  by_cases h_ : nanw a2_2
  · unfold impl_InSpan.f
    first
      | (simp only [impl_compareItems.inv0, impl_compareItems.inv1, impl_KeyOk.inv0, cn_zeroI, cn_zero, feq_cn_l, feq_cn_r, fls_cn_l, fls_cn_r, fgt_cn_l, fgt_cn_r, fle_cn_l, fle_cn_r, fge_cn_l, fge_cn_r]; done)
      | (simp only [impl_compareItems.inv0, impl_compareItems.inv1, impl_KeyOk.inv0, cn_zeroI, cn_zero, feq_cn_l, feq_cn_r, fls_cn_l, fls_cn_r, fgt_cn_l, fgt_cn_r, fle_cn_l, fle_cn_r, fge_cn_l, fge_cn_r, feq_nan_l h_, feq_nan_l (cn_nanw h_), Bool.false_eq_true, if_false]; done)
      | (simp [feq_nan_l h_, feq_nan_l (cn_nanw h_)]; done)
  · rw [cn_num h_]
mutual
def spec_FloatBits.j0 : Nat → Nat → Int → Nat → Bool → Option (Int)
 | 0, _, _, _, _ => none
 | k + 1, x0, x3, x4, x20 => if x20 = true then (spec_FloatBits.j1 k 9223372036854775808 (fneg x0)) else (spec_FloatBits.j1 k x3 x4)
def spec_FloatBits.j1 : Nat → Int → Nat → Option (Int)
 | 0, _, _ => none
 | k + 1, x3, x4 => if (feq x4 0) = true then (some x3) else (if (fgt x4 9218868437227405311) = true then (some (Go.bits .or .u64 x3 9218868437227405312)) else (spec_FloatBits.l0 k x3 x4 0))
def spec_FloatBits.l0 : Nat → Int → Nat → Int → Option (Int)
 | 0, _, _, _ => none
 | k + 1, x3, x4, x5 => if (fge x4 4611686018427387904) = true then (if (fok .quo x4 4611686018427387904) = true then (spec_FloatBits.l0 k x3 (fval .quo x4 4611686018427387904) (wrap64 (x5 + 1))) else (none)) else (spec_FloatBits.l1 k x3 x4 x5)
def spec_FloatBits.l1 : Nat → Int → Nat → Int → Option (Int)
 | 0, _, _, _ => none
 | k + 1, x3, x4, x5 => if (fls x4 4607182418800017408) = true then (if x5 > (-1022) then (if (fok .mul x4 4611686018427387904) = true then (spec_FloatBits.l1 k x3 (fval .mul x4 4611686018427387904) (wrap64 (x5 - 1))) else (none)) else (if (fok .mul x4 4841369599423283200) = true then (if (fiok .u64 (fval .mul x4 4841369599423283200)) = true then (some (Go.bits .or .u64 x3 (fival .u64 (fval .mul x4 4841369599423283200)))) else (none)) else (none))) else (if (fok .sub x4 4607182418800017408) = true then (if (fok .mul (fval .sub x4 4607182418800017408) 4841369599423283200) = true then (if (fiok .u64 (fval .mul (fval .sub x4 4607182418800017408) 4841369599423283200)) = true then (some (Go.bits .or .u64 (Go.bits .or .u64 x3 (IntKind.u64.wrap ((IntKind.u64.wrap (wrap64 (x5 + 1023))) * 4503599627370496))) (fival .u64 (fval .mul (fval .sub x4 4607182418800017408) 4841369599423283200)))) else (none)) else (none)) else (none))
end
def spec_FloatBits.f (k : Nat) (a0 : Nat) : Option (Int) := if ((feq a0 a0) = true) then (if (fls a0 0) = true then (spec_FloatBits.j0 k a0 0 a0 true) else (if (feq a0 0) = true then (if (fok .quo 4607182418800017408 a0) = true then (spec_FloatBits.j0 k a0 0 a0 (fls (fval .quo 4607182418800017408 a0) 0)) else (none)) else (spec_FloatBits.j0 k a0 0 a0 false))) else (some 9221120237041090560)
theorem spec_FloatBits.mono_l : ∀ k, (∀ y0 y1 y2 y3, LeO (spec_FloatBits.j0 k y0 y1 y2 y3) (spec_FloatBits.j0 (k + 1) y0 y1 y2 y3)) ∧ (∀ y0 y1, LeO (spec_FloatBits.j1 k y0 y1) (spec_FloatBits.j1 (k + 1) y0 y1)) ∧ (∀ y0 y1 y2, LeO (spec_FloatBits.l0 k y0 y1 y2) (spec_FloatBits.l0 (k + 1) y0 y1 y2)) ∧ (∀ y0 y1 y2, LeO (spec_FloatBits.l1 k y0 y1 y2) (spec_FloatBits.l1 (k + 1) y0 y1 y2))
 | 0 => ⟨fun _ _ _ _ r h => by simp [spec_FloatBits.j0] at h, fun _ _ r h => by simp [spec_FloatBits.j1] at h, fun _ _ _ r h => by simp [spec_FloatBits.l0] at h, fun _ _ _ r h => by simp [spec_FloatBits.l1] at h⟩
 | k + 1 => by
  obtain ⟨ih0, ih1, ih2, ih3⟩ := spec_FloatBits.mono_l k
  refine ⟨?_, ?_, ?_, ?_⟩
  ·intro y0 y1 y2 y3
   unfold spec_FloatBits.j0
   repeat' with_reducible first | exact ih0 _ _ _ _ | exact ih1 _ _ | exact ih2 _ _ _ | exact ih3 _ _ _ | exact LeO.refl _ | exact LeO.none _ | refine LeO.ite ?_ ?_ | refine LeO.bind ?_ (fun _ => ?_)
  ·intro y0 y1
   unfold spec_FloatBits.j1
   repeat' with_reducible first | exact ih0 _ _ _ _ | exact ih1 _ _ | exact ih2 _ _ _ | exact ih3 _ _ _ | exact LeO.refl _ | exact LeO.none _ | refine LeO.ite ?_ ?_ | refine LeO.bind ?_ (fun _ => ?_)
  ·intro y0 y1 y2
   unfold spec_FloatBits.l0
   repeat' with_reducible first | exact ih0 _ _ _ _ | exact ih1 _ _ | exact ih2 _ _ _ | exact ih3 _ _ _ | exact LeO.refl _ | exact LeO.none _ | refine LeO.ite ?_ ?_ | refine LeO.bind ?_ (fun _ => ?_)
  ·intro y0 y1 y2
   unfold spec_FloatBits.l1
   repeat' with_reducible first | exact ih0 _ _ _ _ | exact ih1 _ _ | exact ih2 _ _ _ | exact ih3 _ _ _ | exact LeO.refl _ | exact LeO.none _ | refine LeO.ite ?_ ?_ | refine LeO.bind ?_ (fun _ => ?_)
theorem spec_FloatBits.mono : ∀ a0 k, LeO (spec_FloatBits.f k a0) (spec_FloatBits.f (k + 1) a0) := by
 intro a0 k
 obtain ⟨ih0, ih1, ih2, ih3⟩ := spec_FloatBits.mono_l k
 unfold spec_FloatBits.f
 repeat' with_reducible first | exact ih0 _ _ _ _ | exact ih1 _ _ | exact ih2 _ _ _ | exact ih3 _ _ _ | exact LeO.refl _ | exact LeO.none _ | refine LeO.ite ?_ ?_ | refine LeO.bind ?_ (fun _ => ?_)
set_option maxHeartbeats 8000000 in
set_option maxRecDepth 100000 in
theorem spec_FloatBits.calls (k : Nat) (a0 : Nat) (r : Int) (w : World) (h : spec_FloatBits.f k a0 = some r) :
  Calls Try.prog 37 #[.float .f64 a0] w fun e w' => e = .returned (.int .u64 r) ∧ Drawn0 w w' := by
 have H := h
 clear h
 unfold spec_FloatBits.f at H
 by_cases c2 : ((feq a0 a0) = true)
 ·rw [if_pos c2] at H
  have c2b0 : (feq a0 a0) = true := c2
  clear c2
  have HC3 := Aside0.mk H
  clear H
  go_enter Try.func37, Try.ntmps37
  go_upto_region 5 with (fail)
  go_cut [20] (fun v20 wc => ∃ (kq : Nat) (x20_2 : Bool), v20 = .bool x20_2 ∧ Aside0 (spec_FloatBits.j0 kq a0 0 a0 x20_2 = some r) ∧ Aside0 (kq ≤ k) ∧ Drawn0 w wc)
  case first =>
   have H := HC3.out
   clear HC3
   by_cases c4 : (fls a0 0) = true
   ·rw [if_pos c4] at H
    have c4b0 : (fls a0 0) = true := c4
    clear c4
    (first | rw [c4b0] | (simp only [i64_w, i32_w]; rw [c4b0]) | skip)
    have H' := Aside0.mk H
    clear H
    go_wp2
    go_meet
    case rel => exact ⟨_, (true), (by first | rfl | (simp; done) | (simp [*]; done)), H', ⟨by first | omega | exact Nat.le_refl _⟩, by repeat (first | exact Drawn0.refl _ | apply Drawn0.step)⟩
   ·rw [if_neg c4] at H
    have c4b0 : (fls a0 0) = false := by simpa using c4
    clear c4
    (first | rw [c4b0] | (simp only [i64_w, i32_w]; rw [c4b0]) | skip)
    by_cases c5 : (feq a0 0) = true
    ·rw [if_pos c5] at H
     have c5b0 : (feq a0 0) = true := c5
     clear c5
     by_cases c6 : (fok .quo 4607182418800017408 a0) = true
     ·rw [if_pos c6] at H
      have c6b0 : (fok .quo 4607182418800017408 a0) = true := c6
      clear c6
      have H' := Aside0.mk H
      clear H
      go_wp2
      go_meet
      case rel => exact ⟨_, ((fls (fval .quo 4607182418800017408 a0) 0)), (by first | rfl | (simp; done) | (simp [*]; done)), H', ⟨by first | omega | exact Nat.le_refl _⟩, by repeat (first | exact Drawn0.refl _ | apply Drawn0.step)⟩
     ·rw [if_neg c6] at H
      exact absurd H (by simp)
    ·rw [if_neg c5] at H
     have c5b0 : (feq a0 0) = false := by simpa using c5
     clear c5
     have H' := Aside0.mk H
     clear H
     go_wp2
     go_meet
     case rel => exact ⟨_, (false), (by first | rfl | (simp; done) | (simp [*]; done)), H', ⟨by first | omega | exact Nat.le_refl _⟩, by repeat (first | exact Drawn0.refl _ | apply Drawn0.step)⟩
  case rest =>
   clear HC3
   try clear c2
   try clear c2b0
   try clear p2
   try clear c3
   try clear c4
   try clear c4b0
   try clear c5
   try clear c5b0
   try clear c6
   try clear c6b0
   obtain ⟨kq, x20_2, rfl, HA, HJ2, ⟨mc2, rfl⟩⟩ := hcut
   cases kq with
   | zero => exact absurd HA.out (by simp [spec_FloatBits.j0])
   | succ kj2 =>
    have H := HA.out
    clear HA
    simp only [spec_FloatBits.j0] at H
    have HC7 := Aside0.mk H
    clear H
    go_upto_if 20 with (fail)
    go_cut [3, 4] (fun v3 v4 wc => ∃ (kq : Nat) (x3_6 : Int) (x4_6 : Nat), v3 = .int .u64 x3_6 ∧ v4 = .float .f64 x4_6 ∧ Aside0 (spec_FloatBits.j1 kq x3_6 x4_6 = some r) ∧ Aside0 (kq ≤ kj2) ∧ Drawn0 w wc)
    case first =>
     have H := HC7.out
     clear HC7
     by_cases c8 : x20_2 = true
     ·subst c8
      rw [if_pos rfl] at H
      (try dsimp only at H)
      have H' := Aside0.mk H
      clear H
      go_wp2
      go_meet
      case rel => exact ⟨_, (9223372036854775808), (fneg a0), (by first | rfl | (simp; done) | (simp [*]; done)), (by first | rfl | (simp; done) | (simp [*]; done)), H', ⟨by have := HJ2.out; first | omega | exact Nat.le_refl _⟩, by repeat (first | exact Drawn0.refl _ | apply Drawn0.step)⟩
     ·replace c8 := Bool.eq_false_iff.mpr c8
      subst c8
      rw [if_neg (show ¬ (false = true) by decide)] at H
      (try dsimp only at H)
      have H' := Aside0.mk H
      clear H
      go_wp2
      go_meet
      case rel => exact ⟨_, (0), (a0), (by first | rfl | (simp; done) | (simp [*]; done)), (by first | rfl | (simp; done) | (simp [*]; done)), H', ⟨by have := HJ2.out; first | omega | exact Nat.le_refl _⟩, by repeat (first | exact Drawn0.refl _ | apply Drawn0.step)⟩
    case rest =>
     clear HC7
     try clear c2
     try clear c2b0
     try clear p2
     try clear c3
     try clear c4
     try clear c4b0
     try clear c5
     try clear c5b0
     try clear c6
     try clear c6b0
     try clear c8
     try clear p2
     obtain ⟨kq, x3_6, x4_6, rfl, rfl, HA, HJ6, ⟨mc6, rfl⟩⟩ := hcut
     cases kq with
     | zero => exact absurd HA.out (by simp [spec_FloatBits.j1])
     | succ kj6 =>
      have H := HA.out
      clear HA
      simp only [spec_FloatBits.j1] at H
      by_cases c9 : (feq x4_6 0) = true
      ·rw [if_pos c9] at H
       have c9b0 : (feq x4_6 0) = true := c9
       clear c9
       obtain rfl := Option.some.inj H
       go_wp2
       go_ret
       exact ⟨by first | rfl | (simp; done) | (simp [*]; done), by repeat (first | exact Drawn0.refl _ | apply Drawn0.step)⟩
      ·rw [if_neg c9] at H
       have c9b0 : (feq x4_6 0) = false := by simpa using c9
       clear c9
       by_cases c10 : (fgt x4_6 9218868437227405311) = true
       ·rw [if_pos c10] at H
        have c10b0 : (fgt x4_6 9218868437227405311) = true := c10
        clear c10
        obtain rfl := Option.some.inj H
        go_wp2
        go_ret
        exact ⟨by first | rfl | (simp; done) | (simp [*]; done), by repeat (first | exact Drawn0.refl _ | apply Drawn0.step)⟩
       ·rw [if_neg c10] at H
        have c10b0 : (fgt x4_6 9218868437227405311) = false := by simpa using c10
        clear c10
        have H' := Aside0.mk H
        clear H
        go_wp2
        go_loopg [4, 5] kj6 (fun kq v4 v5 w' => ∃ (x4_3 : Nat) (x5_3 : Int), v4 = .float .f64 x4_3 ∧ v5 = .int .i64 x5_3 ∧ Aside0 (spec_FloatBits.l0 kq x3_6 x4_3 x5_3 = some r) ∧ Aside0 (kq ≤ kj6) ∧ Drawn0 w w')
        case atStart => exact ⟨(x4_6), (0), (by first | rfl | (simp; done) | (simp [*]; done)), (by first | rfl | (simp; done) | (simp [*]; done)), H', ⟨Nat.le_refl _⟩, by repeat (first | exact Drawn0.refl _ | apply Drawn0.step)⟩
        case round =>
         clear H'
         try clear c1
         try clear c2
         try clear c2b0
         try clear p2
         try clear c3
         try clear c4
         try clear c4b0
         try clear c5
         try clear c5b0
         try clear c6
         try clear c6b0
         try clear c8
         try clear c9
         try clear c9b0
         try clear c10
         try clear c10b0
         try clear p2
         obtain ⟨x4_3, x5_3, rfl, rfl, HA, HK3, ⟨m3, rfl⟩⟩ := hrel
         cases gk with
         | zero => exact absurd HA.out (by simp [spec_FloatBits.l0])
         | succ k3 =>
          have H := HA.out
          clear HA
          simp only [spec_FloatBits.l0] at H
          by_cases c11 : (fge x4_3 4611686018427387904) = true
          ·rw [if_pos c11] at H
           have c11b0 : (fge x4_3 4611686018427387904) = true := c11
           clear c11
           by_cases c12 : (fok .quo x4_3 4611686018427387904) = true
           ·rw [if_pos c12] at H
            have c12b0 : (fok .quo x4_3 4611686018427387904) = true := c12
            clear c12
            have H' := Aside0.mk H
            clear H
            go_wp2
            go_roundg k3
            case measure => have := HJ2.out; have := HJ6.out; have := HK3.out; omega
            case rel => exact ⟨(fval .quo x4_3 4611686018427387904), (wrap64 (x5_3 + 1)), (by first | rfl | (simp; done) | (simp [*]; done)), (by first | rfl | (simp; done) | (simp [*]; done)), H', ⟨by have := HJ2.out; have := HJ6.out; have := HK3.out; omega⟩, by repeat (first | exact Drawn0.refl _ | apply Drawn0.step)⟩
           ·rw [if_neg c12] at H
            exact absurd H (by simp)
          ·rw [if_neg c11] at H
           have c11b0 : (fge x4_3 4611686018427387904) = false := by simpa using c11
           clear c11
           have H' := Aside0.mk H
           clear H
           go_wp2
           go_loopg [4, 5] k3 (fun kq v4 v5 w' => ∃ (x4_4 : Nat) (x5_4 : Int), v4 = .float .f64 x4_4 ∧ v5 = .int .i64 x5_4 ∧ Aside0 (spec_FloatBits.l1 kq x3_6 x4_4 x5_4 = some r) ∧ Aside0 (kq ≤ k3) ∧ Drawn0 w w')
           case atStart => exact ⟨(x4_3), (x5_3), (by first | rfl | (simp; done) | (simp [*]; done)), (by first | rfl | (simp; done) | (simp [*]; done)), H', ⟨Nat.le_refl _⟩, by repeat (first | exact Drawn0.refl _ | apply Drawn0.step)⟩
           case round =>
            clear H'
            try clear c1
            try clear c2
            try clear c2b0
            try clear p2
            try clear c3
            try clear c4
            try clear c4b0
            try clear c5
            try clear c5b0
            try clear c6
            try clear c6b0
            try clear p6
            try clear c8
            try clear c9
            try clear c9b0
            try clear c10
            try clear c10b0
            try clear c11
            try clear c11b0
            try clear c12
            try clear c12b0
            try clear p2
            obtain ⟨x4_4, x5_4, rfl, rfl, HA, HK4, ⟨m4, rfl⟩⟩ := hrel
            cases gk with
            | zero => exact absurd HA.out (by simp [spec_FloatBits.l1])
            | succ k4 =>
             have H := HA.out
             clear HA
             simp only [spec_FloatBits.l1] at H
             by_cases c13 : (fls x4_4 4607182418800017408) = true
             ·rw [if_pos c13] at H
              have c13b0 : (fls x4_4 4607182418800017408) = true := c13
              clear c13
              by_cases c14 : x5_4 > (-1022)
              ·rw [if_pos c14] at H
               have c14b0 : decide ((-1022) < x5_4) = true := decide_eq_true c14
               clear c14
               by_cases c15 : (fok .mul x4_4 4611686018427387904) = true
               ·rw [if_pos c15] at H
                have c15b0 : (fok .mul x4_4 4611686018427387904) = true := c15
                clear c15
                have H' := Aside0.mk H
                clear H
                go_wp2
                go_roundg k4
                case measure => have := HJ2.out; have := HJ6.out; have := HK3.out; have := HK4.out; omega
                case rel => exact ⟨(fval .mul x4_4 4611686018427387904), (wrap64 (x5_4 - 1)), (by first | rfl | (simp; done) | (simp [*]; done)), (by first | rfl | (simp; done) | (simp [*]; done)), H', ⟨by have := HJ2.out; have := HJ6.out; have := HK3.out; have := HK4.out; omega⟩, by repeat (first | exact Drawn0.refl _ | apply Drawn0.step)⟩
               ·rw [if_neg c15] at H
                exact absurd H (by simp)
              ·rw [if_neg c14] at H
               have c14b0 : decide ((-1022) < x5_4) = false := decide_eq_false c14
               clear c14
               by_cases c16 : (fok .mul x4_4 4841369599423283200) = true
               ·rw [if_pos c16] at H
                have c16b0 : (fok .mul x4_4 4841369599423283200) = true := c16
                clear c16
                by_cases c17 : (fiok .u64 (fval .mul x4_4 4841369599423283200)) = true
                ·rw [if_pos c17] at H
                 have c17b0 : (fiok .u64 (fval .mul x4_4 4841369599423283200)) = true := c17
                 clear c17
                 obtain rfl := Option.some.inj H
                 go_wp2
                 go_ret
                 exact ⟨by first | rfl | (simp; done) | (simp [*]; done), by repeat (first | exact Drawn0.refl _ | apply Drawn0.step)⟩
                ·rw [if_neg c17] at H
                 exact absurd H (by simp)
               ·rw [if_neg c16] at H
                exact absurd H (by simp)
             ·rw [if_neg c13] at H
              have c13b0 : (fls x4_4 4607182418800017408) = false := by simpa using c13
              clear c13
              by_cases c18 : (fok .sub x4_4 4607182418800017408) = true
              ·rw [if_pos c18] at H
               have c18b0 : (fok .sub x4_4 4607182418800017408) = true := c18
               clear c18
               by_cases c19 : (fok .mul (fval .sub x4_4 4607182418800017408) 4841369599423283200) = true
               ·rw [if_pos c19] at H
                have c19b0 : (fok .mul (fval .sub x4_4 4607182418800017408) 4841369599423283200) = true := c19
                clear c19
                by_cases c20 : (fiok .u64 (fval .mul (fval .sub x4_4 4607182418800017408) 4841369599423283200)) = true
                ·rw [if_pos c20] at H
                 have c20b0 : (fiok .u64 (fval .mul (fval .sub x4_4 4607182418800017408) 4841369599423283200)) = true := c20
                 clear c20
                 obtain rfl := Option.some.inj H
                 go_wp2
                 go_ret
                 exact ⟨by first | rfl | (simp; done) | (simp [*]; done), by repeat (first | exact Drawn0.refl _ | apply Drawn0.step)⟩
                ·rw [if_neg c20] at H
                 exact absurd H (by simp)
               ·rw [if_neg c19] at H
                exact absurd H (by simp)
              ·rw [if_neg c18] at H
               exact absurd H (by simp)
 ·rw [if_neg c2] at H
  have c2b0 : (feq a0 a0) = false := by simpa using c2
  clear c2
  obtain rfl := Option.some.inj H
  go_enter Try.func37, Try.ntmps37
  go_wp2
  go_ret
  exact ⟨by first | rfl | (simp; done) | (simp [*]; done), by repeat (first | exact Drawn0.refl _ | apply Drawn0.step)⟩
theorem spec_FloatBits.inv0 (k : Nat) (a0 : Nat) : spec_FloatBits.f k (cn a0) = spec_FloatBits.f k a0 := by
  by_cases h_ : nanw a0
  · unfold spec_FloatBits.f
    first
      | (simp only [cn_zeroI, cn_zero, feq_cn_l, feq_cn_r, fls_cn_l, fls_cn_r, fgt_cn_l, fgt_cn_r, fle_cn_l, fle_cn_r, fge_cn_l, fge_cn_r]; done)
      | (simp only [cn_zeroI, cn_zero, feq_cn_l, feq_cn_r, fls_cn_l, fls_cn_r, fgt_cn_l, fgt_cn_r, fle_cn_l, fle_cn_r, fge_cn_l, fge_cn_r, feq_nan_l h_, feq_nan_l (cn_nanw h_), Bool.false_eq_true, if_false]; done)
      | (simp [feq_nan_l h_, feq_nan_l (cn_nanw h_)]; done)
  · rw [cn_num h_]
end Go.Proofs.Ytcjeokkhpjppaaa.PFnSpans
