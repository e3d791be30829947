-- By this session's own program (wip/xprint.py), over the kit's print.
import Derived.Test.YtcjeokkhpjppaaaPFnExactItemComparex0
import Derived.Test.YtcjeokkhpjppaaaPFnExactItemComparex1
import Derived.Test.YtcjeokkhpjppaaaPFnExactItemComparex2
import Derived.Test.YtcjeokkhpjppaaaPFnExactItemComparex3
import Derived.Test.YtcjeokkhpjppaaaPFnExactItemComparex4
namespace Go.Proofs.Ytcjeokkhpjppaaa.PFnExactItemCompare
open Go.RowKit Go.Proofs.YtcjeokkhpjppaaaW.PrintWords Go.Proofs.YtcjeokkhpjppaaaW.PrintLast Go.Proofs.YtcjeokkhpjppaaaW.PrintMore
attribute [local go_sem] max2_int min2_int max_two min_two max_three min_three max_four min_four   -- for this text's walks alone
attribute [local go_sem high] fl_eql fl_neq fl_lss fl_leq fl_gtr fl_geq fl_add fl_sub fl_mul fl_quo fl_neg fl_ofInt fl_toInt fl_store ext_bits
open Go.Proofs.YtcjeokkhpjppaaaW.PrintWords.Kd renaming R_alloc → ra1, R_drewN → ra2, R_drew → ra3, R_elder' → ra4, R_below → ra5, C_alloc → ra6, C_drewN → ra7, C_drew → ra8, R_reads' → ra9
open Go.Proofs.YtcjeokkhpjppaaaW.PrintWords renaming blk_drewN → rb1, blk_drew → rb2, blk_alloc → rb3, pw_below_drewN → rb4
set_option linter.unusedVariables false
set_option linter.unusedSimpArgs false

/-! ### laws_FnExactItemCompare: function 3 -/
def laws_FnExactItemCompare.f (k : Nat) (a0_0 : Int) (a0_1 : Int) (a0_2 : Nat) (l0_3 : List Int) (a1_0 : Int) (a1_1 : Int) (a1_2 : Nat) (l1_3 : List Int) : Option (Bool) := (laws_szItem.f a0_0 a0_1 a0_2 l0_3 1048576).bind fun t162 => (if t162 < 0 then (some true) else ((laws_szItem.f a1_0 a1_1 a1_2 l1_3 t162).bind fun t163 => (if t163 < 0 then (some true) else ((laws_toItem.f k a0_0 a0_1 a0_2 l0_3).bind fun bt164 => ((laws_toItem.f k a1_0 a1_1 a1_2 l1_3).bind fun bt170 => ((spec_ItemCompare.f k bt164.1 bt164.2.1 bt164.2.2.1 bt164.2.2.2 bt170.1 bt170.2.1 bt170.2.2.1 bt170.2.2.2).bind fun t176 => ((laws_toItem.f k a0_0 a0_1 a0_2 l0_3).bind fun bt177 => ((laws_toItem.f k a1_0 a1_1 a1_2 l1_3).bind fun bt184 => ((impl_ItemCompare.f k bt177.1 bt177.2.1 bt177.2.2.1 bt177.2.2.2 bt184.1 bt184.2.1 bt184.2.2.1 bt184.2.2.2).bind fun t191 => (if t191 = t176 then ((laws_toItem.f k a0_0 a0_1 a0_2 l0_3).bind fun bt192 => ((laws_eqItem.f k bt177.1 bt177.2.1 bt177.2.2.1 bt177.2.2.2 bt192.1 bt192.2.1 bt192.2.2.1 bt192.2.2.2).bind fun t198 => (if t198 = true then ((laws_toItem.f k a1_0 a1_1 a1_2 l1_3).bind fun bt199 => ((laws_eqItem.f k bt184.1 bt184.2.1 bt184.2.2.1 bt184.2.2.2 bt199.1 bt199.2.1 bt199.2.2.1 bt199.2.2.2).bind fun t205 => (if t205 = true then (some true) else (some false)))) else (some false)))) else (some false)))))))))))
theorem laws_FnExactItemCompare.mono : ∀ a0 a1 a2 a3 a4 a5 a6 a7 k, LeO (laws_FnExactItemCompare.f k a0 a1 a2 a3 a4 a5 a6 a7) (laws_FnExactItemCompare.f (k + 1) a0 a1 a2 a3 a4 a5 a6 a7) := by
 intro a0 a1 a2 a3 a4 a5 a6 a7 k
 unfold laws_FnExactItemCompare.f
 repeat' first
   | (with_reducible exact impl_ItemCompare.mono _ _ _ _ _ _ _ _ _)
   | (with_reducible exact laws_eqItem.mono _ _ _ _ _ _ _ _ _)
   | (with_reducible exact laws_toItem.mono _ _ _ _ _)
   | (with_reducible exact spec_ItemCompare.mono _ _ _ _ _ _ _ _ _)
   | (with_reducible exact LeO.refl _)
   | (with_reducible exact LeO.none _)
   | (with_reducible refine LeO.ite ?_ ?_)
   | (with_reducible refine LeO.bind ?_ (fun _ => ?_))
   | exact impl_ItemCompare.mono _ _ _ _ _ _ _ _ _
   | exact laws_eqItem.mono _ _ _ _ _ _ _ _ _
   | exact laws_toItem.mono _ _ _ _ _
   | exact spec_ItemCompare.mono _ _ _ _ _ _ _ _ _
   | exact LeO.none _
   | refine LeO.ite ?_ ?_
   | refine LeO.bind ?_ (fun _ => ?_)
set_option maxHeartbeats 8000000 in
set_option maxRecDepth 100000 in
theorem laws_FnExactItemCompare.calls (k : Nat) (a0_0 : Int) (a0_1 : Int) (a0_2 : Nat) (A0_3 : Option Addr) (c0_3 : Nat) (l0_3 : List Int) (a1_0 : Int) (a1_1 : Int) (a1_2 : Nat) (A1_3 : Option Addr) (c1_3 : Nat) (l1_3 : List Int) (r : Bool) (w : World) (hr0_3 : Kd.C (Kd.int .u8) w A0_3 l0_3.length l0_3) (hc0_3 : l0_3.length ≤ c0_3) (hr1_3 : Kd.C (Kd.int .u8) w A1_3 l1_3.length l1_3) (hc1_3 : l1_3.length ≤ c1_3) (h : laws_FnExactItemCompare.f k a0_0 a0_1 a0_2 l0_3 a1_0 a1_1 a1_2 l1_3 = some r) :
  Calls Try.prog 3 #[.agg #[.int .i64 a0_0, .int .i64 a0_1, .float .f64 a0_2, .slice A0_3 l0_3.length c0_3], .agg #[.int .i64 a1_0, .int .i64 a1_1, .float .f64 a1_2, .slice A1_3 l1_3.length c1_3]] w fun e w' => e = .returned (.bool r) ∧ Below w.heap.size w w' := by
 have hu25 := Try.underlying25
 have hu28 := Try.underlying28
 have HR0_3 := Aside0.mk hr0_3
 have HC0_3 := Aside0.mk hc0_3
 clear hr0_3 hc0_3
 have HR1_3 := Aside0.mk hr1_3
 have HC1_3 := Aside0.mk hc1_3
 clear hr1_3 hc1_3
 have HB := Aside0.mk (Below.refl w.heap.size w)
 have H : ((laws_szItem.f a0_0 a0_1 a0_2 l0_3 1048576).bind fun t162 => (if t162 < 0 then (some true) else ((laws_szItem.f a1_0 a1_1 a1_2 l1_3 t162).bind fun t163 => (if t163 < 0 then (some true) else ((laws_toItem.f k a0_0 a0_1 a0_2 l0_3).bind fun bt164 => ((laws_toItem.f k a1_0 a1_1 a1_2 l1_3).bind fun bt170 => ((spec_ItemCompare.f k bt164.1 bt164.2.1 bt164.2.2.1 bt164.2.2.2 bt170.1 bt170.2.1 bt170.2.2.1 bt170.2.2.2).bind fun t176 => ((laws_toItem.f k a0_0 a0_1 a0_2 l0_3).bind fun bt177 => ((laws_toItem.f k a1_0 a1_1 a1_2 l1_3).bind fun bt184 => ((impl_ItemCompare.f k bt177.1 bt177.2.1 bt177.2.2.1 bt177.2.2.2 bt184.1 bt184.2.1 bt184.2.2.1 bt184.2.2.2).bind fun t191 => (if t191 = t176 then ((laws_toItem.f k a0_0 a0_1 a0_2 l0_3).bind fun bt192 => ((laws_eqItem.f k bt177.1 bt177.2.1 bt177.2.2.1 bt177.2.2.2 bt192.1 bt192.2.1 bt192.2.2.1 bt192.2.2.2).bind fun t198 => (if t198 = true then ((laws_toItem.f k a1_0 a1_1 a1_2 l1_3).bind fun bt199 => ((laws_eqItem.f k bt184.1 bt184.2.1 bt184.2.2.1 bt184.2.2.2 bt199.1 bt199.2.1 bt199.2.2.1 bt199.2.2.2).bind fun t205 => (if t205 = true then (some true) else (some false)))) else (some false)))) else (some false)))))))))))) = some r := h
 clear h
 replace H := Option.bind_eq_some_iff.mp H
 obtain ⟨t162, A30, H⟩ := H
 replace H : (if t162 < 0 then (some true) else ((laws_szItem.f a1_0 a1_1 a1_2 l1_3 t162).bind fun t163 => (if t163 < 0 then (some true) else ((laws_toItem.f k a0_0 a0_1 a0_2 l0_3).bind fun bt164 => ((laws_toItem.f k a1_0 a1_1 a1_2 l1_3).bind fun bt170 => ((spec_ItemCompare.f k bt164.1 bt164.2.1 bt164.2.2.1 bt164.2.2.2 bt170.1 bt170.2.1 bt170.2.2.1 bt170.2.2.2).bind fun t176 => ((laws_toItem.f k a0_0 a0_1 a0_2 l0_3).bind fun bt177 => ((laws_toItem.f k a1_0 a1_1 a1_2 l1_3).bind fun bt184 => ((impl_ItemCompare.f k bt177.1 bt177.2.1 bt177.2.2.1 bt177.2.2.2 bt184.1 bt184.2.1 bt184.2.2.1 bt184.2.2.2).bind fun t191 => (if t191 = t176 then ((laws_toItem.f k a0_0 a0_1 a0_2 l0_3).bind fun bt192 => ((laws_eqItem.f k bt177.1 bt177.2.1 bt177.2.2.1 bt177.2.2.2 bt192.1 bt192.2.1 bt192.2.2.1 bt192.2.2.2).bind fun t198 => (if t198 = true then ((laws_toItem.f k a1_0 a1_1 a1_2 l1_3).bind fun bt199 => ((laws_eqItem.f k bt184.1 bt184.2.1 bt184.2.2.1 bt184.2.2.2 bt199.1 bt199.2.1 bt199.2.2.1 bt199.2.2.2).bind fun t205 => (if t205 = true then (some true) else (some false)))) else (some false)))) else (some false))))))))))) = some r := H
 have A3 := Aside0.mk A30
 clear A30
 by_cases c4 : t162 < 0
 ·rw [if_pos c4] at H
  have c4b0 : decide (t162 < 0) = true := decide_eq_true c4
  clear c4
  obtain rfl := Option.some.inj H
  go_enter Try.func3, Try.ntmps3
  go_wp2_with (first | ((with_reducible refine gate_dst (N := 2) rfl ?_); refine box_event ?hg (N := 2) ?hd (cs := #[.int .i64 a0_0, .int .i64 a0_1, .float .f64 a0_2, .slice A0_3 l0_3.length c0_3]) (t := 25) ?hr ?_; (case hd => rfl); (case hg => rfl); (case hr => first | (go_simp; done) | (go_simp; rfl)); intro gb160 hg w5 hbox hb; have n0_ := Aside0.mk (below_step (by repeat (first | (with_reducible first | exact HB.out | apply below_alloc | apply rb4 | apply below_drew1) | exact HB.out)) hb); have n1_ := Aside0.mk (hbox); have n2_ := Aside0.mk ((by rw [hg]; exact (below_size (by repeat (first | (with_reducible first | exact HB.out | apply below_alloc | apply rb4 | apply below_drew1) | exact HB.out))) : w.heap.size ≤ gb160)); have n3_ := Aside0.mk ((by rw [hg]; exact (below_size (by repeat (first | (with_reducible first | exact HB.out | apply below_alloc | apply rb4 | apply below_drew1) | exact HB.out))) : w.heap.size ≤ gb160)); clear HB; have HB := n0_; have BK160 := n1_; have GW160 := n2_; have GE160 := n3_; clear n0_ n1_ n2_ n3_; clear hb hbox hg) | ((with_reducible refine gate_dst (N := 3) rfl ?_); refine box_event ?hg (N := 3) ?hd (cs := #[.int .i64 a1_0, .int .i64 a1_1, .float .f64 a1_2, .slice A1_3 l1_3.length c1_3]) (t := 25) ?hr ?_; (case hd => rfl); (case hg => rfl); (case hr => first | (go_simp; done) | (go_simp; rfl)); intro gb161 hg w6 hbox hb; have n0_ := Aside0.mk (blk_below (g := gb160) (o := .cells #[.int .i64 a0_0, .int .i64 a0_1, .float .f64 a0_2, .slice A0_3 l0_3.length c0_3] 25 (0, 0)) (by (with_reducible repeat (first | refine rb1 ?_ _ | refine rb2 ?_ | refine rb3 ?_ _)); exact BK160.out) hb); have n1_ := Aside0.mk (below_step (by repeat (first | (with_reducible first | exact HB.out | apply below_alloc | apply rb4 | apply below_drew1 | refine below_set ?_ GE160.out) | exact HB.out)) hb); have n2_ := Aside0.mk (hbox); have n3_ := Aside0.mk ((by rw [hg]; exact (below_size (by repeat (first | (with_reducible first | exact HB.out | apply below_alloc | apply rb4 | apply below_drew1 | refine below_set ?_ GE160.out) | exact HB.out))) : w.heap.size ≤ gb161)); have n4_ := Aside0.mk ((by rw [hg]; exact (below_size (by repeat (first | (with_reducible first | exact HB.out | apply below_alloc | apply rb4 | apply below_drew1 | refine below_set ?_ GE160.out) | exact HB.out))) : w.heap.size ≤ gb161)); have n5_ := Aside0.mk ((by rw [hg]; exact Nat.ne_of_lt (blk_lt (g := gb160) (o := .cells #[.int .i64 a0_0, .int .i64 a0_1, .float .f64 a0_2, .slice A0_3 l0_3.length c0_3] 25 (0, 0)) (by (with_reducible repeat (first | refine rb1 ?_ _ | refine rb2 ?_ | refine rb3 ?_ _)); exact BK160.out)) : gb160 ≠ gb161)); have n6_ := Aside0.mk ((by rw [hg]; exact Nat.ne_of_gt (blk_lt (g := gb160) (o := .cells #[.int .i64 a0_0, .int .i64 a0_1, .float .f64 a0_2, .slice A0_3 l0_3.length c0_3] 25 (0, 0)) (by (with_reducible repeat (first | refine rb1 ?_ _ | refine rb2 ?_ | refine rb3 ?_ _)); exact BK160.out)) : gb161 ≠ gb160)); clear BK160; clear HB; have BK160 := n0_; have HB := n1_; have BK161 := n2_; have GW161 := n3_; have GE161 := n4_; have NB160_161 := n5_; have NB161_160 := n6_; clear n0_ n1_ n2_ n3_ n4_ n5_ n6_; clear hb hbox hg; have hnb7 := NB160_161.out; have hnc7 := NB161_160.out; have hcz8_0 : w6.cell? ⟨gb160, 0, none⟩ = some (.int .i64 a0_0) := (blk_cell BK160.out 0).trans rfl; have hcz8_1 : w6.cell? ⟨gb160, 1, none⟩ = some (.int .i64 a0_1) := (blk_cell BK160.out 1).trans rfl; have hcz8_2 : w6.cell? ⟨gb160, 2, none⟩ = some (.float .f64 a0_2) := (blk_cell BK160.out 2).trans rfl; have hcz8_3 : w6.cell? ⟨gb160, 3, none⟩ = some (.slice A0_3 l0_3.length c0_3) := (blk_cell BK160.out 3).trans rfl; have hfz8_0 := blk_frozen BK160.out 0; have hfz8_1 := blk_frozen BK160.out 1; have hfz8_2 := blk_frozen BK160.out 2; have hfz8_3 := blk_frozen BK160.out 3) | ((with_reducible refine gate_callee (f := 8) rfl ?_); refine goesL_ (some 12) rfl rfl Try.func8 (by kernel_rfl) rfl #[.agg #[.int .i64 a0_0, .int .i64 a0_1, .float .f64 a0_2, .slice A0_3 l0_3.length c0_3], .int .i64 1048576] rfl (by (try simp only [List.map_toArray, List.map_cons, List.map_nil]); first | done | rfl | (simp only [List.length_drop, List.length_take]; rfl)) ?_; (with_reducible refine (laws_szItem.calls a0_0 a0_1 a0_2 _ _ l0_3 1048576 t162 _ ?side1 ?side2 A3.out).mono ?_); (case side1 => repeat (first | exact (Kd.C_below HR0_3.out HB.out) | (with_reducible refine ra6 ?_ _) | (with_reducible refine ra7 ?_ _) | (with_reducible refine ra8 ?_))); (case side2 => exact HC0_3.out); rintro e w9 ⟨rfl, hb⟩; refine ⟨_, rfl, ?_⟩; have n0_ := Aside0.mk (blk_below (g := gb160) (o := .cells #[.int .i64 a0_0, .int .i64 a0_1, .float .f64 a0_2, .slice A0_3 l0_3.length c0_3] 25 (0, 0)) (by (with_reducible repeat (first | refine rb1 ?_ _ | refine rb2 ?_ | refine rb3 ?_ _)); exact BK160.out) hb); have n1_ := Aside0.mk (blk_below (g := gb161) (o := .cells #[.int .i64 a1_0, .int .i64 a1_1, .float .f64 a1_2, .slice A1_3 l1_3.length c1_3] 25 (0, 0)) (by (with_reducible repeat (first | refine rb1 ?_ _ | refine rb2 ?_ | refine rb3 ?_ _)); exact BK161.out) hb); have n2_ := Aside0.mk (below_step (by repeat (first | (with_reducible first | exact HB.out | apply below_alloc | apply rb4 | apply below_drew1 | refine below_set ?_ GE160.out | refine below_set ?_ GE161.out) | exact HB.out)) hb); clear BK160; clear BK161; clear HB; have BK160 := n0_; have BK161 := n1_; have HB := n2_; clear n0_ n1_ n2_; (try clear hb); (try clear hb2); (try clear hk); (try clear hi)))
  go_ret
  exact ⟨by first | rfl | (simp [errW_none, errW_some] <;> rfl) | (simp [*, errW_none, errW_some] <;> rfl), by repeat (first | (with_reducible first | exact HB.out | apply below_alloc | apply rb4 | apply below_drew1 | refine below_set ?_ GE160.out | refine below_set ?_ GE161.out) | exact HB.out)⟩
 ·rw [if_neg c4] at H
  have c4b0 : decide (t162 < 0) = false := decide_eq_false c4
  clear c4
  replace H := Option.bind_eq_some_iff.mp H
  obtain ⟨t163, A100, H⟩ := H
  replace H : (if t163 < 0 then (some true) else ((laws_toItem.f k a0_0 a0_1 a0_2 l0_3).bind fun bt164 => ((laws_toItem.f k a1_0 a1_1 a1_2 l1_3).bind fun bt170 => ((spec_ItemCompare.f k bt164.1 bt164.2.1 bt164.2.2.1 bt164.2.2.2 bt170.1 bt170.2.1 bt170.2.2.1 bt170.2.2.2).bind fun t176 => ((laws_toItem.f k a0_0 a0_1 a0_2 l0_3).bind fun bt177 => ((laws_toItem.f k a1_0 a1_1 a1_2 l1_3).bind fun bt184 => ((impl_ItemCompare.f k bt177.1 bt177.2.1 bt177.2.2.1 bt177.2.2.2 bt184.1 bt184.2.1 bt184.2.2.1 bt184.2.2.2).bind fun t191 => (if t191 = t176 then ((laws_toItem.f k a0_0 a0_1 a0_2 l0_3).bind fun bt192 => ((laws_eqItem.f k bt177.1 bt177.2.1 bt177.2.2.1 bt177.2.2.2 bt192.1 bt192.2.1 bt192.2.2.1 bt192.2.2.2).bind fun t198 => (if t198 = true then ((laws_toItem.f k a1_0 a1_1 a1_2 l1_3).bind fun bt199 => ((laws_eqItem.f k bt184.1 bt184.2.1 bt184.2.2.1 bt184.2.2.2 bt199.1 bt199.2.1 bt199.2.2.1 bt199.2.2.2).bind fun t205 => (if t205 = true then (some true) else (some false)))) else (some false)))) else (some false))))))))) = some r := H
  have A10 := Aside0.mk A100
  clear A100
  by_cases c11 : t163 < 0
  ·rw [if_pos c11] at H
   have c11b0 : decide (t163 < 0) = true := decide_eq_true c11
   clear c11
   obtain rfl := Option.some.inj H
   go_enter Try.func3, Try.ntmps3
   go_wp2_with (first | ((with_reducible refine gate_dst (N := 2) rfl ?_); refine box_event ?hg (N := 2) ?hd (cs := #[.int .i64 a0_0, .int .i64 a0_1, .float .f64 a0_2, .slice A0_3 l0_3.length c0_3]) (t := 25) ?hr ?_; (case hd => rfl); (case hg => rfl); (case hr => first | (go_simp; done) | (go_simp; rfl)); intro gb160 hg w12 hbox hb; have n0_ := Aside0.mk (below_step (by repeat (first | (with_reducible first | exact HB.out | apply below_alloc | apply rb4 | apply below_drew1) | exact HB.out)) hb); have n1_ := Aside0.mk (hbox); have n2_ := Aside0.mk ((by rw [hg]; exact (below_size (by repeat (first | (with_reducible first | exact HB.out | apply below_alloc | apply rb4 | apply below_drew1) | exact HB.out))) : w.heap.size ≤ gb160)); have n3_ := Aside0.mk ((by rw [hg]; exact (below_size (by repeat (first | (with_reducible first | exact HB.out | apply below_alloc | apply rb4 | apply below_drew1) | exact HB.out))) : w.heap.size ≤ gb160)); clear HB; have HB := n0_; have BK160 := n1_; have GW160 := n2_; have GE160 := n3_; clear n0_ n1_ n2_ n3_; clear hb hbox hg) | ((with_reducible refine gate_dst (N := 3) rfl ?_); refine box_event ?hg (N := 3) ?hd (cs := #[.int .i64 a1_0, .int .i64 a1_1, .float .f64 a1_2, .slice A1_3 l1_3.length c1_3]) (t := 25) ?hr ?_; (case hd => rfl); (case hg => rfl); (case hr => first | (go_simp; done) | (go_simp; rfl)); intro gb161 hg w13 hbox hb; have n0_ := Aside0.mk (blk_below (g := gb160) (o := .cells #[.int .i64 a0_0, .int .i64 a0_1, .float .f64 a0_2, .slice A0_3 l0_3.length c0_3] 25 (0, 0)) (by (with_reducible repeat (first | refine rb1 ?_ _ | refine rb2 ?_ | refine rb3 ?_ _)); exact BK160.out) hb); have n1_ := Aside0.mk (below_step (by repeat (first | (with_reducible first | exact HB.out | apply below_alloc | apply rb4 | apply below_drew1 | refine below_set ?_ GE160.out) | exact HB.out)) hb); have n2_ := Aside0.mk (hbox); have n3_ := Aside0.mk ((by rw [hg]; exact (below_size (by repeat (first | (with_reducible first | exact HB.out | apply below_alloc | apply rb4 | apply below_drew1 | refine below_set ?_ GE160.out) | exact HB.out))) : w.heap.size ≤ gb161)); have n4_ := Aside0.mk ((by rw [hg]; exact (below_size (by repeat (first | (with_reducible first | exact HB.out | apply below_alloc | apply rb4 | apply below_drew1 | refine below_set ?_ GE160.out) | exact HB.out))) : w.heap.size ≤ gb161)); have n5_ := Aside0.mk ((by rw [hg]; exact Nat.ne_of_lt (blk_lt (g := gb160) (o := .cells #[.int .i64 a0_0, .int .i64 a0_1, .float .f64 a0_2, .slice A0_3 l0_3.length c0_3] 25 (0, 0)) (by (with_reducible repeat (first | refine rb1 ?_ _ | refine rb2 ?_ | refine rb3 ?_ _)); exact BK160.out)) : gb160 ≠ gb161)); have n6_ := Aside0.mk ((by rw [hg]; exact Nat.ne_of_gt (blk_lt (g := gb160) (o := .cells #[.int .i64 a0_0, .int .i64 a0_1, .float .f64 a0_2, .slice A0_3 l0_3.length c0_3] 25 (0, 0)) (by (with_reducible repeat (first | refine rb1 ?_ _ | refine rb2 ?_ | refine rb3 ?_ _)); exact BK160.out)) : gb161 ≠ gb160)); clear BK160; clear HB; have BK160 := n0_; have HB := n1_; have BK161 := n2_; have GW161 := n3_; have GE161 := n4_; have NB160_161 := n5_; have NB161_160 := n6_; clear n0_ n1_ n2_ n3_ n4_ n5_ n6_; clear hb hbox hg; have hnb14 := NB160_161.out; have hnc14 := NB161_160.out; have hcz15_0 : w13.cell? ⟨gb160, 0, none⟩ = some (.int .i64 a0_0) := (blk_cell BK160.out 0).trans rfl; have hcz15_1 : w13.cell? ⟨gb160, 1, none⟩ = some (.int .i64 a0_1) := (blk_cell BK160.out 1).trans rfl; have hcz15_2 : w13.cell? ⟨gb160, 2, none⟩ = some (.float .f64 a0_2) := (blk_cell BK160.out 2).trans rfl; have hcz15_3 : w13.cell? ⟨gb160, 3, none⟩ = some (.slice A0_3 l0_3.length c0_3) := (blk_cell BK160.out 3).trans rfl; have hfz15_0 := blk_frozen BK160.out 0; have hfz15_1 := blk_frozen BK160.out 1; have hfz15_2 := blk_frozen BK160.out 2; have hfz15_3 := blk_frozen BK160.out 3) | ((with_reducible refine gate_callee (f := 8) rfl ?_); refine goesL_ (some 12) rfl rfl Try.func8 (by kernel_rfl) rfl #[.agg #[.int .i64 a0_0, .int .i64 a0_1, .float .f64 a0_2, .slice A0_3 l0_3.length c0_3], .int .i64 1048576] rfl (by (try simp only [List.map_toArray, List.map_cons, List.map_nil]); first | done | rfl | (simp only [List.length_drop, List.length_take]; rfl)) ?_; (with_reducible refine (laws_szItem.calls a0_0 a0_1 a0_2 _ _ l0_3 1048576 t162 _ ?side1 ?side2 A3.out).mono ?_); (case side1 => repeat (first | exact (Kd.C_below HR0_3.out HB.out) | (with_reducible refine ra6 ?_ _) | (with_reducible refine ra7 ?_ _) | (with_reducible refine ra8 ?_))); (case side2 => exact HC0_3.out); rintro e w16 ⟨rfl, hb⟩; refine ⟨_, rfl, ?_⟩; have n0_ := Aside0.mk (blk_below (g := gb160) (o := .cells #[.int .i64 a0_0, .int .i64 a0_1, .float .f64 a0_2, .slice A0_3 l0_3.length c0_3] 25 (0, 0)) (by (with_reducible repeat (first | refine rb1 ?_ _ | refine rb2 ?_ | refine rb3 ?_ _)); exact BK160.out) hb); have n1_ := Aside0.mk (blk_below (g := gb161) (o := .cells #[.int .i64 a1_0, .int .i64 a1_1, .float .f64 a1_2, .slice A1_3 l1_3.length c1_3] 25 (0, 0)) (by (with_reducible repeat (first | refine rb1 ?_ _ | refine rb2 ?_ | refine rb3 ?_ _)); exact BK161.out) hb); have n2_ := Aside0.mk (below_step (by repeat (first | (with_reducible first | exact HB.out | apply below_alloc | apply rb4 | apply below_drew1 | refine below_set ?_ GE160.out | refine below_set ?_ GE161.out) | exact HB.out)) hb); clear BK160; clear BK161; clear HB; have BK160 := n0_; have BK161 := n1_; have HB := n2_; clear n0_ n1_ n2_; (try clear hb); (try clear hb2); (try clear hk); (try clear hi); have hcz17_0 : w16.cell? ⟨gb161, 0, none⟩ = some (.int .i64 a1_0) := (blk_cell BK161.out 0).trans rfl; have hcz17_1 : w16.cell? ⟨gb161, 1, none⟩ = some (.int .i64 a1_1) := (blk_cell BK161.out 1).trans rfl; have hcz17_2 : w16.cell? ⟨gb161, 2, none⟩ = some (.float .f64 a1_2) := (blk_cell BK161.out 2).trans rfl; have hcz17_3 : w16.cell? ⟨gb161, 3, none⟩ = some (.slice A1_3 l1_3.length c1_3) := (blk_cell BK161.out 3).trans rfl; have hfz17_0 := blk_frozen BK161.out 0; have hfz17_1 := blk_frozen BK161.out 1; have hfz17_2 := blk_frozen BK161.out 2; have hfz17_3 := blk_frozen BK161.out 3) | ((with_reducible refine gate_callee (f := 8) rfl ?_); refine goesL_ (some 17) rfl rfl Try.func8 (by kernel_rfl) rfl #[.agg #[.int .i64 a1_0, .int .i64 a1_1, .float .f64 a1_2, .slice A1_3 l1_3.length c1_3], .int .i64 t162] rfl (by (try simp only [List.map_toArray, List.map_cons, List.map_nil]); first | done | rfl | (simp only [List.length_drop, List.length_take]; rfl)) ?_; (with_reducible refine (laws_szItem.calls a1_0 a1_1 a1_2 _ _ l1_3 t162 t163 _ ?side1 ?side2 A10.out).mono ?_); (case side1 => repeat (first | exact (Kd.C_below HR1_3.out HB.out) | (with_reducible refine ra6 ?_ _) | (with_reducible refine ra7 ?_ _) | (with_reducible refine ra8 ?_))); (case side2 => exact HC1_3.out); rintro e w18 ⟨rfl, hb⟩; refine ⟨_, rfl, ?_⟩; have n0_ := Aside0.mk (blk_below (g := gb160) (o := .cells #[.int .i64 a0_0, .int .i64 a0_1, .float .f64 a0_2, .slice A0_3 l0_3.length c0_3] 25 (0, 0)) (by (with_reducible repeat (first | refine rb1 ?_ _ | refine rb2 ?_ | refine rb3 ?_ _)); exact BK160.out) hb); have n1_ := Aside0.mk (blk_below (g := gb161) (o := .cells #[.int .i64 a1_0, .int .i64 a1_1, .float .f64 a1_2, .slice A1_3 l1_3.length c1_3] 25 (0, 0)) (by (with_reducible repeat (first | refine rb1 ?_ _ | refine rb2 ?_ | refine rb3 ?_ _)); exact BK161.out) hb); have n2_ := Aside0.mk (below_step (by repeat (first | (with_reducible first | exact HB.out | apply below_alloc | apply rb4 | apply below_drew1 | refine below_set ?_ GE160.out | refine below_set ?_ GE161.out) | exact HB.out)) hb); clear BK160; clear BK161; clear HB; have BK160 := n0_; have BK161 := n1_; have HB := n2_; clear n0_ n1_ n2_; (try clear hb); (try clear hb2); (try clear hk); (try clear hi)))
   go_ret
   exact ⟨by first | rfl | (simp [errW_none, errW_some] <;> rfl) | (simp [*, errW_none, errW_some] <;> rfl), by repeat (first | (with_reducible first | exact HB.out | apply below_alloc | apply rb4 | apply below_drew1 | refine below_set ?_ GE160.out | refine below_set ?_ GE161.out) | exact HB.out)⟩
  ·rw [if_neg c11] at H
   have c11b0 : decide (t163 < 0) = false := decide_eq_false c11
   clear c11
   replace H := Option.bind_eq_some_iff.mp H
   obtain ⟨⟨t164, t165, t166, t167⟩, A190, H⟩ := H
   replace H : ((laws_toItem.f k a1_0 a1_1 a1_2 l1_3).bind fun bt170 => ((spec_ItemCompare.f k t164 t165 t166 t167 bt170.1 bt170.2.1 bt170.2.2.1 bt170.2.2.2).bind fun t176 => ((laws_toItem.f k a0_0 a0_1 a0_2 l0_3).bind fun bt177 => ((laws_toItem.f k a1_0 a1_1 a1_2 l1_3).bind fun bt184 => ((impl_ItemCompare.f k bt177.1 bt177.2.1 bt177.2.2.1 bt177.2.2.2 bt184.1 bt184.2.1 bt184.2.2.1 bt184.2.2.2).bind fun t191 => (if t191 = t176 then ((laws_toItem.f k a0_0 a0_1 a0_2 l0_3).bind fun bt192 => ((laws_eqItem.f k bt177.1 bt177.2.1 bt177.2.2.1 bt177.2.2.2 bt192.1 bt192.2.1 bt192.2.2.1 bt192.2.2.2).bind fun t198 => (if t198 = true then ((laws_toItem.f k a1_0 a1_1 a1_2 l1_3).bind fun bt199 => ((laws_eqItem.f k bt184.1 bt184.2.1 bt184.2.2.1 bt184.2.2.2 bt199.1 bt199.2.1 bt199.2.2.1 bt199.2.2.2).bind fun t205 => (if t205 = true then (some true) else (some false)))) else (some false)))) else (some false))))))) = some r := H
   have A19 := Aside0.mk A190
   clear A190
   replace H := Option.bind_eq_some_iff.mp H
   obtain ⟨⟨t170, t171, t172, t173⟩, A200, H⟩ := H
   replace H : ((spec_ItemCompare.f k t164 t165 t166 t167 t170 t171 t172 t173).bind fun t176 => ((laws_toItem.f k a0_0 a0_1 a0_2 l0_3).bind fun bt177 => ((laws_toItem.f k a1_0 a1_1 a1_2 l1_3).bind fun bt184 => ((impl_ItemCompare.f k bt177.1 bt177.2.1 bt177.2.2.1 bt177.2.2.2 bt184.1 bt184.2.1 bt184.2.2.1 bt184.2.2.2).bind fun t191 => (if t191 = t176 then ((laws_toItem.f k a0_0 a0_1 a0_2 l0_3).bind fun bt192 => ((laws_eqItem.f k bt177.1 bt177.2.1 bt177.2.2.1 bt177.2.2.2 bt192.1 bt192.2.1 bt192.2.2.1 bt192.2.2.2).bind fun t198 => (if t198 = true then ((laws_toItem.f k a1_0 a1_1 a1_2 l1_3).bind fun bt199 => ((laws_eqItem.f k bt184.1 bt184.2.1 bt184.2.2.1 bt184.2.2.2 bt199.1 bt199.2.1 bt199.2.2.1 bt199.2.2.2).bind fun t205 => (if t205 = true then (some true) else (some false)))) else (some false)))) else (some false)))))) = some r := H
   have A20 := Aside0.mk A200
   clear A200
   replace H := Option.bind_eq_some_iff.mp H
   obtain ⟨t176, A210, H⟩ := H
   replace H : ((laws_toItem.f k a0_0 a0_1 a0_2 l0_3).bind fun bt177 => ((laws_toItem.f k a1_0 a1_1 a1_2 l1_3).bind fun bt184 => ((impl_ItemCompare.f k bt177.1 bt177.2.1 bt177.2.2.1 bt177.2.2.2 bt184.1 bt184.2.1 bt184.2.2.1 bt184.2.2.2).bind fun t191 => (if t191 = t176 then ((laws_toItem.f k a0_0 a0_1 a0_2 l0_3).bind fun bt192 => ((laws_eqItem.f k bt177.1 bt177.2.1 bt177.2.2.1 bt177.2.2.2 bt192.1 bt192.2.1 bt192.2.2.1 bt192.2.2.2).bind fun t198 => (if t198 = true then ((laws_toItem.f k a1_0 a1_1 a1_2 l1_3).bind fun bt199 => ((laws_eqItem.f k bt184.1 bt184.2.1 bt184.2.2.1 bt184.2.2.2 bt199.1 bt199.2.1 bt199.2.2.1 bt199.2.2.2).bind fun t205 => (if t205 = true then (some true) else (some false)))) else (some false)))) else (some false))))) = some r := H
   have A21 := Aside0.mk A210
   clear A210
   replace H := Option.bind_eq_some_iff.mp H
   obtain ⟨⟨t177, t178, t179, t180⟩, A220, H⟩ := H
   replace H : ((laws_toItem.f k a1_0 a1_1 a1_2 l1_3).bind fun bt184 => ((impl_ItemCompare.f k t177 t178 t179 t180 bt184.1 bt184.2.1 bt184.2.2.1 bt184.2.2.2).bind fun t191 => (if t191 = t176 then ((laws_toItem.f k a0_0 a0_1 a0_2 l0_3).bind fun bt192 => ((laws_eqItem.f k t177 t178 t179 t180 bt192.1 bt192.2.1 bt192.2.2.1 bt192.2.2.2).bind fun t198 => (if t198 = true then ((laws_toItem.f k a1_0 a1_1 a1_2 l1_3).bind fun bt199 => ((laws_eqItem.f k bt184.1 bt184.2.1 bt184.2.2.1 bt184.2.2.2 bt199.1 bt199.2.1 bt199.2.2.1 bt199.2.2.2).bind fun t205 => (if t205 = true then (some true) else (some false)))) else (some false)))) else (some false)))) = some r := H
   have A22 := Aside0.mk A220
   clear A220
   replace H := Option.bind_eq_some_iff.mp H
   obtain ⟨⟨t184, t185, t186, t187⟩, A230, H⟩ := H
   replace H : ((impl_ItemCompare.f k t177 t178 t179 t180 t184 t185 t186 t187).bind fun t191 => (if t191 = t176 then ((laws_toItem.f k a0_0 a0_1 a0_2 l0_3).bind fun bt192 => ((laws_eqItem.f k t177 t178 t179 t180 bt192.1 bt192.2.1 bt192.2.2.1 bt192.2.2.2).bind fun t198 => (if t198 = true then ((laws_toItem.f k a1_0 a1_1 a1_2 l1_3).bind fun bt199 => ((laws_eqItem.f k t184 t185 t186 t187 bt199.1 bt199.2.1 bt199.2.2.1 bt199.2.2.2).bind fun t205 => (if t205 = true then (some true) else (some false)))) else (some false)))) else (some false))) = some r := H
   have A23 := Aside0.mk A230
   clear A230
   replace H := Option.bind_eq_some_iff.mp H
   obtain ⟨t191, A240, H⟩ := H
   replace H : (if t191 = t176 then ((laws_toItem.f k a0_0 a0_1 a0_2 l0_3).bind fun bt192 => ((laws_eqItem.f k t177 t178 t179 t180 bt192.1 bt192.2.1 bt192.2.2.1 bt192.2.2.2).bind fun t198 => (if t198 = true then ((laws_toItem.f k a1_0 a1_1 a1_2 l1_3).bind fun bt199 => ((laws_eqItem.f k t184 t185 t186 t187 bt199.1 bt199.2.1 bt199.2.2.1 bt199.2.2.2).bind fun t205 => (if t205 = true then (some true) else (some false)))) else (some false)))) else (some false)) = some r := H
   have A24 := Aside0.mk A240
   clear A240
   by_cases c25 : t191 = t176
   ·rw [if_pos c25] at H
    have c25b0 : (t191 == t176) = true := beq_iff_eq.mpr c25
    have c25b1 : (t191 != t176) = false := bne_eq_false_iff_eq.mpr c25
    clear c25
    replace H := Option.bind_eq_some_iff.mp H
    obtain ⟨⟨t192, t193, t194, t195⟩, A260, H⟩ := H
    replace H : ((laws_eqItem.f k t177 t178 t179 t180 t192 t193 t194 t195).bind fun t198 => (if t198 = true then ((laws_toItem.f k a1_0 a1_1 a1_2 l1_3).bind fun bt199 => ((laws_eqItem.f k t184 t185 t186 t187 bt199.1 bt199.2.1 bt199.2.2.1 bt199.2.2.2).bind fun t205 => (if t205 = true then (some true) else (some false)))) else (some false))) = some r := H
    have A26 := Aside0.mk A260
    clear A260
    replace H := Option.bind_eq_some_iff.mp H
    obtain ⟨t198, A270, H⟩ := H
    replace H : (if t198 = true then ((laws_toItem.f k a1_0 a1_1 a1_2 l1_3).bind fun bt199 => ((laws_eqItem.f k t184 t185 t186 t187 bt199.1 bt199.2.1 bt199.2.2.1 bt199.2.2.2).bind fun t205 => (if t205 = true then (some true) else (some false)))) else (some false)) = some r := H
    have A27 := Aside0.mk A270
    clear A270
    by_cases c28 : t198 = true
    ·subst c28
     have H1 : ((laws_toItem.f k a1_0 a1_1 a1_2 l1_3).bind fun bt199 => ((laws_eqItem.f k t184 t185 t186 t187 bt199.1 bt199.2.1 bt199.2.2.1 bt199.2.2.2).bind fun t205 => (if t205 = true then (some true) else (some false)))) = some r := by rw [if_pos rfl] at H; exact H
     clear H
     have H := H1
     clear H1
     replace H := Option.bind_eq_some_iff.mp H
     obtain ⟨⟨t199, t200, t201, t202⟩, A290, H⟩ := H
     replace H : ((laws_eqItem.f k t184 t185 t186 t187 t199 t200 t201 t202).bind fun t205 => (if t205 = true then (some true) else (some false))) = some r := H
     have A29 := Aside0.mk A290
     clear A290
     replace H := Option.bind_eq_some_iff.mp H
     obtain ⟨t205, A300, H⟩ := H
     replace H : (if t205 = true then (some true) else (some false)) = some r := H
     have A30 := Aside0.mk A300
     clear A300
     by_cases c31 : t205 = true
     ·subst c31
      have H1 : (some true) = some r := by rw [if_pos rfl] at H; exact H
      clear H
      have H := H1
      clear H1
      obtain rfl := Option.some.inj H
      go_enter Try.func3, Try.ntmps3
      try go_wp2_with (first | ((with_reducible refine gate_dst (N := 2) rfl ?_); refine box_event ?hg (N := 2) ?hd (cs := #[.int .i64 a0_0, .int .i64 a0_1, .float .f64 a0_2, .slice A0_3 l0_3.length c0_3]) (t := 25) ?hr ?_; (case hd => rfl); (case hg => rfl); (case hr => first | (go_simp; done) | (go_simp; rfl)); intro gb160 hg w32 hbox hb; have n0_ := Aside0.mk (below_step (by repeat (first | (with_reducible first | exact HB.out | apply below_alloc | apply rb4 | apply below_drew1) | exact HB.out)) hb); have n1_ := Aside0.mk (hbox); have n2_ := Aside0.mk ((by rw [hg]; exact (below_size (by repeat (first | (with_reducible first | exact HB.out | apply below_alloc | apply rb4 | apply below_drew1) | exact HB.out))) : w.heap.size ≤ gb160)); have n3_ := Aside0.mk ((by rw [hg]; exact (below_size (by repeat (first | (with_reducible first | exact HB.out | apply below_alloc | apply rb4 | apply below_drew1) | exact HB.out))) : w.heap.size ≤ gb160)); clear HB; have HB := n0_; have BK160 := n1_; have GW160 := n2_; have GE160 := n3_; clear n0_ n1_ n2_ n3_; clear hb hbox hg) | ((with_reducible refine gate_dst (N := 3) rfl ?_); refine box_event ?hg (N := 3) ?hd (cs := #[.int .i64 a1_0, .int .i64 a1_1, .float .f64 a1_2, .slice A1_3 l1_3.length c1_3]) (t := 25) ?hr ?_; (case hd => rfl); (case hg => rfl); (case hr => first | (go_simp; done) | (go_simp; rfl)); intro gb161 hg w33 hbox hb; have n0_ := Aside0.mk (blk_below (g := gb160) (o := .cells #[.int .i64 a0_0, .int .i64 a0_1, .float .f64 a0_2, .slice A0_3 l0_3.length c0_3] 25 (0, 0)) (by (with_reducible repeat (first | refine rb1 ?_ _ | refine rb2 ?_ | refine rb3 ?_ _)); exact BK160.out) hb); have n1_ := Aside0.mk (below_step (by repeat (first | (with_reducible first | exact HB.out | apply below_alloc | apply rb4 | apply below_drew1 | refine below_set ?_ GE160.out) | exact HB.out)) hb); have n2_ := Aside0.mk (hbox); have n3_ := Aside0.mk ((by rw [hg]; exact (below_size (by repeat (first | (with_reducible first | exact HB.out | apply below_alloc | apply rb4 | apply below_drew1 | refine below_set ?_ GE160.out) | exact HB.out))) : w.heap.size ≤ gb161)); have n4_ := Aside0.mk ((by rw [hg]; exact (below_size (by repeat (first | (with_reducible first | exact HB.out | apply below_alloc | apply rb4 | apply below_drew1 | refine below_set ?_ GE160.out) | exact HB.out))) : w.heap.size ≤ gb161)); have n5_ := Aside0.mk ((by rw [hg]; exact Nat.ne_of_lt (blk_lt (g := gb160) (o := .cells #[.int .i64 a0_0, .int .i64 a0_1, .float .f64 a0_2, .slice A0_3 l0_3.length c0_3] 25 (0, 0)) (by (with_reducible repeat (first | refine rb1 ?_ _ | refine rb2 ?_ | refine rb3 ?_ _)); exact BK160.out)) : gb160 ≠ gb161)); have n6_ := Aside0.mk ((by rw [hg]; exact Nat.ne_of_gt (blk_lt (g := gb160) (o := .cells #[.int .i64 a0_0, .int .i64 a0_1, .float .f64 a0_2, .slice A0_3 l0_3.length c0_3] 25 (0, 0)) (by (with_reducible repeat (first | refine rb1 ?_ _ | refine rb2 ?_ | refine rb3 ?_ _)); exact BK160.out)) : gb161 ≠ gb160)); clear BK160; clear HB; have BK160 := n0_; have HB := n1_; have BK161 := n2_; have GW161 := n3_; have GE161 := n4_; have NB160_161 := n5_; have NB161_160 := n6_; clear n0_ n1_ n2_ n3_ n4_ n5_ n6_; clear hb hbox hg; have hnb34 := NB160_161.out; have hnc34 := NB161_160.out; have hcz35_0 : w33.cell? ⟨gb160, 0, none⟩ = some (.int .i64 a0_0) := (blk_cell BK160.out 0).trans rfl; have hcz35_1 : w33.cell? ⟨gb160, 1, none⟩ = some (.int .i64 a0_1) := (blk_cell BK160.out 1).trans rfl; have hcz35_2 : w33.cell? ⟨gb160, 2, none⟩ = some (.float .f64 a0_2) := (blk_cell BK160.out 2).trans rfl; have hcz35_3 : w33.cell? ⟨gb160, 3, none⟩ = some (.slice A0_3 l0_3.length c0_3) := (blk_cell BK160.out 3).trans rfl; have hfz35_0 := blk_frozen BK160.out 0; have hfz35_1 := blk_frozen BK160.out 1; have hfz35_2 := blk_frozen BK160.out 2; have hfz35_3 := blk_frozen BK160.out 3) | ((with_reducible refine gate_callee (f := 8) rfl ?_); refine goesL_ (some 12) rfl rfl Try.func8 (by kernel_rfl) rfl #[.agg #[.int .i64 a0_0, .int .i64 a0_1, .float .f64 a0_2, .slice A0_3 l0_3.length c0_3], .int .i64 1048576] rfl (by (try simp only [List.map_toArray, List.map_cons, List.map_nil]); first | done | rfl | (simp only [List.length_drop, List.length_take]; rfl)) ?_; (with_reducible refine (laws_szItem.calls a0_0 a0_1 a0_2 _ _ l0_3 1048576 t162 _ ?side1 ?side2 A3.out).mono ?_); (case side1 => repeat (first | exact (Kd.C_below HR0_3.out HB.out) | (with_reducible refine ra6 ?_ _) | (with_reducible refine ra7 ?_ _) | (with_reducible refine ra8 ?_))); (case side2 => exact HC0_3.out); rintro e w36 ⟨rfl, hb⟩; refine ⟨_, rfl, ?_⟩; have n0_ := Aside0.mk (blk_below (g := gb160) (o := .cells #[.int .i64 a0_0, .int .i64 a0_1, .float .f64 a0_2, .slice A0_3 l0_3.length c0_3] 25 (0, 0)) (by (with_reducible repeat (first | refine rb1 ?_ _ | refine rb2 ?_ | refine rb3 ?_ _)); exact BK160.out) hb); have n1_ := Aside0.mk (blk_below (g := gb161) (o := .cells #[.int .i64 a1_0, .int .i64 a1_1, .float .f64 a1_2, .slice A1_3 l1_3.length c1_3] 25 (0, 0)) (by (with_reducible repeat (first | refine rb1 ?_ _ | refine rb2 ?_ | refine rb3 ?_ _)); exact BK161.out) hb); have n2_ := Aside0.mk (below_step (by repeat (first | (with_reducible first | exact HB.out | apply below_alloc | apply rb4 | apply below_drew1 | refine below_set ?_ GE160.out | refine below_set ?_ GE161.out) | exact HB.out)) hb); clear BK160; clear BK161; clear HB; have BK160 := n0_; have BK161 := n1_; have HB := n2_; clear n0_ n1_ n2_; (try clear hb); (try clear hb2); (try clear hk); (try clear hi); have hcz37_0 : w36.cell? ⟨gb161, 0, none⟩ = some (.int .i64 a1_0) := (blk_cell BK161.out 0).trans rfl; have hcz37_1 : w36.cell? ⟨gb161, 1, none⟩ = some (.int .i64 a1_1) := (blk_cell BK161.out 1).trans rfl; have hcz37_2 : w36.cell? ⟨gb161, 2, none⟩ = some (.float .f64 a1_2) := (blk_cell BK161.out 2).trans rfl; have hcz37_3 : w36.cell? ⟨gb161, 3, none⟩ = some (.slice A1_3 l1_3.length c1_3) := (blk_cell BK161.out 3).trans rfl; have hfz37_0 := blk_frozen BK161.out 0; have hfz37_1 := blk_frozen BK161.out 1; have hfz37_2 := blk_frozen BK161.out 2; have hfz37_3 := blk_frozen BK161.out 3) | ((with_reducible refine gate_callee (f := 8) rfl ?_); refine goesL_ (some 17) rfl rfl Try.func8 (by kernel_rfl) rfl #[.agg #[.int .i64 a1_0, .int .i64 a1_1, .float .f64 a1_2, .slice A1_3 l1_3.length c1_3], .int .i64 t162] rfl (by (try simp only [List.map_toArray, List.map_cons, List.map_nil]); first | done | rfl | (simp only [List.length_drop, List.length_take]; rfl)) ?_; (with_reducible refine (laws_szItem.calls a1_0 a1_1 a1_2 _ _ l1_3 t162 t163 _ ?side1 ?side2 A10.out).mono ?_); (case side1 => repeat (first | exact (Kd.C_below HR1_3.out HB.out) | (with_reducible refine ra6 ?_ _) | (with_reducible refine ra7 ?_ _) | (with_reducible refine ra8 ?_))); (case side2 => exact HC1_3.out); rintro e w38 ⟨rfl, hb⟩; refine ⟨_, rfl, ?_⟩; have n0_ := Aside0.mk (blk_below (g := gb160) (o := .cells #[.int .i64 a0_0, .int .i64 a0_1, .float .f64 a0_2, .slice A0_3 l0_3.length c0_3] 25 (0, 0)) (by (with_reducible repeat (first | refine rb1 ?_ _ | refine rb2 ?_ | refine rb3 ?_ _)); exact BK160.out) hb); have n1_ := Aside0.mk (blk_below (g := gb161) (o := .cells #[.int .i64 a1_0, .int .i64 a1_1, .float .f64 a1_2, .slice A1_3 l1_3.length c1_3] 25 (0, 0)) (by (with_reducible repeat (first | refine rb1 ?_ _ | refine rb2 ?_ | refine rb3 ?_ _)); exact BK161.out) hb); have n2_ := Aside0.mk (below_step (by repeat (first | (with_reducible first | exact HB.out | apply below_alloc | apply rb4 | apply below_drew1 | refine below_set ?_ GE160.out | refine below_set ?_ GE161.out) | exact HB.out)) hb); clear BK160; clear BK161; clear HB; have BK160 := n0_; have BK161 := n1_; have HB := n2_; clear n0_ n1_ n2_; (try clear hb); (try clear hb2); (try clear hk); (try clear hi)))
      have n0_ := Aside0.mk (rb2 BK160.out)
      have n1_ := Aside0.mk (rb2 BK161.out)
      have n2_ := Aside0.mk (below_drew1 HB.out)
      clear BK160
      clear BK161
      clear HB
      have BK160 := n0_
      have BK161 := n1_
      have HB := n2_
      clear n0_ n1_ n2_
      refine start_ (n := 6) (S := fun w' => w'.cell? ⟨gb160, 0, none⟩ = some (.int .i64 a0_0) ∧ w'.cell? ⟨gb160, 1, none⟩ = some (.int .i64 a0_1) ∧ w'.cell? ⟨gb160, 2, none⟩ = some (.float .f64 a0_2) ∧ w'.cell? ⟨gb160, 3, none⟩ = some (.slice A0_3 l0_3.length c0_3) ∧ w'.cell? ⟨gb161, 0, none⟩ = some (.int .i64 a1_0) ∧ w'.cell? ⟨gb161, 1, none⟩ = some (.int .i64 a1_1) ∧ w'.cell? ⟨gb161, 2, none⟩ = some (.float .f64 a1_2) ∧ w'.cell? ⟨gb161, 3, none⟩ = some (.slice A1_3 l1_3.length c1_3)) (ds := []) #[false, false, false, false, false, false] (by kernel_rfl) rfl rfl ⟨(blk_cell BK160.out 0).trans rfl, (blk_cell BK160.out 1).trans rfl, (blk_cell BK160.out 2).trans rfl, (blk_cell BK160.out 3).trans rfl, (blk_cell BK161.out 0).trans rfl, (blk_cell BK161.out 1).trans rfl, (blk_cell BK161.out 2).trans rfl, (blk_cell BK161.out 3).trans rfl⟩ (fun hHeld => ?_)
      generalize w38.drew = w39 at BK160 BK161 HB hHeld ⊢
      refine take_ (i := 0) (N := some 20) (v := ?_) (a' := ?_) #[true, false, false, false, false, false] rfl rfl (by kernel_rfl) (fun _ _ _ h => h) (Or.inl ⟨by rfl, ?_⟩) hHeld ?_ ?_
      rotate_left
      ·rintro w' ⟨s0, s1, s2, s3, s4, s5, s6, s7⟩
       go_simp
       with_reducible rfl
      rotate_left
      ·simp only [Act.put, List.setIfInBounds_toArray, List.set_cons_zero, List.set_cons_succ, i64_w, i32_w]
       rfl
      refine take_ (i := 2) (N := some 22) (v := ?_) (a' := ?_) #[true, false, true, false, false, false] rfl rfl (by kernel_rfl) (fun _ _ _ h => h) (Or.inl ⟨by rfl, ?_⟩) hHeld ?_ ?_
      rotate_left
      ·rintro w' ⟨s0, s1, s2, s3, s4, s5, s6, s7⟩
       go_simp
       with_reducible rfl
      rotate_left
      ·simp only [Act.put, List.setIfInBounds_toArray, List.set_cons_zero, List.set_cons_succ, i64_w, i32_w]
       rfl
      refine one_ (i := 1) (N := some 21) #[true, true, true, false, false, false] rfl rfl (by kernel_rfl) (by decide) (fun K hK => ?_)
      refine goes_ Try.func10 (by kernel_rfl) rfl #[.agg #[.int .i64 a0_0, .int .i64 a0_1, .float .f64 a0_2, .slice A0_3 l0_3.length c0_3]] (by rfl) rfl rfl (by (try simp only [List.map_toArray, List.map_cons, List.map_nil]); first | done | rfl | (simp only [List.length_drop, List.length_take]; rfl)) ?_
      with_reducible refine (laws_toItem.calls k a0_0 a0_1 a0_2 _ _ l0_3 t164 t165 t166 t167 _ ?side1 ?side2 A19.out).mono ?_
      (case side1 => repeat (first | exact (Kd.C_below HR0_3.out HB.out) | (with_reducible refine ra6 ?_ _) | (with_reducible refine ra7 ?_ _) | (with_reducible refine ra8 ?_)))
      (case side2 => exact HC0_3.out)
      rintro e w40 ⟨v168, rfl, ho0, hb⟩
      refine ⟨_, rfl, ?_⟩
      have n0_ := Aside0.mk (Kd.R_lower ho0 (below_size (by repeat (first | (with_reducible first | exact HB.out | apply below_alloc | apply rb4 | apply below_drew1 | refine below_set ?_ GE160.out | refine below_set ?_ GE161.out) | exact HB.out))))
      have n1_ := Aside0.mk (blk_below (g := gb160) (o := .cells #[.int .i64 a0_0, .int .i64 a0_1, .float .f64 a0_2, .slice A0_3 l0_3.length c0_3] 25 (0, 0)) (by (with_reducible repeat (first | refine rb1 ?_ _ | refine rb2 ?_ | refine rb3 ?_ _)); exact BK160.out) hb)
      have n2_ := Aside0.mk (blk_below (g := gb161) (o := .cells #[.int .i64 a1_0, .int .i64 a1_1, .float .f64 a1_2, .slice A1_3 l1_3.length c1_3] 25 (0, 0)) (by (with_reducible repeat (first | refine rb1 ?_ _ | refine rb2 ?_ | refine rb3 ?_ _)); exact BK161.out) hb)
      have n3_ := Aside0.mk (below_step (by repeat (first | (with_reducible first | exact HB.out | apply below_alloc | apply rb4 | apply below_drew1 | refine below_set ?_ GE160.out | refine below_set ?_ GE161.out) | exact HB.out)) hb)
      clear BK160
      clear BK161
      clear HB
      have HO169 := n0_
      have BK160 := n1_
      have BK161 := n2_
      have HB := n3_
      clear n0_ n1_ n2_ n3_
      (try clear hb)
      (try clear hb2)
      (try clear hk)
      (try clear hi)
      (try clear ho0)
      refine hK.out _ _ ⟨(blk_cell BK160.out 0).trans rfl, (blk_cell BK160.out 1).trans rfl, (blk_cell BK160.out 2).trans rfl, (blk_cell BK160.out 3).trans rfl, (blk_cell BK161.out 0).trans rfl, (blk_cell BK161.out 1).trans rfl, (blk_cell BK161.out 2).trans rfl, (blk_cell BK161.out 3).trans rfl⟩ (fun hHeld => ?_)
      clear hK K
      refine norm_ (a' := ?_) ?_ ?_
      rotate_left
      ·show Act.put _ (some 21) _ = _
       simp only [Act.put, List.setIfInBounds_toArray, List.set_cons_zero, List.set_cons_succ, i64_w, i32_w]
       rfl
      refine one_ (i := 3) (N := some 23) #[true, true, true, true, false, false] rfl rfl (by kernel_rfl) (by decide) (fun K hK => ?_)
      refine goes_ Try.func10 (by kernel_rfl) rfl #[.agg #[.int .i64 a1_0, .int .i64 a1_1, .float .f64 a1_2, .slice A1_3 l1_3.length c1_3]] (by rfl) rfl rfl (by (try simp only [List.map_toArray, List.map_cons, List.map_nil]); first | done | rfl | (simp only [List.length_drop, List.length_take]; rfl)) ?_
      with_reducible refine (laws_toItem.calls k a1_0 a1_1 a1_2 _ _ l1_3 t170 t171 t172 t173 _ ?side1 ?side2 A20.out).mono ?_
      (case side1 => repeat (first | exact (Kd.C_below HR1_3.out HB.out) | (with_reducible refine ra6 ?_ _) | (with_reducible refine ra7 ?_ _) | (with_reducible refine ra8 ?_)))
      (case side2 => exact HC1_3.out)
      rintro e w41 ⟨v174, rfl, ho0, hb⟩
      refine ⟨_, rfl, ?_⟩
      have n0_ := Aside0.mk (ra4 (by (with_reducible repeat (first | apply ra1 | apply ra2 | apply ra3)); exact HO169.out) (Kd.R_base ho0) hb)
      have n1_ := Aside0.mk (Kd.R_lower (Kd.R_new' ho0 (Kd.R_lt (by (with_reducible repeat (first | apply ra1 | apply ra2 | apply ra3)); exact HO169.out))) (below_size (by repeat (first | (with_reducible first | exact HB.out | apply below_alloc | apply rb4 | apply below_drew1 | refine below_set ?_ GE160.out | refine below_set ?_ GE161.out) | exact HB.out))))
      have n2_ := Aside0.mk (blk_below (g := gb160) (o := .cells #[.int .i64 a0_0, .int .i64 a0_1, .float .f64 a0_2, .slice A0_3 l0_3.length c0_3] 25 (0, 0)) (by (with_reducible repeat (first | refine rb1 ?_ _ | refine rb2 ?_ | refine rb3 ?_ _)); exact BK160.out) hb)
      have n3_ := Aside0.mk (blk_below (g := gb161) (o := .cells #[.int .i64 a1_0, .int .i64 a1_1, .float .f64 a1_2, .slice A1_3 l1_3.length c1_3] 25 (0, 0)) (by (with_reducible repeat (first | refine rb1 ?_ _ | refine rb2 ?_ | refine rb3 ?_ _)); exact BK161.out) hb)
      have n4_ := Aside0.mk (below_step (by repeat (first | (with_reducible first | exact HB.out | apply below_alloc | apply rb4 | apply below_drew1 | refine below_set ?_ GE160.out | refine below_set ?_ GE161.out) | exact HB.out)) hb)
      clear HO169
      clear BK160
      clear BK161
      clear HB
      have HO169 := n0_
      have HO175 := n1_
      have BK160 := n2_
      have BK161 := n3_
      have HB := n4_
      clear n0_ n1_ n2_ n3_ n4_
      (try clear hb)
      (try clear hb2)
      (try clear hk)
      (try clear hi)
      (try clear ho0)
      obtain ⟨Ao42, co42, eo42⟩ := Kd.R_slice HO169.out
      (first | subst eo42 | (injection eo42 with f1_ f2_ f3_; have f4_ := f1_.symm; have f5_ := f3_.symm; clear f1_ f2_ f3_; subst f4_; subst f5_))
      obtain ⟨Ao43, co43, eo43⟩ := Kd.R_slice HO175.out
      (first | subst eo43 | (injection eo43 with f1_ f2_ f3_; have f4_ := f1_.symm; have f5_ := f3_.symm; clear f1_ f2_ f3_; subst f4_; subst f5_))
      refine hK.out _ _ ⟨(blk_cell BK160.out 0).trans rfl, (blk_cell BK160.out 1).trans rfl, (blk_cell BK160.out 2).trans rfl, (blk_cell BK160.out 3).trans rfl, (blk_cell BK161.out 0).trans rfl, (blk_cell BK161.out 1).trans rfl, (blk_cell BK161.out 2).trans rfl, (blk_cell BK161.out 3).trans rfl⟩ (fun hHeld => ?_)
      clear hK K
      refine norm_ (a' := ?_) ?_ ?_
      rotate_left
      ·show Act.put _ (some 23) _ = _
       simp only [Act.put, List.setIfInBounds_toArray, List.set_cons_zero, List.set_cons_succ, i64_w, i32_w]
       rfl
      refine one_ (i := 4) (N := some 24) #[true, true, true, true, true, false] rfl rfl (by kernel_rfl) (by decide) (fun K hK => ?_)
      refine goes_ Try.func9 (by kernel_rfl) rfl #[.agg #[.int .i64 t164, .int .i64 t165, .float .f64 t166, .slice Ao42 t167.length co42], .agg #[.int .i64 t170, .int .i64 t171, .float .f64 t172, .slice Ao43 t173.length co43]] (by rfl) rfl rfl (by (try simp only [List.map_toArray, List.map_cons, List.map_nil]); first | done | rfl | (simp only [List.length_drop, List.length_take]; rfl)) ?_
      with_reducible refine (spec_ItemCompare.calls k t164 t165 t166 _ _ t167 t170 t171 t172 _ _ t173 t176 _ ?side1 ?side2 ?side3 ?side4 A21.out).mono ?_
      (case side1 => repeat (first | exact (ra9 HO169.out).2.2 | (with_reducible refine ra6 ?_ _) | (with_reducible refine ra7 ?_ _) | (with_reducible refine ra8 ?_)))
      (case side2 => exact (ra9 HO169.out).2.1)
      (case side3 => repeat (first | exact (ra9 HO175.out).2.2 | (with_reducible refine ra6 ?_ _) | (with_reducible refine ra7 ?_ _) | (with_reducible refine ra8 ?_)))
      (case side4 => exact (ra9 HO175.out).2.1)
      rintro e w44 ⟨rfl, hb⟩
      refine ⟨_, rfl, ?_⟩
      have n0_ := Aside0.mk (ra5 (by (with_reducible repeat (first | apply ra1 | apply ra2 | apply ra3)); exact HO169.out) hb)
      have n1_ := Aside0.mk (ra5 (by (with_reducible repeat (first | apply ra1 | apply ra2 | apply ra3)); exact HO175.out) hb)
      have n2_ := Aside0.mk (blk_below (g := gb160) (o := .cells #[.int .i64 a0_0, .int .i64 a0_1, .float .f64 a0_2, .slice A0_3 l0_3.length c0_3] 25 (0, 0)) (by (with_reducible repeat (first | refine rb1 ?_ _ | refine rb2 ?_ | refine rb3 ?_ _)); exact BK160.out) hb)
      have n3_ := Aside0.mk (blk_below (g := gb161) (o := .cells #[.int .i64 a1_0, .int .i64 a1_1, .float .f64 a1_2, .slice A1_3 l1_3.length c1_3] 25 (0, 0)) (by (with_reducible repeat (first | refine rb1 ?_ _ | refine rb2 ?_ | refine rb3 ?_ _)); exact BK161.out) hb)
      have n4_ := Aside0.mk (below_step (by repeat (first | (with_reducible first | exact HB.out | apply below_alloc | apply rb4 | apply below_drew1 | refine below_set ?_ GE160.out | refine below_set ?_ GE161.out) | exact HB.out)) hb)
      clear HO169
      clear HO175
      clear BK160
      clear BK161
      clear HB
      have HO169 := n0_
      have HO175 := n1_
      have BK160 := n2_
      have BK161 := n3_
      have HB := n4_
      clear n0_ n1_ n2_ n3_ n4_
      (try clear hb)
      (try clear hb2)
      (try clear hk)
      (try clear hi)
      refine hK.out _ _ ⟨(blk_cell BK160.out 0).trans rfl, (blk_cell BK160.out 1).trans rfl, (blk_cell BK160.out 2).trans rfl, (blk_cell BK160.out 3).trans rfl, (blk_cell BK161.out 0).trans rfl, (blk_cell BK161.out 1).trans rfl, (blk_cell BK161.out 2).trans rfl, (blk_cell BK161.out 3).trans rfl⟩ (fun hHeld => ?_)
      clear hK K
      refine norm_ (a' := ?_) ?_ ?_
      rotate_left
      ·show Act.put _ (some 24) _ = _
       simp only [Act.put, List.setIfInBounds_toArray, List.set_cons_zero, List.set_cons_succ, i64_w, i32_w]
       rfl
      refine pure_ (i := 5) (N := some 6) (v := ?_) (a' := ?_) #[true, true, true, true, true, true] rfl rfl (by kernel_rfl) (fun _ _ _ h => h) (Or.inl ⟨by rfl, ?_⟩) ?_ ?_
      rotate_left
      ·intro w'
       go_simp
       with_reducible rfl
      rotate_left
      ·simp only [Act.put, List.setIfInBounds_toArray, List.set_cons_zero, List.set_cons_succ, i64_w, i32_w]
       rfl
      refine done_ (by kernel_rfl) ?_
      have hcz45_0 : w44.cell? ⟨gb160, 0, none⟩ = some (.int .i64 a0_0) := (blk_cell BK160.out 0).trans rfl
      have hcz45_1 : w44.cell? ⟨gb160, 1, none⟩ = some (.int .i64 a0_1) := (blk_cell BK160.out 1).trans rfl
      have hcz45_2 : w44.cell? ⟨gb160, 2, none⟩ = some (.float .f64 a0_2) := (blk_cell BK160.out 2).trans rfl
      have hcz45_3 : w44.cell? ⟨gb160, 3, none⟩ = some (.slice A0_3 l0_3.length c0_3) := (blk_cell BK160.out 3).trans rfl
      have hfz45_0 := blk_frozen BK160.out 0
      have hfz45_1 := blk_frozen BK160.out 1
      have hfz45_2 := blk_frozen BK160.out 2
      have hfz45_3 := blk_frozen BK160.out 3
      try go_wp2_with (first | ((with_reducible refine gate_callee (f := 10) rfl ?_); refine goesL_ (some 26) rfl rfl Try.func10 (by kernel_rfl) rfl #[.agg #[.int .i64 a0_0, .int .i64 a0_1, .float .f64 a0_2, .slice A0_3 l0_3.length c0_3]] rfl (by (try simp only [List.map_toArray, List.map_cons, List.map_nil]); first | done | rfl | (simp only [List.length_drop, List.length_take]; rfl)) ?_; (with_reducible refine (laws_toItem.calls k a0_0 a0_1 a0_2 _ _ l0_3 t177 t178 t179 t180 _ ?side1 ?side2 A22.out).mono ?_); (case side1 => repeat (first | exact (Kd.C_below HR0_3.out HB.out) | (with_reducible refine ra6 ?_ _) | (with_reducible refine ra7 ?_ _) | (with_reducible refine ra8 ?_))); (case side2 => exact HC0_3.out); rintro e w46 ⟨v181, rfl, ho0, hb⟩; refine ⟨_, rfl, ?_⟩; have n0_ := Aside0.mk (ra4 (by (with_reducible repeat (first | apply ra1 | apply ra2 | apply ra3)); exact HO169.out) (Kd.R_base ho0) hb); have n1_ := Aside0.mk (ra4 (by (with_reducible repeat (first | apply ra1 | apply ra2 | apply ra3)); exact HO175.out) (Kd.R_base ho0) hb); have n2_ := Aside0.mk (Kd.R_lower (Kd.R_new' (Kd.R_new' ho0 (Kd.R_lt (by (with_reducible repeat (first | apply ra1 | apply ra2 | apply ra3)); exact HO169.out))) (Kd.R_lt (by (with_reducible repeat (first | apply ra1 | apply ra2 | apply ra3)); exact HO175.out))) (below_size (by repeat (first | (with_reducible first | exact HB.out | apply below_alloc | apply rb4 | apply below_drew1 | refine below_set ?_ GE160.out | refine below_set ?_ GE161.out) | exact HB.out)))); have n3_ := Aside0.mk (blk_below (g := gb160) (o := .cells #[.int .i64 a0_0, .int .i64 a0_1, .float .f64 a0_2, .slice A0_3 l0_3.length c0_3] 25 (0, 0)) (by (with_reducible repeat (first | refine rb1 ?_ _ | refine rb2 ?_ | refine rb3 ?_ _)); exact BK160.out) hb); have n4_ := Aside0.mk (blk_below (g := gb161) (o := .cells #[.int .i64 a1_0, .int .i64 a1_1, .float .f64 a1_2, .slice A1_3 l1_3.length c1_3] 25 (0, 0)) (by (with_reducible repeat (first | refine rb1 ?_ _ | refine rb2 ?_ | refine rb3 ?_ _)); exact BK161.out) hb); have n5_ := Aside0.mk (below_step (by repeat (first | (with_reducible first | exact HB.out | apply below_alloc | apply rb4 | apply below_drew1 | refine below_set ?_ GE160.out | refine below_set ?_ GE161.out) | exact HB.out)) hb); clear HO169; clear HO175; clear BK160; clear BK161; clear HB; have HO169 := n0_; have HO175 := n1_; have HO182 := n2_; have BK160 := n3_; have BK161 := n4_; have HB := n5_; clear n0_ n1_ n2_ n3_ n4_ n5_; (try clear hb); (try clear hb2); (try clear hk); (try clear hi); (try clear ho0)) | ((with_reducible refine gate_dst (N := 7) rfl ?_); refine box_event ?hg (N := 7) ?hd (cs := #[.int .i64 0, .int .i64 0, .float .f64 0, .slice none 0 0]) (t := 28) ?hr ?_; (case hd => rfl); (case hg => rfl); (case hr => first | (go_simp; done) | (go_simp; rfl)); intro gb183 hg w47 hbox hb; have n0_ := Aside0.mk (ra5 (by (with_reducible repeat (first | apply ra1 | apply ra2 | apply ra3)); exact HO169.out) hb); have n1_ := Aside0.mk (ra5 (by (with_reducible repeat (first | apply ra1 | apply ra2 | apply ra3)); exact HO175.out) hb); have n2_ := Aside0.mk (ra5 (by (with_reducible repeat (first | apply ra1 | apply ra2 | apply ra3)); exact HO182.out) hb); have n3_ := Aside0.mk (blk_below (g := gb160) (o := .cells #[.int .i64 a0_0, .int .i64 a0_1, .float .f64 a0_2, .slice A0_3 l0_3.length c0_3] 25 (0, 0)) (by (with_reducible repeat (first | refine rb1 ?_ _ | refine rb2 ?_ | refine rb3 ?_ _)); exact BK160.out) hb); have n4_ := Aside0.mk (blk_below (g := gb161) (o := .cells #[.int .i64 a1_0, .int .i64 a1_1, .float .f64 a1_2, .slice A1_3 l1_3.length c1_3] 25 (0, 0)) (by (with_reducible repeat (first | refine rb1 ?_ _ | refine rb2 ?_ | refine rb3 ?_ _)); exact BK161.out) hb); have n5_ := Aside0.mk (below_step (by repeat (first | (with_reducible first | exact HB.out | apply below_alloc | apply rb4 | apply below_drew1 | refine below_set ?_ GE160.out | refine below_set ?_ GE161.out) | exact HB.out)) hb); have n6_ := Aside0.mk (hbox); have n7_ := Aside0.mk ((by rw [hg]; exact (below_size (by repeat (first | (with_reducible first | exact HB.out | apply below_alloc | apply rb4 | apply below_drew1 | refine below_set ?_ GE160.out | refine below_set ?_ GE161.out) | exact HB.out))) : w.heap.size ≤ gb183)); have n8_ := Aside0.mk ((by rw [hg]; exact (below_size (by repeat (first | (with_reducible first | exact HB.out | apply below_alloc | apply rb4 | apply below_drew1 | refine below_set ?_ GE160.out | refine below_set ?_ GE161.out) | exact HB.out))) : w.heap.size ≤ gb183)); have n9_ := Aside0.mk ((by rw [hg]; exact Nat.ne_of_lt (blk_lt (g := gb160) (o := .cells #[.int .i64 a0_0, .int .i64 a0_1, .float .f64 a0_2, .slice A0_3 l0_3.length c0_3] 25 (0, 0)) (by (with_reducible repeat (first | refine rb1 ?_ _ | refine rb2 ?_ | refine rb3 ?_ _)); exact BK160.out)) : gb160 ≠ gb183)); have n10_ := Aside0.mk ((by rw [hg]; exact Nat.ne_of_gt (blk_lt (g := gb160) (o := .cells #[.int .i64 a0_0, .int .i64 a0_1, .float .f64 a0_2, .slice A0_3 l0_3.length c0_3] 25 (0, 0)) (by (with_reducible repeat (first | refine rb1 ?_ _ | refine rb2 ?_ | refine rb3 ?_ _)); exact BK160.out)) : gb183 ≠ gb160)); have n11_ := Aside0.mk ((by rw [hg]; exact Nat.ne_of_lt (blk_lt (g := gb161) (o := .cells #[.int .i64 a1_0, .int .i64 a1_1, .float .f64 a1_2, .slice A1_3 l1_3.length c1_3] 25 (0, 0)) (by (with_reducible repeat (first | refine rb1 ?_ _ | refine rb2 ?_ | refine rb3 ?_ _)); exact BK161.out)) : gb161 ≠ gb183)); have n12_ := Aside0.mk ((by rw [hg]; exact Nat.ne_of_gt (blk_lt (g := gb161) (o := .cells #[.int .i64 a1_0, .int .i64 a1_1, .float .f64 a1_2, .slice A1_3 l1_3.length c1_3] 25 (0, 0)) (by (with_reducible repeat (first | refine rb1 ?_ _ | refine rb2 ?_ | refine rb3 ?_ _)); exact BK161.out)) : gb183 ≠ gb161)); clear HO169; clear HO175; clear HO182; clear BK160; clear BK161; clear HB; have HO169 := n0_; have HO175 := n1_; have HO182 := n2_; have BK160 := n3_; have BK161 := n4_; have HB := n5_; have BK183 := n6_; have GW183 := n7_; have GE183 := n8_; have NB160_183 := n9_; have NB183_160 := n10_; have NB161_183 := n11_; have NB183_161 := n12_; clear n0_ n1_ n2_ n3_ n4_ n5_ n6_ n7_ n8_ n9_ n10_ n11_ n12_; clear hb hbox hg; have hnb48 := NB183_160.out; have hnc48 := NB160_183.out; have hnb49 := NB183_161.out; have hnc49 := NB161_183.out; have hcz50_0 : w47.cell? ⟨gb183, 0, none⟩ = some (.int .i64 0) := (blk_cell BK183.out 0).trans rfl; have hcz50_1 : w47.cell? ⟨gb183, 1, none⟩ = some (.int .i64 0) := (blk_cell BK183.out 1).trans rfl; have hcz50_2 : w47.cell? ⟨gb183, 2, none⟩ = some (.float .f64 0) := (blk_cell BK183.out 2).trans rfl; have hcz50_3 : w47.cell? ⟨gb183, 3, none⟩ = some (.slice none 0 0) := (blk_cell BK183.out 3).trans rfl; have hfz50_0 := blk_frozen BK183.out 0; have hfz50_1 := blk_frozen BK183.out 1; have hfz50_2 := blk_frozen BK183.out 2; have hfz50_3 := blk_frozen BK183.out 3; obtain ⟨Ao51, co51, eo51⟩ := Kd.R_slice HO182.out; subst eo51; have hcz52_0 : w47.cell? ⟨gb161, 0, none⟩ = some (.int .i64 a1_0) := (blk_cell BK161.out 0).trans rfl; have hcz52_1 : w47.cell? ⟨gb161, 1, none⟩ = some (.int .i64 a1_1) := (blk_cell BK161.out 1).trans rfl; have hcz52_2 : w47.cell? ⟨gb161, 2, none⟩ = some (.float .f64 a1_2) := (blk_cell BK161.out 2).trans rfl; have hcz52_3 : w47.cell? ⟨gb161, 3, none⟩ = some (.slice A1_3 l1_3.length c1_3) := (blk_cell BK161.out 3).trans rfl; have hfz52_0 := blk_frozen BK161.out 0; have hfz52_1 := blk_frozen BK161.out 1; have hfz52_2 := blk_frozen BK161.out 2; have hfz52_3 := blk_frozen BK161.out 3) | ((with_reducible refine gate_callee (f := 10) rfl ?_); refine goesL_ (some 28) rfl rfl Try.func10 (by kernel_rfl) rfl #[.agg #[.int .i64 a1_0, .int .i64 a1_1, .float .f64 a1_2, .slice A1_3 l1_3.length c1_3]] rfl (by (try simp only [List.map_toArray, List.map_cons, List.map_nil]); first | done | rfl | (simp only [List.length_drop, List.length_take]; rfl)) ?_; (with_reducible refine (laws_toItem.calls k a1_0 a1_1 a1_2 _ _ l1_3 t184 t185 t186 t187 _ ?side1 ?side2 A23.out).mono ?_); (case side1 => exact Kd.C_below HR1_3.out (by repeat (first | (with_reducible first | exact HB.out | apply below_alloc | apply rb4 | apply below_drew1 | refine below_set ?_ GE160.out | refine below_set ?_ GE161.out | refine below_set ?_ GE183.out) | exact HB.out))); (case side2 => exact HC1_3.out); rintro e w53 ⟨v188, rfl, ho0, hb⟩; refine ⟨_, rfl, ?_⟩; have n0_ := Aside0.mk (ra4 (by (with_reducible repeat (first | apply ra1 | apply ra2 | apply ra3)); exact (Kd.R_mono (Kd.R_far (p := ⟨gb183, 3, none⟩) (Kd.R_far (p := ⟨gb183, 2, none⟩) (Kd.R_far (p := ⟨gb183, 1, none⟩) (Kd.R_far (p := ⟨gb183, 0, none⟩) (Kd.R_types HO169.out BK183.out (by decide)) (fun _ hk => hk.2) (.int .i64 t177)) (fun _ hk => hk.2) (.int .i64 t178)) (fun _ hk => hk.2) (.float .f64 t179)) (fun _ hk => hk.2) (.slice Ao51 t180.length co51)) (fun _ h_ => h_.1))) (Kd.R_base ho0) hb); have n1_ := Aside0.mk (ra4 (by (with_reducible repeat (first | apply ra1 | apply ra2 | apply ra3)); exact (Kd.R_mono (Kd.R_far (p := ⟨gb183, 3, none⟩) (Kd.R_far (p := ⟨gb183, 2, none⟩) (Kd.R_far (p := ⟨gb183, 1, none⟩) (Kd.R_far (p := ⟨gb183, 0, none⟩) (Kd.R_types HO175.out BK183.out (by decide)) (fun _ hk => hk.2) (.int .i64 t177)) (fun _ hk => hk.2) (.int .i64 t178)) (fun _ hk => hk.2) (.float .f64 t179)) (fun _ hk => hk.2) (.slice Ao51 t180.length co51)) (fun _ h_ => h_.1))) (Kd.R_base ho0) hb); have n2_ := Aside0.mk (ra4 (by (with_reducible repeat (first | apply ra1 | apply ra2 | apply ra3)); exact (Kd.R_mono (Kd.R_far (p := ⟨gb183, 3, none⟩) (Kd.R_far (p := ⟨gb183, 2, none⟩) (Kd.R_far (p := ⟨gb183, 1, none⟩) (Kd.R_far (p := ⟨gb183, 0, none⟩) (Kd.R_types HO182.out BK183.out (by decide)) (fun _ hk => hk.2) (.int .i64 t177)) (fun _ hk => hk.2) (.int .i64 t178)) (fun _ hk => hk.2) (.float .f64 t179)) (fun _ hk => hk.2) (.slice Ao51 t180.length co51)) (fun _ h_ => h_.1))) (Kd.R_base ho0) hb); have n3_ := Aside0.mk (Kd.R_lower (Kd.R_new' (Kd.R_new' (Kd.R_new' ho0 (Kd.R_lt (by (with_reducible repeat (first | apply ra1 | apply ra2 | apply ra3)); exact (Kd.R_mono (Kd.R_far (p := ⟨gb183, 3, none⟩) (Kd.R_far (p := ⟨gb183, 2, none⟩) (Kd.R_far (p := ⟨gb183, 1, none⟩) (Kd.R_far (p := ⟨gb183, 0, none⟩) (Kd.R_types HO169.out BK183.out (by decide)) (fun _ hk => hk.2) (.int .i64 t177)) (fun _ hk => hk.2) (.int .i64 t178)) (fun _ hk => hk.2) (.float .f64 t179)) (fun _ hk => hk.2) (.slice Ao51 t180.length co51)) (fun _ h_ => h_.1))))) (Kd.R_lt (by (with_reducible repeat (first | apply ra1 | apply ra2 | apply ra3)); exact (Kd.R_mono (Kd.R_far (p := ⟨gb183, 3, none⟩) (Kd.R_far (p := ⟨gb183, 2, none⟩) (Kd.R_far (p := ⟨gb183, 1, none⟩) (Kd.R_far (p := ⟨gb183, 0, none⟩) (Kd.R_types HO175.out BK183.out (by decide)) (fun _ hk => hk.2) (.int .i64 t177)) (fun _ hk => hk.2) (.int .i64 t178)) (fun _ hk => hk.2) (.float .f64 t179)) (fun _ hk => hk.2) (.slice Ao51 t180.length co51)) (fun _ h_ => h_.1))))) (Kd.R_lt (by (with_reducible repeat (first | apply ra1 | apply ra2 | apply ra3)); exact (Kd.R_mono (Kd.R_far (p := ⟨gb183, 3, none⟩) (Kd.R_far (p := ⟨gb183, 2, none⟩) (Kd.R_far (p := ⟨gb183, 1, none⟩) (Kd.R_far (p := ⟨gb183, 0, none⟩) (Kd.R_types HO182.out BK183.out (by decide)) (fun _ hk => hk.2) (.int .i64 t177)) (fun _ hk => hk.2) (.int .i64 t178)) (fun _ hk => hk.2) (.float .f64 t179)) (fun _ hk => hk.2) (.slice Ao51 t180.length co51)) (fun _ h_ => h_.1))))) (below_size (by repeat (first | (with_reducible first | exact HB.out | apply below_alloc | apply rb4 | apply below_drew1 | refine below_set ?_ GE160.out | refine below_set ?_ GE161.out | refine below_set ?_ GE183.out) | exact HB.out)))); have n4_ := Aside0.mk (blk_below (g := gb160) (o := .cells #[.int .i64 a0_0, .int .i64 a0_1, .float .f64 a0_2, .slice A0_3 l0_3.length c0_3] 25 (0, 0)) (by (with_reducible repeat (first | refine rb1 ?_ _ | refine rb2 ?_ | refine rb3 ?_ _)); refine blk_far ?_ NB160_183.out _; (with_reducible repeat (first | refine rb1 ?_ _ | refine rb2 ?_ | refine rb3 ?_ _)); refine blk_far ?_ NB160_183.out _; (with_reducible repeat (first | refine rb1 ?_ _ | refine rb2 ?_ | refine rb3 ?_ _)); refine blk_far ?_ NB160_183.out _; (with_reducible repeat (first | refine rb1 ?_ _ | refine rb2 ?_ | refine rb3 ?_ _)); refine blk_far ?_ NB160_183.out _; (with_reducible repeat (first | refine rb1 ?_ _ | refine rb2 ?_ | refine rb3 ?_ _)); exact BK160.out) hb); have n5_ := Aside0.mk (blk_below (g := gb161) (o := .cells #[.int .i64 a1_0, .int .i64 a1_1, .float .f64 a1_2, .slice A1_3 l1_3.length c1_3] 25 (0, 0)) (by (with_reducible repeat (first | refine rb1 ?_ _ | refine rb2 ?_ | refine rb3 ?_ _)); refine blk_far ?_ NB161_183.out _; (with_reducible repeat (first | refine rb1 ?_ _ | refine rb2 ?_ | refine rb3 ?_ _)); refine blk_far ?_ NB161_183.out _; (with_reducible repeat (first | refine rb1 ?_ _ | refine rb2 ?_ | refine rb3 ?_ _)); refine blk_far ?_ NB161_183.out _; (with_reducible repeat (first | refine rb1 ?_ _ | refine rb2 ?_ | refine rb3 ?_ _)); refine blk_far ?_ NB161_183.out _; (with_reducible repeat (first | refine rb1 ?_ _ | refine rb2 ?_ | refine rb3 ?_ _)); exact BK161.out) hb); have n6_ := Aside0.mk (blk_below (g := gb183) (o := .cells #[.int .i64 t177, .int .i64 t178, .float .f64 t179, .slice Ao51 t180.length co51] 28 (0, 0)) (by (with_reducible repeat (first | refine rb1 ?_ _ | refine rb2 ?_ | refine rb3 ?_ _)); refine blk_put (cs := #[.int .i64 t177, .int .i64 t178, .float .f64 t179, .slice none 0 0]) ?_ 3 _ rfl; (with_reducible repeat (first | refine rb1 ?_ _ | refine rb2 ?_ | refine rb3 ?_ _)); refine blk_put (cs := #[.int .i64 t177, .int .i64 t178, .float .f64 0, .slice none 0 0]) ?_ 2 _ rfl; (with_reducible repeat (first | refine rb1 ?_ _ | refine rb2 ?_ | refine rb3 ?_ _)); refine blk_put (cs := #[.int .i64 t177, .int .i64 0, .float .f64 0, .slice none 0 0]) ?_ 1 _ rfl; (with_reducible repeat (first | refine rb1 ?_ _ | refine rb2 ?_ | refine rb3 ?_ _)); refine blk_put (cs := #[.int .i64 0, .int .i64 0, .float .f64 0, .slice none 0 0]) ?_ 0 _ rfl; (with_reducible repeat (first | refine rb1 ?_ _ | refine rb2 ?_ | refine rb3 ?_ _)); exact BK183.out) hb); have n7_ := Aside0.mk (below_step (by repeat (first | (with_reducible first | exact HB.out | apply below_alloc | apply rb4 | apply below_drew1 | refine below_set ?_ GE160.out | refine below_set ?_ GE161.out | refine below_set ?_ GE183.out) | exact HB.out)) hb); clear HO169; clear HO175; clear HO182; clear BK160; clear BK161; clear BK183; clear HB; have HO169 := n0_; have HO175 := n1_; have HO182 := n2_; have HO189 := n3_; have BK160 := n4_; have BK161 := n5_; have BK183 := n6_; have HB := n7_; clear n0_ n1_ n2_ n3_ n4_ n5_ n6_ n7_; (try clear hb); (try clear hb2); (try clear hk); (try clear hi); (try clear ho0)) | ((with_reducible refine gate_dst (N := 8) rfl ?_); refine box_event ?hg (N := 8) ?hd (cs := #[.int .i64 0, .int .i64 0, .float .f64 0, .slice none 0 0]) (t := 28) ?hr ?_; (case hd => rfl); (case hg => rfl); (case hr => first | (go_simp; done) | (go_simp; rfl)); intro gb190 hg w54 hbox hb; have n0_ := Aside0.mk (ra5 (by (with_reducible repeat (first | apply ra1 | apply ra2 | apply ra3)); exact HO169.out) hb); have n1_ := Aside0.mk (ra5 (by (with_reducible repeat (first | apply ra1 | apply ra2 | apply ra3)); exact HO175.out) hb); have n2_ := Aside0.mk (ra5 (by (with_reducible repeat (first | apply ra1 | apply ra2 | apply ra3)); exact HO182.out) hb); have n3_ := Aside0.mk (ra5 (by (with_reducible repeat (first | apply ra1 | apply ra2 | apply ra3)); exact HO189.out) hb); have n4_ := Aside0.mk (blk_below (g := gb160) (o := .cells #[.int .i64 a0_0, .int .i64 a0_1, .float .f64 a0_2, .slice A0_3 l0_3.length c0_3] 25 (0, 0)) (by (with_reducible repeat (first | refine rb1 ?_ _ | refine rb2 ?_ | refine rb3 ?_ _)); exact BK160.out) hb); have n5_ := Aside0.mk (blk_below (g := gb161) (o := .cells #[.int .i64 a1_0, .int .i64 a1_1, .float .f64 a1_2, .slice A1_3 l1_3.length c1_3] 25 (0, 0)) (by (with_reducible repeat (first | refine rb1 ?_ _ | refine rb2 ?_ | refine rb3 ?_ _)); exact BK161.out) hb); have n6_ := Aside0.mk (blk_below (g := gb183) (o := .cells #[.int .i64 t177, .int .i64 t178, .float .f64 t179, .slice Ao51 t180.length co51] 28 (0, 0)) (by (with_reducible repeat (first | refine rb1 ?_ _ | refine rb2 ?_ | refine rb3 ?_ _)); exact BK183.out) hb); have n7_ := Aside0.mk (below_step (by repeat (first | (with_reducible first | exact HB.out | apply below_alloc | apply rb4 | apply below_drew1 | refine below_set ?_ GE160.out | refine below_set ?_ GE161.out | refine below_set ?_ GE183.out) | exact HB.out)) hb); have n8_ := Aside0.mk (hbox); have n9_ := Aside0.mk ((by rw [hg]; exact (below_size (by repeat (first | (with_reducible first | exact HB.out | apply below_alloc | apply rb4 | apply below_drew1 | refine below_set ?_ GE160.out | refine below_set ?_ GE161.out | refine below_set ?_ GE183.out) | exact HB.out))) : w.heap.size ≤ gb190)); have n10_ := Aside0.mk ((by rw [hg]; exact (below_size (by repeat (first | (with_reducible first | exact HB.out | apply below_alloc | apply rb4 | apply below_drew1 | refine below_set ?_ GE160.out | refine below_set ?_ GE161.out | refine below_set ?_ GE183.out) | exact HB.out))) : w.heap.size ≤ gb190)); have n11_ := Aside0.mk ((by rw [hg]; exact Nat.ne_of_lt (blk_lt (g := gb160) (o := .cells #[.int .i64 a0_0, .int .i64 a0_1, .float .f64 a0_2, .slice A0_3 l0_3.length c0_3] 25 (0, 0)) (by (with_reducible repeat (first | refine rb1 ?_ _ | refine rb2 ?_ | refine rb3 ?_ _)); exact BK160.out)) : gb160 ≠ gb190)); have n12_ := Aside0.mk ((by rw [hg]; exact Nat.ne_of_gt (blk_lt (g := gb160) (o := .cells #[.int .i64 a0_0, .int .i64 a0_1, .float .f64 a0_2, .slice A0_3 l0_3.length c0_3] 25 (0, 0)) (by (with_reducible repeat (first | refine rb1 ?_ _ | refine rb2 ?_ | refine rb3 ?_ _)); exact BK160.out)) : gb190 ≠ gb160)); have n13_ := Aside0.mk ((by rw [hg]; exact Nat.ne_of_lt (blk_lt (g := gb161) (o := .cells #[.int .i64 a1_0, .int .i64 a1_1, .float .f64 a1_2, .slice A1_3 l1_3.length c1_3] 25 (0, 0)) (by (with_reducible repeat (first | refine rb1 ?_ _ | refine rb2 ?_ | refine rb3 ?_ _)); exact BK161.out)) : gb161 ≠ gb190)); have n14_ := Aside0.mk ((by rw [hg]; exact Nat.ne_of_gt (blk_lt (g := gb161) (o := .cells #[.int .i64 a1_0, .int .i64 a1_1, .float .f64 a1_2, .slice A1_3 l1_3.length c1_3] 25 (0, 0)) (by (with_reducible repeat (first | refine rb1 ?_ _ | refine rb2 ?_ | refine rb3 ?_ _)); exact BK161.out)) : gb190 ≠ gb161)); have n15_ := Aside0.mk ((by rw [hg]; exact Nat.ne_of_lt (blk_lt (g := gb183) (o := .cells #[.int .i64 t177, .int .i64 t178, .float .f64 t179, .slice Ao51 t180.length co51] 28 (0, 0)) (by (with_reducible repeat (first | refine rb1 ?_ _ | refine rb2 ?_ | refine rb3 ?_ _)); exact BK183.out)) : gb183 ≠ gb190)); have n16_ := Aside0.mk ((by rw [hg]; exact Nat.ne_of_gt (blk_lt (g := gb183) (o := .cells #[.int .i64 t177, .int .i64 t178, .float .f64 t179, .slice Ao51 t180.length co51] 28 (0, 0)) (by (with_reducible repeat (first | refine rb1 ?_ _ | refine rb2 ?_ | refine rb3 ?_ _)); exact BK183.out)) : gb190 ≠ gb183)); clear HO169; clear HO175; clear HO182; clear HO189; clear BK160; clear BK161; clear BK183; clear HB; have HO169 := n0_; have HO175 := n1_; have HO182 := n2_; have HO189 := n3_; have BK160 := n4_; have BK161 := n5_; have BK183 := n6_; have HB := n7_; have BK190 := n8_; have GW190 := n9_; have GE190 := n10_; have NB160_190 := n11_; have NB190_160 := n12_; have NB161_190 := n13_; have NB190_161 := n14_; have NB183_190 := n15_; have NB190_183 := n16_; clear n0_ n1_ n2_ n3_ n4_ n5_ n6_ n7_ n8_ n9_ n10_ n11_ n12_ n13_ n14_ n15_ n16_; clear hb hbox hg; have hnb55 := NB190_160.out; have hnc55 := NB160_190.out; have hnb56 := NB190_161.out; have hnc56 := NB161_190.out; have hnb57 := NB190_183.out; have hnc57 := NB183_190.out; have hcz58_0 : w54.cell? ⟨gb190, 0, none⟩ = some (.int .i64 0) := (blk_cell BK190.out 0).trans rfl; have hcz58_1 : w54.cell? ⟨gb190, 1, none⟩ = some (.int .i64 0) := (blk_cell BK190.out 1).trans rfl; have hcz58_2 : w54.cell? ⟨gb190, 2, none⟩ = some (.float .f64 0) := (blk_cell BK190.out 2).trans rfl; have hcz58_3 : w54.cell? ⟨gb190, 3, none⟩ = some (.slice none 0 0) := (blk_cell BK190.out 3).trans rfl; have hfz58_0 := blk_frozen BK190.out 0; have hfz58_1 := blk_frozen BK190.out 1; have hfz58_2 := blk_frozen BK190.out 2; have hfz58_3 := blk_frozen BK190.out 3; obtain ⟨Ao59, co59, eo59⟩ := Kd.R_slice HO189.out; subst eo59; have hcz60_0 : w54.cell? ⟨gb183, 0, none⟩ = some (.int .i64 t177) := (blk_cell BK183.out 0).trans rfl; have hcz60_1 : w54.cell? ⟨gb183, 1, none⟩ = some (.int .i64 t178) := (blk_cell BK183.out 1).trans rfl; have hcz60_2 : w54.cell? ⟨gb183, 2, none⟩ = some (.float .f64 t179) := (blk_cell BK183.out 2).trans rfl; have hcz60_3 : w54.cell? ⟨gb183, 3, none⟩ = some (.slice Ao51 t180.length co51) := (blk_cell BK183.out 3).trans rfl; have hfz60_0 := blk_frozen BK183.out 0; have hfz60_1 := blk_frozen BK183.out 1; have hfz60_2 := blk_frozen BK183.out 2; have hfz60_3 := blk_frozen BK183.out 3) | ((with_reducible refine gate_callee (f := 11) rfl ?_); refine goesL_ (some 31) rfl rfl Try.func11 (by kernel_rfl) rfl #[.agg #[.int .i64 t177, .int .i64 t178, .float .f64 t179, .slice Ao51 t180.length co51], .agg #[.int .i64 t184, .int .i64 t185, .float .f64 t186, .slice Ao59 t187.length co59]] rfl (by (try simp only [List.map_toArray, List.map_cons, List.map_nil]); first | done | rfl | (simp only [List.length_drop, List.length_take]; rfl)) ?_; (with_reducible refine (impl_ItemCompare.calls k t177 t178 t179 _ _ t180 t184 t185 t186 _ _ t187 t191 _ ?side1 ?side2 ?side3 ?side4 A24.out).mono ?_); (case side1 => refine (ra9 (e := 5) (base := w.heap.size) (ok := fun k_ => (((True ∧ some k_ ≠ (.slice Ao42 t167.length co42 : Value).ownBlock) ∧ some k_ ≠ (.slice Ao43 t173.length co43 : Value).ownBlock) ∧ some k_ ≠ (.slice Ao59 t187.length co59 : Value).ownBlock)) (n := t180.length) (c := co51) ?_).2.2; exact (by (with_reducible repeat (first | apply ra1 | apply ra2 | apply ra3)); exact (Kd.R_mono (Kd.R_far (p := ⟨gb190, 3, none⟩) (Kd.R_far (p := ⟨gb190, 2, none⟩) (Kd.R_far (p := ⟨gb190, 1, none⟩) (Kd.R_far (p := ⟨gb190, 0, none⟩) (Kd.R_types HO182.out BK190.out (by decide)) (fun _ hk => hk.2) (.int .i64 t184)) (fun _ hk => hk.2) (.int .i64 t185)) (fun _ hk => hk.2) (.float .f64 t186)) (fun _ hk => hk.2) (.slice Ao59 t187.length co59)) (fun _ h_ => h_.1)))); (case side2 => exact (ra9 HO182.out).2.1); (case side3 => refine (ra9 (e := 5) (base := w.heap.size) (ok := fun k_ => (((True ∧ some k_ ≠ (.slice Ao42 t167.length co42 : Value).ownBlock) ∧ some k_ ≠ (.slice Ao43 t173.length co43 : Value).ownBlock) ∧ some k_ ≠ (.slice Ao51 t180.length co51 : Value).ownBlock)) (n := t187.length) (c := co59) ?_).2.2; exact (by (with_reducible repeat (first | apply ra1 | apply ra2 | apply ra3)); exact (Kd.R_mono (Kd.R_far (p := ⟨gb190, 3, none⟩) (Kd.R_far (p := ⟨gb190, 2, none⟩) (Kd.R_far (p := ⟨gb190, 1, none⟩) (Kd.R_far (p := ⟨gb190, 0, none⟩) (Kd.R_types HO189.out BK190.out (by decide)) (fun _ hk => hk.2) (.int .i64 t184)) (fun _ hk => hk.2) (.int .i64 t185)) (fun _ hk => hk.2) (.float .f64 t186)) (fun _ hk => hk.2) (.slice Ao59 t187.length co59)) (fun _ h_ => h_.1)))); (case side4 => exact (ra9 HO189.out).2.1); rintro e w61 ⟨rfl, hb⟩; refine ⟨_, rfl, ?_⟩; have n0_ := Aside0.mk (ra5 (by (with_reducible repeat (first | apply ra1 | apply ra2 | apply ra3)); exact (Kd.R_mono (Kd.R_far (p := ⟨gb190, 3, none⟩) (Kd.R_far (p := ⟨gb190, 2, none⟩) (Kd.R_far (p := ⟨gb190, 1, none⟩) (Kd.R_far (p := ⟨gb190, 0, none⟩) (Kd.R_types HO169.out BK190.out (by decide)) (fun _ hk => hk.2) (.int .i64 t184)) (fun _ hk => hk.2) (.int .i64 t185)) (fun _ hk => hk.2) (.float .f64 t186)) (fun _ hk => hk.2) (.slice Ao59 t187.length co59)) (fun _ h_ => h_.1))) hb); have n1_ := Aside0.mk (ra5 (by (with_reducible repeat (first | apply ra1 | apply ra2 | apply ra3)); exact (Kd.R_mono (Kd.R_far (p := ⟨gb190, 3, none⟩) (Kd.R_far (p := ⟨gb190, 2, none⟩) (Kd.R_far (p := ⟨gb190, 1, none⟩) (Kd.R_far (p := ⟨gb190, 0, none⟩) (Kd.R_types HO175.out BK190.out (by decide)) (fun _ hk => hk.2) (.int .i64 t184)) (fun _ hk => hk.2) (.int .i64 t185)) (fun _ hk => hk.2) (.float .f64 t186)) (fun _ hk => hk.2) (.slice Ao59 t187.length co59)) (fun _ h_ => h_.1))) hb); have n2_ := Aside0.mk (ra5 (by (with_reducible repeat (first | apply ra1 | apply ra2 | apply ra3)); exact (Kd.R_mono (Kd.R_far (p := ⟨gb190, 3, none⟩) (Kd.R_far (p := ⟨gb190, 2, none⟩) (Kd.R_far (p := ⟨gb190, 1, none⟩) (Kd.R_far (p := ⟨gb190, 0, none⟩) (Kd.R_types HO182.out BK190.out (by decide)) (fun _ hk => hk.2) (.int .i64 t184)) (fun _ hk => hk.2) (.int .i64 t185)) (fun _ hk => hk.2) (.float .f64 t186)) (fun _ hk => hk.2) (.slice Ao59 t187.length co59)) (fun _ h_ => h_.1))) hb); have n3_ := Aside0.mk (ra5 (by (with_reducible repeat (first | apply ra1 | apply ra2 | apply ra3)); exact (Kd.R_mono (Kd.R_far (p := ⟨gb190, 3, none⟩) (Kd.R_far (p := ⟨gb190, 2, none⟩) (Kd.R_far (p := ⟨gb190, 1, none⟩) (Kd.R_far (p := ⟨gb190, 0, none⟩) (Kd.R_types HO189.out BK190.out (by decide)) (fun _ hk => hk.2) (.int .i64 t184)) (fun _ hk => hk.2) (.int .i64 t185)) (fun _ hk => hk.2) (.float .f64 t186)) (fun _ hk => hk.2) (.slice Ao59 t187.length co59)) (fun _ h_ => h_.1))) hb); have n4_ := Aside0.mk (blk_below (g := gb160) (o := .cells #[.int .i64 a0_0, .int .i64 a0_1, .float .f64 a0_2, .slice A0_3 l0_3.length c0_3] 25 (0, 0)) (by (with_reducible repeat (first | refine rb1 ?_ _ | refine rb2 ?_ | refine rb3 ?_ _)); refine blk_far ?_ NB160_190.out _; (with_reducible repeat (first | refine rb1 ?_ _ | refine rb2 ?_ | refine rb3 ?_ _)); refine blk_far ?_ NB160_190.out _; (with_reducible repeat (first | refine rb1 ?_ _ | refine rb2 ?_ | refine rb3 ?_ _)); refine blk_far ?_ NB160_190.out _; (with_reducible repeat (first | refine rb1 ?_ _ | refine rb2 ?_ | refine rb3 ?_ _)); refine blk_far ?_ NB160_190.out _; (with_reducible repeat (first | refine rb1 ?_ _ | refine rb2 ?_ | refine rb3 ?_ _)); exact BK160.out) hb); have n5_ := Aside0.mk (blk_below (g := gb161) (o := .cells #[.int .i64 a1_0, .int .i64 a1_1, .float .f64 a1_2, .slice A1_3 l1_3.length c1_3] 25 (0, 0)) (by (with_reducible repeat (first | refine rb1 ?_ _ | refine rb2 ?_ | refine rb3 ?_ _)); refine blk_far ?_ NB161_190.out _; (with_reducible repeat (first | refine rb1 ?_ _ | refine rb2 ?_ | refine rb3 ?_ _)); refine blk_far ?_ NB161_190.out _; (with_reducible repeat (first | refine rb1 ?_ _ | refine rb2 ?_ | refine rb3 ?_ _)); refine blk_far ?_ NB161_190.out _; (with_reducible repeat (first | refine rb1 ?_ _ | refine rb2 ?_ | refine rb3 ?_ _)); refine blk_far ?_ NB161_190.out _; (with_reducible repeat (first | refine rb1 ?_ _ | refine rb2 ?_ | refine rb3 ?_ _)); exact BK161.out) hb); have n6_ := Aside0.mk (blk_below (g := gb183) (o := .cells #[.int .i64 t177, .int .i64 t178, .float .f64 t179, .slice Ao51 t180.length co51] 28 (0, 0)) (by (with_reducible repeat (first | refine rb1 ?_ _ | refine rb2 ?_ | refine rb3 ?_ _)); refine blk_far ?_ NB183_190.out _; (with_reducible repeat (first | refine rb1 ?_ _ | refine rb2 ?_ | refine rb3 ?_ _)); refine blk_far ?_ NB183_190.out _; (with_reducible repeat (first | refine rb1 ?_ _ | refine rb2 ?_ | refine rb3 ?_ _)); refine blk_far ?_ NB183_190.out _; (with_reducible repeat (first | refine rb1 ?_ _ | refine rb2 ?_ | refine rb3 ?_ _)); refine blk_far ?_ NB183_190.out _; (with_reducible repeat (first | refine rb1 ?_ _ | refine rb2 ?_ | refine rb3 ?_ _)); exact BK183.out) hb); have n7_ := Aside0.mk (blk_below (g := gb190) (o := .cells #[.int .i64 t184, .int .i64 t185, .float .f64 t186, .slice Ao59 t187.length co59] 28 (0, 0)) (by (with_reducible repeat (first | refine rb1 ?_ _ | refine rb2 ?_ | refine rb3 ?_ _)); refine blk_put (cs := #[.int .i64 t184, .int .i64 t185, .float .f64 t186, .slice none 0 0]) ?_ 3 _ rfl; (with_reducible repeat (first | refine rb1 ?_ _ | refine rb2 ?_ | refine rb3 ?_ _)); refine blk_put (cs := #[.int .i64 t184, .int .i64 t185, .float .f64 0, .slice none 0 0]) ?_ 2 _ rfl; (with_reducible repeat (first | refine rb1 ?_ _ | refine rb2 ?_ | refine rb3 ?_ _)); refine blk_put (cs := #[.int .i64 t184, .int .i64 0, .float .f64 0, .slice none 0 0]) ?_ 1 _ rfl; (with_reducible repeat (first | refine rb1 ?_ _ | refine rb2 ?_ | refine rb3 ?_ _)); refine blk_put (cs := #[.int .i64 0, .int .i64 0, .float .f64 0, .slice none 0 0]) ?_ 0 _ rfl; (with_reducible repeat (first | refine rb1 ?_ _ | refine rb2 ?_ | refine rb3 ?_ _)); exact BK190.out) hb); have n8_ := Aside0.mk (below_step (by repeat (first | (with_reducible first | exact HB.out | apply below_alloc | apply rb4 | apply below_drew1 | refine below_set ?_ GE160.out | refine below_set ?_ GE161.out | refine below_set ?_ GE183.out | refine below_set ?_ GE190.out) | exact HB.out)) hb); clear HO169; clear HO175; clear HO182; clear HO189; clear BK160; clear BK161; clear BK183; clear BK190; clear HB; have HO169 := n0_; have HO175 := n1_; have HO182 := n2_; have HO189 := n3_; have BK160 := n4_; have BK161 := n5_; have BK183 := n6_; have BK190 := n7_; have HB := n8_; clear n0_ n1_ n2_ n3_ n4_ n5_ n6_ n7_ n8_; (try clear hb); (try clear hb2); (try clear hk); (try clear hi)))
      have n0_ := Aside0.mk (ra3 HO169.out)
      have n1_ := Aside0.mk (ra3 HO175.out)
      have n2_ := Aside0.mk (ra3 HO182.out)
      have n3_ := Aside0.mk (ra3 HO189.out)
      have n4_ := Aside0.mk (rb2 BK160.out)
      have n5_ := Aside0.mk (rb2 BK161.out)
      have n6_ := Aside0.mk (rb2 BK183.out)
      have n7_ := Aside0.mk (rb2 BK190.out)
      have n8_ := Aside0.mk (below_drew1 HB.out)
      clear HO169
      clear HO175
      clear HO182
      clear HO189
      clear BK160
      clear BK161
      clear BK183
      clear BK190
      clear HB
      have HO169 := n0_
      have HO175 := n1_
      have HO182 := n2_
      have HO189 := n3_
      have BK160 := n4_
      have BK161 := n5_
      have BK183 := n6_
      have BK190 := n7_
      have HB := n8_
      clear n0_ n1_ n2_ n3_ n4_ n5_ n6_ n7_ n8_
      refine start_ (n := 5) (S := fun w' => w'.cell? ⟨gb183, 0, none⟩ = some (.int .i64 t177) ∧ w'.cell? ⟨gb183, 1, none⟩ = some (.int .i64 t178) ∧ w'.cell? ⟨gb183, 2, none⟩ = some (.float .f64 t179) ∧ w'.cell? ⟨gb183, 3, none⟩ = some (.slice Ao51 t180.length co51) ∧ w'.cell? ⟨gb160, 0, none⟩ = some (.int .i64 a0_0) ∧ w'.cell? ⟨gb160, 1, none⟩ = some (.int .i64 a0_1) ∧ w'.cell? ⟨gb160, 2, none⟩ = some (.float .f64 a0_2) ∧ w'.cell? ⟨gb160, 3, none⟩ = some (.slice A0_3 l0_3.length c0_3)) (ds := []) #[false, false, false, false, false] (by kernel_rfl) rfl rfl ⟨(blk_cell BK183.out 0).trans rfl, (blk_cell BK183.out 1).trans rfl, (blk_cell BK183.out 2).trans rfl, (blk_cell BK183.out 3).trans rfl, (blk_cell BK160.out 0).trans rfl, (blk_cell BK160.out 1).trans rfl, (blk_cell BK160.out 2).trans rfl, (blk_cell BK160.out 3).trans rfl⟩ (fun hHeld => ?_)
      generalize w61.drew = w62 at HO169 HO175 HO182 HO189 BK160 BK161 BK183 BK190 HB hHeld ⊢
      refine take_ (i := 0) (N := some 35) (v := ?_) (a' := ?_) #[true, false, false, false, false] rfl rfl (by kernel_rfl) (fun _ _ _ h => h) (Or.inl ⟨by rfl, ?_⟩) hHeld ?_ ?_
      rotate_left
      ·rintro w' ⟨s0, s1, s2, s3, s4, s5, s6, s7⟩
       go_simp
       with_reducible rfl
      rotate_left
      ·simp only [Act.put, List.setIfInBounds_toArray, List.set_cons_zero, List.set_cons_succ, i64_w, i32_w]
       rfl
      refine take_ (i := 1) (N := some 36) (v := ?_) (a' := ?_) #[true, true, false, false, false] rfl rfl (by kernel_rfl) (fun _ _ _ h => h) (Or.inl ⟨by rfl, ?_⟩) hHeld ?_ ?_
      rotate_left
      ·rintro w' ⟨s0, s1, s2, s3, s4, s5, s6, s7⟩
       go_simp
       with_reducible rfl
      rotate_left
      ·simp only [Act.put, List.setIfInBounds_toArray, List.set_cons_zero, List.set_cons_succ, i64_w, i32_w]
       rfl
      refine one_ (i := 2) (N := some 37) #[true, true, true, false, false] rfl rfl (by kernel_rfl) (by decide) (fun K hK => ?_)
      refine goes_ Try.func10 (by kernel_rfl) rfl #[.agg #[.int .i64 a0_0, .int .i64 a0_1, .float .f64 a0_2, .slice A0_3 l0_3.length c0_3]] (by rfl) rfl rfl (by (try simp only [List.map_toArray, List.map_cons, List.map_nil]); first | done | rfl | (simp only [List.length_drop, List.length_take]; rfl)) ?_
      with_reducible refine (laws_toItem.calls k a0_0 a0_1 a0_2 _ _ l0_3 t192 t193 t194 t195 _ ?side1 ?side2 A26.out).mono ?_
      (case side1 => repeat (first | exact (Kd.C_below HR0_3.out HB.out) | (with_reducible refine ra6 ?_ _) | (with_reducible refine ra7 ?_ _) | (with_reducible refine ra8 ?_)))
      (case side2 => exact HC0_3.out)
      rintro e w63 ⟨v196, rfl, ho0, hb⟩
      refine ⟨_, rfl, ?_⟩
      have n0_ := Aside0.mk (ra4 (by (with_reducible repeat (first | apply ra1 | apply ra2 | apply ra3)); exact HO169.out) (Kd.R_base ho0) hb)
      have n1_ := Aside0.mk (ra4 (by (with_reducible repeat (first | apply ra1 | apply ra2 | apply ra3)); exact HO175.out) (Kd.R_base ho0) hb)
      have n2_ := Aside0.mk (ra4 (by (with_reducible repeat (first | apply ra1 | apply ra2 | apply ra3)); exact HO182.out) (Kd.R_base ho0) hb)
      have n3_ := Aside0.mk (ra4 (by (with_reducible repeat (first | apply ra1 | apply ra2 | apply ra3)); exact HO189.out) (Kd.R_base ho0) hb)
      have n4_ := Aside0.mk (Kd.R_lower (Kd.R_new' (Kd.R_new' (Kd.R_new' (Kd.R_new' ho0 (Kd.R_lt (by (with_reducible repeat (first | apply ra1 | apply ra2 | apply ra3)); exact HO169.out))) (Kd.R_lt (by (with_reducible repeat (first | apply ra1 | apply ra2 | apply ra3)); exact HO175.out))) (Kd.R_lt (by (with_reducible repeat (first | apply ra1 | apply ra2 | apply ra3)); exact HO182.out))) (Kd.R_lt (by (with_reducible repeat (first | apply ra1 | apply ra2 | apply ra3)); exact HO189.out))) (below_size (by repeat (first | (with_reducible first | exact HB.out | apply below_alloc | apply rb4 | apply below_drew1 | refine below_set ?_ GE160.out | refine below_set ?_ GE161.out | refine below_set ?_ GE183.out | refine below_set ?_ GE190.out) | exact HB.out))))
      have n5_ := Aside0.mk (blk_below (g := gb160) (o := .cells #[.int .i64 a0_0, .int .i64 a0_1, .float .f64 a0_2, .slice A0_3 l0_3.length c0_3] 25 (0, 0)) (by (with_reducible repeat (first | refine rb1 ?_ _ | refine rb2 ?_ | refine rb3 ?_ _)); exact BK160.out) hb)
      have n6_ := Aside0.mk (blk_below (g := gb161) (o := .cells #[.int .i64 a1_0, .int .i64 a1_1, .float .f64 a1_2, .slice A1_3 l1_3.length c1_3] 25 (0, 0)) (by (with_reducible repeat (first | refine rb1 ?_ _ | refine rb2 ?_ | refine rb3 ?_ _)); exact BK161.out) hb)
      have n7_ := Aside0.mk (blk_below (g := gb183) (o := .cells #[.int .i64 t177, .int .i64 t178, .float .f64 t179, .slice Ao51 t180.length co51] 28 (0, 0)) (by (with_reducible repeat (first | refine rb1 ?_ _ | refine rb2 ?_ | refine rb3 ?_ _)); exact BK183.out) hb)
      have n8_ := Aside0.mk (blk_below (g := gb190) (o := .cells #[.int .i64 t184, .int .i64 t185, .float .f64 t186, .slice Ao59 t187.length co59] 28 (0, 0)) (by (with_reducible repeat (first | refine rb1 ?_ _ | refine rb2 ?_ | refine rb3 ?_ _)); exact BK190.out) hb)
      have n9_ := Aside0.mk (below_step (by repeat (first | (with_reducible first | exact HB.out | apply below_alloc | apply rb4 | apply below_drew1 | refine below_set ?_ GE160.out | refine below_set ?_ GE161.out | refine below_set ?_ GE183.out | refine below_set ?_ GE190.out) | exact HB.out)) hb)
      clear HO169
      clear HO175
      clear HO182
      clear HO189
      clear BK160
      clear BK161
      clear BK183
      clear BK190
      clear HB
      have HO169 := n0_
      have HO175 := n1_
      have HO182 := n2_
      have HO189 := n3_
      have HO197 := n4_
      have BK160 := n5_
      have BK161 := n6_
      have BK183 := n7_
      have BK190 := n8_
      have HB := n9_
      clear n0_ n1_ n2_ n3_ n4_ n5_ n6_ n7_ n8_ n9_
      (try clear hb)
      (try clear hb2)
      (try clear hk)
      (try clear hi)
      (try clear ho0)
      obtain ⟨Ao64, co64, eo64⟩ := Kd.R_slice HO197.out
      (first | subst eo64 | (injection eo64 with f1_ f2_ f3_; have f4_ := f1_.symm; have f5_ := f3_.symm; clear f1_ f2_ f3_; subst f4_; subst f5_))
      refine hK.out _ _ ⟨(blk_cell BK183.out 0).trans rfl, (blk_cell BK183.out 1).trans rfl, (blk_cell BK183.out 2).trans rfl, (blk_cell BK183.out 3).trans rfl, (blk_cell BK160.out 0).trans rfl, (blk_cell BK160.out 1).trans rfl, (blk_cell BK160.out 2).trans rfl, (blk_cell BK160.out 3).trans rfl⟩ (fun hHeld => ?_)
      clear hK K
      refine norm_ (a' := ?_) ?_ ?_
      rotate_left
      ·show Act.put _ (some 37) _ = _
       simp only [Act.put, List.setIfInBounds_toArray, List.set_cons_zero, List.set_cons_succ, i64_w, i32_w]
       rfl
      refine one_ (i := 3) (N := some 38) #[true, true, true, true, false] rfl rfl (by kernel_rfl) (by decide) (fun K hK => ?_)
      refine goes_ Try.func12 (by kernel_rfl) rfl #[.agg #[.int .i64 t177, .int .i64 t178, .float .f64 t179, .slice Ao51 t180.length co51], .agg #[.int .i64 t192, .int .i64 t193, .float .f64 t194, .slice Ao64 t195.length co64]] (by rfl) rfl rfl (by (try simp only [List.map_toArray, List.map_cons, List.map_nil]); first | done | rfl | (simp only [List.length_drop, List.length_take]; rfl)) ?_
      with_reducible refine (laws_eqItem.calls k t177 t178 t179 _ _ t180 t192 t193 t194 _ _ t195 true _ ?side1 ?side2 ?side3 ?side4 A27.out).mono ?_
      (case side1 => repeat (first | exact (ra9 HO182.out).2.2 | (with_reducible refine ra6 ?_ _) | (with_reducible refine ra7 ?_ _) | (with_reducible refine ra8 ?_)))
      (case side2 => exact (ra9 HO182.out).2.1)
      (case side3 => repeat (first | exact (ra9 HO197.out).2.2 | (with_reducible refine ra6 ?_ _) | (with_reducible refine ra7 ?_ _) | (with_reducible refine ra8 ?_)))
      (case side4 => exact (ra9 HO197.out).2.1)
      rintro e w65 ⟨rfl, hb⟩
      refine ⟨_, rfl, ?_⟩
      have n0_ := Aside0.mk (ra5 (by (with_reducible repeat (first | apply ra1 | apply ra2 | apply ra3)); exact HO169.out) hb)
      have n1_ := Aside0.mk (ra5 (by (with_reducible repeat (first | apply ra1 | apply ra2 | apply ra3)); exact HO175.out) hb)
      have n2_ := Aside0.mk (ra5 (by (with_reducible repeat (first | apply ra1 | apply ra2 | apply ra3)); exact HO182.out) hb)
      have n3_ := Aside0.mk (ra5 (by (with_reducible repeat (first | apply ra1 | apply ra2 | apply ra3)); exact HO189.out) hb)
      have n4_ := Aside0.mk (ra5 (by (with_reducible repeat (first | apply ra1 | apply ra2 | apply ra3)); exact HO197.out) hb)
      have n5_ := Aside0.mk (blk_below (g := gb160) (o := .cells #[.int .i64 a0_0, .int .i64 a0_1, .float .f64 a0_2, .slice A0_3 l0_3.length c0_3] 25 (0, 0)) (by (with_reducible repeat (first | refine rb1 ?_ _ | refine rb2 ?_ | refine rb3 ?_ _)); exact BK160.out) hb)
      have n6_ := Aside0.mk (blk_below (g := gb161) (o := .cells #[.int .i64 a1_0, .int .i64 a1_1, .float .f64 a1_2, .slice A1_3 l1_3.length c1_3] 25 (0, 0)) (by (with_reducible repeat (first | refine rb1 ?_ _ | refine rb2 ?_ | refine rb3 ?_ _)); exact BK161.out) hb)
      have n7_ := Aside0.mk (blk_below (g := gb183) (o := .cells #[.int .i64 t177, .int .i64 t178, .float .f64 t179, .slice Ao51 t180.length co51] 28 (0, 0)) (by (with_reducible repeat (first | refine rb1 ?_ _ | refine rb2 ?_ | refine rb3 ?_ _)); exact BK183.out) hb)
      have n8_ := Aside0.mk (blk_below (g := gb190) (o := .cells #[.int .i64 t184, .int .i64 t185, .float .f64 t186, .slice Ao59 t187.length co59] 28 (0, 0)) (by (with_reducible repeat (first | refine rb1 ?_ _ | refine rb2 ?_ | refine rb3 ?_ _)); exact BK190.out) hb)
      have n9_ := Aside0.mk (below_step (by repeat (first | (with_reducible first | exact HB.out | apply below_alloc | apply rb4 | apply below_drew1 | refine below_set ?_ GE160.out | refine below_set ?_ GE161.out | refine below_set ?_ GE183.out | refine below_set ?_ GE190.out) | exact HB.out)) hb)
      clear HO169
      clear HO175
      clear HO182
      clear HO189
      clear HO197
      clear BK160
      clear BK161
      clear BK183
      clear BK190
      clear HB
      have HO169 := n0_
      have HO175 := n1_
      have HO182 := n2_
      have HO189 := n3_
      have HO197 := n4_
      have BK160 := n5_
      have BK161 := n6_
      have BK183 := n7_
      have BK190 := n8_
      have HB := n9_
      clear n0_ n1_ n2_ n3_ n4_ n5_ n6_ n7_ n8_ n9_
      (try clear hb)
      (try clear hb2)
      (try clear hk)
      (try clear hi)
      refine hK.out _ _ ⟨(blk_cell BK183.out 0).trans rfl, (blk_cell BK183.out 1).trans rfl, (blk_cell BK183.out 2).trans rfl, (blk_cell BK183.out 3).trans rfl, (blk_cell BK160.out 0).trans rfl, (blk_cell BK160.out 1).trans rfl, (blk_cell BK160.out 2).trans rfl, (blk_cell BK160.out 3).trans rfl⟩ (fun hHeld => ?_)
      clear hK K
      refine norm_ (a' := ?_) ?_ ?_
      rotate_left
      ·show Act.put _ (some 38) _ = _
       simp only [Act.put, List.setIfInBounds_toArray, List.set_cons_zero, List.set_cons_succ, i64_w, i32_w]
       rfl
      refine pure_ (i := 4) (N := some 39) (v := ?_) (a' := ?_) #[true, true, true, true, true] rfl rfl (by kernel_rfl) (fun _ _ _ h => h) (Or.inl ⟨by rfl, ?_⟩) ?_ ?_
      rotate_left
      ·intro w'
       go_simp
       with_reducible rfl
      rotate_left
      ·simp only [Act.put, List.setIfInBounds_toArray, List.set_cons_zero, List.set_cons_succ, i64_w, i32_w]
       rfl
      refine done_ (by kernel_rfl) ?_
      try go_wp2
      have n0_ := Aside0.mk (ra3 HO169.out)
      have n1_ := Aside0.mk (ra3 HO175.out)
      have n2_ := Aside0.mk (ra3 HO182.out)
      have n3_ := Aside0.mk (ra3 HO189.out)
      have n4_ := Aside0.mk (ra3 HO197.out)
      have n5_ := Aside0.mk (rb2 BK160.out)
      have n6_ := Aside0.mk (rb2 BK161.out)
      have n7_ := Aside0.mk (rb2 BK183.out)
      have n8_ := Aside0.mk (rb2 BK190.out)
      have n9_ := Aside0.mk (below_drew1 HB.out)
      clear HO169
      clear HO175
      clear HO182
      clear HO189
      clear HO197
      clear BK160
      clear BK161
      clear BK183
      clear BK190
      clear HB
      have HO169 := n0_
      have HO175 := n1_
      have HO182 := n2_
      have HO189 := n3_
      have HO197 := n4_
      have BK160 := n5_
      have BK161 := n6_
      have BK183 := n7_
      have BK190 := n8_
      have HB := n9_
      clear n0_ n1_ n2_ n3_ n4_ n5_ n6_ n7_ n8_ n9_
      refine start_ (n := 5) (S := fun w' => w'.cell? ⟨gb190, 0, none⟩ = some (.int .i64 t184) ∧ w'.cell? ⟨gb190, 1, none⟩ = some (.int .i64 t185) ∧ w'.cell? ⟨gb190, 2, none⟩ = some (.float .f64 t186) ∧ w'.cell? ⟨gb190, 3, none⟩ = some (.slice Ao59 t187.length co59) ∧ w'.cell? ⟨gb161, 0, none⟩ = some (.int .i64 a1_0) ∧ w'.cell? ⟨gb161, 1, none⟩ = some (.int .i64 a1_1) ∧ w'.cell? ⟨gb161, 2, none⟩ = some (.float .f64 a1_2) ∧ w'.cell? ⟨gb161, 3, none⟩ = some (.slice A1_3 l1_3.length c1_3)) (ds := []) #[false, false, false, false, false] (by kernel_rfl) rfl rfl ⟨(blk_cell BK190.out 0).trans rfl, (blk_cell BK190.out 1).trans rfl, (blk_cell BK190.out 2).trans rfl, (blk_cell BK190.out 3).trans rfl, (blk_cell BK161.out 0).trans rfl, (blk_cell BK161.out 1).trans rfl, (blk_cell BK161.out 2).trans rfl, (blk_cell BK161.out 3).trans rfl⟩ (fun hHeld => ?_)
      generalize w65.drew = w66 at HO169 HO175 HO182 HO189 HO197 BK160 BK161 BK183 BK190 HB hHeld ⊢
      refine take_ (i := 0) (N := some 40) (v := ?_) (a' := ?_) #[true, false, false, false, false] rfl rfl (by kernel_rfl) (fun _ _ _ h => h) (Or.inl ⟨by rfl, ?_⟩) hHeld ?_ ?_
      rotate_left
      ·rintro w' ⟨s0, s1, s2, s3, s4, s5, s6, s7⟩
       go_simp
       with_reducible rfl
      rotate_left
      ·simp only [Act.put, List.setIfInBounds_toArray, List.set_cons_zero, List.set_cons_succ, i64_w, i32_w]
       rfl
      refine take_ (i := 1) (N := some 41) (v := ?_) (a' := ?_) #[true, true, false, false, false] rfl rfl (by kernel_rfl) (fun _ _ _ h => h) (Or.inl ⟨by rfl, ?_⟩) hHeld ?_ ?_
      rotate_left
      ·rintro w' ⟨s0, s1, s2, s3, s4, s5, s6, s7⟩
       go_simp
       with_reducible rfl
      rotate_left
      ·simp only [Act.put, List.setIfInBounds_toArray, List.set_cons_zero, List.set_cons_succ, i64_w, i32_w]
       rfl
      refine one_ (i := 2) (N := some 42) #[true, true, true, false, false] rfl rfl (by kernel_rfl) (by decide) (fun K hK => ?_)
      refine goes_ Try.func10 (by kernel_rfl) rfl #[.agg #[.int .i64 a1_0, .int .i64 a1_1, .float .f64 a1_2, .slice A1_3 l1_3.length c1_3]] (by rfl) rfl rfl (by (try simp only [List.map_toArray, List.map_cons, List.map_nil]); first | done | rfl | (simp only [List.length_drop, List.length_take]; rfl)) ?_
      with_reducible refine (laws_toItem.calls k a1_0 a1_1 a1_2 _ _ l1_3 t199 t200 t201 t202 _ ?side1 ?side2 A29.out).mono ?_
      (case side1 => repeat (first | exact (Kd.C_below HR1_3.out HB.out) | (with_reducible refine ra6 ?_ _) | (with_reducible refine ra7 ?_ _) | (with_reducible refine ra8 ?_)))
      (case side2 => exact HC1_3.out)
      rintro e w67 ⟨v203, rfl, ho0, hb⟩
      refine ⟨_, rfl, ?_⟩
      have n0_ := Aside0.mk (ra4 (by (with_reducible repeat (first | apply ra1 | apply ra2 | apply ra3)); exact HO169.out) (Kd.R_base ho0) hb)
      have n1_ := Aside0.mk (ra4 (by (with_reducible repeat (first | apply ra1 | apply ra2 | apply ra3)); exact HO175.out) (Kd.R_base ho0) hb)
      have n2_ := Aside0.mk (ra4 (by (with_reducible repeat (first | apply ra1 | apply ra2 | apply ra3)); exact HO182.out) (Kd.R_base ho0) hb)
      have n3_ := Aside0.mk (ra4 (by (with_reducible repeat (first | apply ra1 | apply ra2 | apply ra3)); exact HO189.out) (Kd.R_base ho0) hb)
      have n4_ := Aside0.mk (ra4 (by (with_reducible repeat (first | apply ra1 | apply ra2 | apply ra3)); exact HO197.out) (Kd.R_base ho0) hb)
      have n5_ := Aside0.mk (Kd.R_lower (Kd.R_new' (Kd.R_new' (Kd.R_new' (Kd.R_new' (Kd.R_new' ho0 (Kd.R_lt (by (with_reducible repeat (first | apply ra1 | apply ra2 | apply ra3)); exact HO169.out))) (Kd.R_lt (by (with_reducible repeat (first | apply ra1 | apply ra2 | apply ra3)); exact HO175.out))) (Kd.R_lt (by (with_reducible repeat (first | apply ra1 | apply ra2 | apply ra3)); exact HO182.out))) (Kd.R_lt (by (with_reducible repeat (first | apply ra1 | apply ra2 | apply ra3)); exact HO189.out))) (Kd.R_lt (by (with_reducible repeat (first | apply ra1 | apply ra2 | apply ra3)); exact HO197.out))) (below_size (by repeat (first | (with_reducible first | exact HB.out | apply below_alloc | apply rb4 | apply below_drew1 | refine below_set ?_ GE160.out | refine below_set ?_ GE161.out | refine below_set ?_ GE183.out | refine below_set ?_ GE190.out) | exact HB.out))))
      have n6_ := Aside0.mk (blk_below (g := gb160) (o := .cells #[.int .i64 a0_0, .int .i64 a0_1, .float .f64 a0_2, .slice A0_3 l0_3.length c0_3] 25 (0, 0)) (by (with_reducible repeat (first | refine rb1 ?_ _ | refine rb2 ?_ | refine rb3 ?_ _)); exact BK160.out) hb)
      have n7_ := Aside0.mk (blk_below (g := gb161) (o := .cells #[.int .i64 a1_0, .int .i64 a1_1, .float .f64 a1_2, .slice A1_3 l1_3.length c1_3] 25 (0, 0)) (by (with_reducible repeat (first | refine rb1 ?_ _ | refine rb2 ?_ | refine rb3 ?_ _)); exact BK161.out) hb)
      have n8_ := Aside0.mk (blk_below (g := gb183) (o := .cells #[.int .i64 t177, .int .i64 t178, .float .f64 t179, .slice Ao51 t180.length co51] 28 (0, 0)) (by (with_reducible repeat (first | refine rb1 ?_ _ | refine rb2 ?_ | refine rb3 ?_ _)); exact BK183.out) hb)
      have n9_ := Aside0.mk (blk_below (g := gb190) (o := .cells #[.int .i64 t184, .int .i64 t185, .float .f64 t186, .slice Ao59 t187.length co59] 28 (0, 0)) (by (with_reducible repeat (first | refine rb1 ?_ _ | refine rb2 ?_ | refine rb3 ?_ _)); exact BK190.out) hb)
      have n10_ := Aside0.mk (below_step (by repeat (first | (with_reducible first | exact HB.out | apply below_alloc | apply rb4 | apply below_drew1 | refine below_set ?_ GE160.out | refine below_set ?_ GE161.out | refine below_set ?_ GE183.out | refine below_set ?_ GE190.out) | exact HB.out)) hb)
      clear HO169
      clear HO175
      clear HO182
      clear HO189
      clear HO197
      clear BK160
      clear BK161
      clear BK183
      clear BK190
      clear HB
      have HO169 := n0_
      have HO175 := n1_
      have HO182 := n2_
      have HO189 := n3_
      have HO197 := n4_
      have HO204 := n5_
      have BK160 := n6_
      have BK161 := n7_
      have BK183 := n8_
      have BK190 := n9_
      have HB := n10_
      clear n0_ n1_ n2_ n3_ n4_ n5_ n6_ n7_ n8_ n9_ n10_
      (try clear hb)
      (try clear hb2)
      (try clear hk)
      (try clear hi)
      (try clear ho0)
      obtain ⟨Ao68, co68, eo68⟩ := Kd.R_slice HO204.out
      (first | subst eo68 | (injection eo68 with f1_ f2_ f3_; have f4_ := f1_.symm; have f5_ := f3_.symm; clear f1_ f2_ f3_; subst f4_; subst f5_))
      refine hK.out _ _ ⟨(blk_cell BK190.out 0).trans rfl, (blk_cell BK190.out 1).trans rfl, (blk_cell BK190.out 2).trans rfl, (blk_cell BK190.out 3).trans rfl, (blk_cell BK161.out 0).trans rfl, (blk_cell BK161.out 1).trans rfl, (blk_cell BK161.out 2).trans rfl, (blk_cell BK161.out 3).trans rfl⟩ (fun hHeld => ?_)
      clear hK K
      refine norm_ (a' := ?_) ?_ ?_
      rotate_left
      ·show Act.put _ (some 42) _ = _
       simp only [Act.put, List.setIfInBounds_toArray, List.set_cons_zero, List.set_cons_succ, i64_w, i32_w]
       rfl
      refine one_ (i := 3) (N := some 43) #[true, true, true, true, false] rfl rfl (by kernel_rfl) (by decide) (fun K hK => ?_)
      refine goes_ Try.func12 (by kernel_rfl) rfl #[.agg #[.int .i64 t184, .int .i64 t185, .float .f64 t186, .slice Ao59 t187.length co59], .agg #[.int .i64 t199, .int .i64 t200, .float .f64 t201, .slice Ao68 t202.length co68]] (by rfl) rfl rfl (by (try simp only [List.map_toArray, List.map_cons, List.map_nil]); first | done | rfl | (simp only [List.length_drop, List.length_take]; rfl)) ?_
      with_reducible refine (laws_eqItem.calls k t184 t185 t186 _ _ t187 t199 t200 t201 _ _ t202 true _ ?side1 ?side2 ?side3 ?side4 A30.out).mono ?_
      (case side1 => repeat (first | exact (ra9 HO189.out).2.2 | (with_reducible refine ra6 ?_ _) | (with_reducible refine ra7 ?_ _) | (with_reducible refine ra8 ?_)))
      (case side2 => exact (ra9 HO189.out).2.1)
      (case side3 => repeat (first | exact (ra9 HO204.out).2.2 | (with_reducible refine ra6 ?_ _) | (with_reducible refine ra7 ?_ _) | (with_reducible refine ra8 ?_)))
      (case side4 => exact (ra9 HO204.out).2.1)
      rintro e w69 ⟨rfl, hb⟩
      refine ⟨_, rfl, ?_⟩
      have n0_ := Aside0.mk (ra5 (by (with_reducible repeat (first | apply ra1 | apply ra2 | apply ra3)); exact HO169.out) hb)
      have n1_ := Aside0.mk (ra5 (by (with_reducible repeat (first | apply ra1 | apply ra2 | apply ra3)); exact HO175.out) hb)
      have n2_ := Aside0.mk (ra5 (by (with_reducible repeat (first | apply ra1 | apply ra2 | apply ra3)); exact HO182.out) hb)
      have n3_ := Aside0.mk (ra5 (by (with_reducible repeat (first | apply ra1 | apply ra2 | apply ra3)); exact HO189.out) hb)
      have n4_ := Aside0.mk (ra5 (by (with_reducible repeat (first | apply ra1 | apply ra2 | apply ra3)); exact HO197.out) hb)
      have n5_ := Aside0.mk (ra5 (by (with_reducible repeat (first | apply ra1 | apply ra2 | apply ra3)); exact HO204.out) hb)
      have n6_ := Aside0.mk (blk_below (g := gb160) (o := .cells #[.int .i64 a0_0, .int .i64 a0_1, .float .f64 a0_2, .slice A0_3 l0_3.length c0_3] 25 (0, 0)) (by (with_reducible repeat (first | refine rb1 ?_ _ | refine rb2 ?_ | refine rb3 ?_ _)); exact BK160.out) hb)
      have n7_ := Aside0.mk (blk_below (g := gb161) (o := .cells #[.int .i64 a1_0, .int .i64 a1_1, .float .f64 a1_2, .slice A1_3 l1_3.length c1_3] 25 (0, 0)) (by (with_reducible repeat (first | refine rb1 ?_ _ | refine rb2 ?_ | refine rb3 ?_ _)); exact BK161.out) hb)
      have n8_ := Aside0.mk (blk_below (g := gb183) (o := .cells #[.int .i64 t177, .int .i64 t178, .float .f64 t179, .slice Ao51 t180.length co51] 28 (0, 0)) (by (with_reducible repeat (first | refine rb1 ?_ _ | refine rb2 ?_ | refine rb3 ?_ _)); exact BK183.out) hb)
      have n9_ := Aside0.mk (blk_below (g := gb190) (o := .cells #[.int .i64 t184, .int .i64 t185, .float .f64 t186, .slice Ao59 t187.length co59] 28 (0, 0)) (by (with_reducible repeat (first | refine rb1 ?_ _ | refine rb2 ?_ | refine rb3 ?_ _)); exact BK190.out) hb)
      have n10_ := Aside0.mk (below_step (by repeat (first | (with_reducible first | exact HB.out | apply below_alloc | apply rb4 | apply below_drew1 | refine below_set ?_ GE160.out | refine below_set ?_ GE161.out | refine below_set ?_ GE183.out | refine below_set ?_ GE190.out) | exact HB.out)) hb)
      clear HO169
      clear HO175
      clear HO182
      clear HO189
      clear HO197
      clear HO204
      clear BK160
      clear BK161
      clear BK183
      clear BK190
      clear HB
      have HO169 := n0_
      have HO175 := n1_
      have HO182 := n2_
      have HO189 := n3_
      have HO197 := n4_
      have HO204 := n5_
      have BK160 := n6_
      have BK161 := n7_
      have BK183 := n8_
      have BK190 := n9_
      have HB := n10_
      clear n0_ n1_ n2_ n3_ n4_ n5_ n6_ n7_ n8_ n9_ n10_
      (try clear hb)
      (try clear hb2)
      (try clear hk)
      (try clear hi)
      refine hK.out _ _ ⟨(blk_cell BK190.out 0).trans rfl, (blk_cell BK190.out 1).trans rfl, (blk_cell BK190.out 2).trans rfl, (blk_cell BK190.out 3).trans rfl, (blk_cell BK161.out 0).trans rfl, (blk_cell BK161.out 1).trans rfl, (blk_cell BK161.out 2).trans rfl, (blk_cell BK161.out 3).trans rfl⟩ (fun hHeld => ?_)
      clear hK K
      refine norm_ (a' := ?_) ?_ ?_
      rotate_left
      ·show Act.put _ (some 43) _ = _
       simp only [Act.put, List.setIfInBounds_toArray, List.set_cons_zero, List.set_cons_succ, i64_w, i32_w]
       rfl
      refine pure_ (i := 4) (N := some 44) (v := ?_) (a' := ?_) #[true, true, true, true, true] rfl rfl (by kernel_rfl) (fun _ _ _ h => h) (Or.inl ⟨by rfl, ?_⟩) ?_ ?_
      rotate_left
      ·intro w'
       go_simp
       with_reducible rfl
      rotate_left
      ·simp only [Act.put, List.setIfInBounds_toArray, List.set_cons_zero, List.set_cons_succ, i64_w, i32_w]
       rfl
      refine done_ (by kernel_rfl) ?_
      try go_wp2
      go_ret
      exact ⟨by first | rfl | (simp [errW_none, errW_some] <;> rfl) | (simp [*, errW_none, errW_some] <;> rfl), by repeat (first | (with_reducible first | exact HB.out | apply below_alloc | apply rb4 | apply below_drew1 | refine below_set ?_ GE160.out | refine below_set ?_ GE161.out | refine below_set ?_ GE183.out | refine below_set ?_ GE190.out) | exact HB.out)⟩
     ·replace c31 := Bool.eq_false_iff.mpr c31
      subst c31
      have H1 : (some false) = some r := by rw [if_neg (show ¬ (false = true) by decide)] at H; exact H
      clear H
      have H := H1
      clear H1
      obtain rfl := Option.some.inj H
      go_enter Try.func3, Try.ntmps3
      try go_wp2_with (first | ((with_reducible refine gate_dst (N := 2) rfl ?_); refine box_event ?hg (N := 2) ?hd (cs := #[.int .i64 a0_0, .int .i64 a0_1, .float .f64 a0_2, .slice A0_3 l0_3.length c0_3]) (t := 25) ?hr ?_; (case hd => rfl); (case hg => rfl); (case hr => first | (go_simp; done) | (go_simp; rfl)); intro gb160 hg w70 hbox hb; have n0_ := Aside0.mk (below_step (by repeat (first | (with_reducible first | exact HB.out | apply below_alloc | apply rb4 | apply below_drew1) | exact HB.out)) hb); have n1_ := Aside0.mk (hbox); have n2_ := Aside0.mk ((by rw [hg]; exact (below_size (by repeat (first | (with_reducible first | exact HB.out | apply below_alloc | apply rb4 | apply below_drew1) | exact HB.out))) : w.heap.size ≤ gb160)); have n3_ := Aside0.mk ((by rw [hg]; exact (below_size (by repeat (first | (with_reducible first | exact HB.out | apply below_alloc | apply rb4 | apply below_drew1) | exact HB.out))) : w.heap.size ≤ gb160)); clear HB; have HB := n0_; have BK160 := n1_; have GW160 := n2_; have GE160 := n3_; clear n0_ n1_ n2_ n3_; clear hb hbox hg) | ((with_reducible refine gate_dst (N := 3) rfl ?_); refine box_event ?hg (N := 3) ?hd (cs := #[.int .i64 a1_0, .int .i64 a1_1, .float .f64 a1_2, .slice A1_3 l1_3.length c1_3]) (t := 25) ?hr ?_; (case hd => rfl); (case hg => rfl); (case hr => first | (go_simp; done) | (go_simp; rfl)); intro gb161 hg w71 hbox hb; have n0_ := Aside0.mk (blk_below (g := gb160) (o := .cells #[.int .i64 a0_0, .int .i64 a0_1, .float .f64 a0_2, .slice A0_3 l0_3.length c0_3] 25 (0, 0)) (by (with_reducible repeat (first | refine rb1 ?_ _ | refine rb2 ?_ | refine rb3 ?_ _)); exact BK160.out) hb); have n1_ := Aside0.mk (below_step (by repeat (first | (with_reducible first | exact HB.out | apply below_alloc | apply rb4 | apply below_drew1 | refine below_set ?_ GE160.out) | exact HB.out)) hb); have n2_ := Aside0.mk (hbox); have n3_ := Aside0.mk ((by rw [hg]; exact (below_size (by repeat (first | (with_reducible first | exact HB.out | apply below_alloc | apply rb4 | apply below_drew1 | refine below_set ?_ GE160.out) | exact HB.out))) : w.heap.size ≤ gb161)); have n4_ := Aside0.mk ((by rw [hg]; exact (below_size (by repeat (first | (with_reducible first | exact HB.out | apply below_alloc | apply rb4 | apply below_drew1 | refine below_set ?_ GE160.out) | exact HB.out))) : w.heap.size ≤ gb161)); have n5_ := Aside0.mk ((by rw [hg]; exact Nat.ne_of_lt (blk_lt (g := gb160) (o := .cells #[.int .i64 a0_0, .int .i64 a0_1, .float .f64 a0_2, .slice A0_3 l0_3.length c0_3] 25 (0, 0)) (by (with_reducible repeat (first | refine rb1 ?_ _ | refine rb2 ?_ | refine rb3 ?_ _)); exact BK160.out)) : gb160 ≠ gb161)); have n6_ := Aside0.mk ((by rw [hg]; exact Nat.ne_of_gt (blk_lt (g := gb160) (o := .cells #[.int .i64 a0_0, .int .i64 a0_1, .float .f64 a0_2, .slice A0_3 l0_3.length c0_3] 25 (0, 0)) (by (with_reducible repeat (first | refine rb1 ?_ _ | refine rb2 ?_ | refine rb3 ?_ _)); exact BK160.out)) : gb161 ≠ gb160)); clear BK160; clear HB; have BK160 := n0_; have HB := n1_; have BK161 := n2_; have GW161 := n3_; have GE161 := n4_; have NB160_161 := n5_; have NB161_160 := n6_; clear n0_ n1_ n2_ n3_ n4_ n5_ n6_; clear hb hbox hg; have hnb72 := NB160_161.out; have hnc72 := NB161_160.out; have hcz73_0 : w71.cell? ⟨gb160, 0, none⟩ = some (.int .i64 a0_0) := (blk_cell BK160.out 0).trans rfl; have hcz73_1 : w71.cell? ⟨gb160, 1, none⟩ = some (.int .i64 a0_1) := (blk_cell BK160.out 1).trans rfl; have hcz73_2 : w71.cell? ⟨gb160, 2, none⟩ = some (.float .f64 a0_2) := (blk_cell BK160.out 2).trans rfl; have hcz73_3 : w71.cell? ⟨gb160, 3, none⟩ = some (.slice A0_3 l0_3.length c0_3) := (blk_cell BK160.out 3).trans rfl; have hfz73_0 := blk_frozen BK160.out 0; have hfz73_1 := blk_frozen BK160.out 1; have hfz73_2 := blk_frozen BK160.out 2; have hfz73_3 := blk_frozen BK160.out 3) | ((with_reducible refine gate_callee (f := 8) rfl ?_); refine goesL_ (some 12) rfl rfl Try.func8 (by kernel_rfl) rfl #[.agg #[.int .i64 a0_0, .int .i64 a0_1, .float .f64 a0_2, .slice A0_3 l0_3.length c0_3], .int .i64 1048576] rfl (by (try simp only [List.map_toArray, List.map_cons, List.map_nil]); first | done | rfl | (simp only [List.length_drop, List.length_take]; rfl)) ?_; (with_reducible refine (laws_szItem.calls a0_0 a0_1 a0_2 _ _ l0_3 1048576 t162 _ ?side1 ?side2 A3.out).mono ?_); (case side1 => repeat (first | exact (Kd.C_below HR0_3.out HB.out) | (with_reducible refine ra6 ?_ _) | (with_reducible refine ra7 ?_ _) | (with_reducible refine ra8 ?_))); (case side2 => exact HC0_3.out); rintro e w74 ⟨rfl, hb⟩; refine ⟨_, rfl, ?_⟩; have n0_ := Aside0.mk (blk_below (g := gb160) (o := .cells #[.int .i64 a0_0, .int .i64 a0_1, .float .f64 a0_2, .slice A0_3 l0_3.length c0_3] 25 (0, 0)) (by (with_reducible repeat (first | refine rb1 ?_ _ | refine rb2 ?_ | refine rb3 ?_ _)); exact BK160.out) hb); have n1_ := Aside0.mk (blk_below (g := gb161) (o := .cells #[.int .i64 a1_0, .int .i64 a1_1, .float .f64 a1_2, .slice A1_3 l1_3.length c1_3] 25 (0, 0)) (by (with_reducible repeat (first | refine rb1 ?_ _ | refine rb2 ?_ | refine rb3 ?_ _)); exact BK161.out) hb); have n2_ := Aside0.mk (below_step (by repeat (first | (with_reducible first | exact HB.out | apply below_alloc | apply rb4 | apply below_drew1 | refine below_set ?_ GE160.out | refine below_set ?_ GE161.out) | exact HB.out)) hb); clear BK160; clear BK161; clear HB; have BK160 := n0_; have BK161 := n1_; have HB := n2_; clear n0_ n1_ n2_; (try clear hb); (try clear hb2); (try clear hk); (try clear hi); have hcz75_0 : w74.cell? ⟨gb161, 0, none⟩ = some (.int .i64 a1_0) := (blk_cell BK161.out 0).trans rfl; have hcz75_1 : w74.cell? ⟨gb161, 1, none⟩ = some (.int .i64 a1_1) := (blk_cell BK161.out 1).trans rfl; have hcz75_2 : w74.cell? ⟨gb161, 2, none⟩ = some (.float .f64 a1_2) := (blk_cell BK161.out 2).trans rfl; have hcz75_3 : w74.cell? ⟨gb161, 3, none⟩ = some (.slice A1_3 l1_3.length c1_3) := (blk_cell BK161.out 3).trans rfl; have hfz75_0 := blk_frozen BK161.out 0; have hfz75_1 := blk_frozen BK161.out 1; have hfz75_2 := blk_frozen BK161.out 2; have hfz75_3 := blk_frozen BK161.out 3) | ((with_reducible refine gate_callee (f := 8) rfl ?_); refine goesL_ (some 17) rfl rfl Try.func8 (by kernel_rfl) rfl #[.agg #[.int .i64 a1_0, .int .i64 a1_1, .float .f64 a1_2, .slice A1_3 l1_3.length c1_3], .int .i64 t162] rfl (by (try simp only [List.map_toArray, List.map_cons, List.map_nil]); first | done | rfl | (simp only [List.length_drop, List.length_take]; rfl)) ?_; (with_reducible refine (laws_szItem.calls a1_0 a1_1 a1_2 _ _ l1_3 t162 t163 _ ?side1 ?side2 A10.out).mono ?_); (case side1 => repeat (first | exact (Kd.C_below HR1_3.out HB.out) | (with_reducible refine ra6 ?_ _) | (with_reducible refine ra7 ?_ _) | (with_reducible refine ra8 ?_))); (case side2 => exact HC1_3.out); rintro e w76 ⟨rfl, hb⟩; refine ⟨_, rfl, ?_⟩; have n0_ := Aside0.mk (blk_below (g := gb160) (o := .cells #[.int .i64 a0_0, .int .i64 a0_1, .float .f64 a0_2, .slice A0_3 l0_3.length c0_3] 25 (0, 0)) (by (with_reducible repeat (first | refine rb1 ?_ _ | refine rb2 ?_ | refine rb3 ?_ _)); exact BK160.out) hb); have n1_ := Aside0.mk (blk_below (g := gb161) (o := .cells #[.int .i64 a1_0, .int .i64 a1_1, .float .f64 a1_2, .slice A1_3 l1_3.length c1_3] 25 (0, 0)) (by (with_reducible repeat (first | refine rb1 ?_ _ | refine rb2 ?_ | refine rb3 ?_ _)); exact BK161.out) hb); have n2_ := Aside0.mk (below_step (by repeat (first | (with_reducible first | exact HB.out | apply below_alloc | apply rb4 | apply below_drew1 | refine below_set ?_ GE160.out | refine below_set ?_ GE161.out) | exact HB.out)) hb); clear BK160; clear BK161; clear HB; have BK160 := n0_; have BK161 := n1_; have HB := n2_; clear n0_ n1_ n2_; (try clear hb); (try clear hb2); (try clear hk); (try clear hi)))
      have n0_ := Aside0.mk (rb2 BK160.out)
      have n1_ := Aside0.mk (rb2 BK161.out)
      have n2_ := Aside0.mk (below_drew1 HB.out)
      clear BK160
      clear BK161
      clear HB
      have BK160 := n0_
      have BK161 := n1_
      have HB := n2_
      clear n0_ n1_ n2_
      refine start_ (n := 6) (S := fun w' => w'.cell? ⟨gb160, 0, none⟩ = some (.int .i64 a0_0) ∧ w'.cell? ⟨gb160, 1, none⟩ = some (.int .i64 a0_1) ∧ w'.cell? ⟨gb160, 2, none⟩ = some (.float .f64 a0_2) ∧ w'.cell? ⟨gb160, 3, none⟩ = some (.slice A0_3 l0_3.length c0_3) ∧ w'.cell? ⟨gb161, 0, none⟩ = some (.int .i64 a1_0) ∧ w'.cell? ⟨gb161, 1, none⟩ = some (.int .i64 a1_1) ∧ w'.cell? ⟨gb161, 2, none⟩ = some (.float .f64 a1_2) ∧ w'.cell? ⟨gb161, 3, none⟩ = some (.slice A1_3 l1_3.length c1_3)) (ds := []) #[false, false, false, false, false, false] (by kernel_rfl) rfl rfl ⟨(blk_cell BK160.out 0).trans rfl, (blk_cell BK160.out 1).trans rfl, (blk_cell BK160.out 2).trans rfl, (blk_cell BK160.out 3).trans rfl, (blk_cell BK161.out 0).trans rfl, (blk_cell BK161.out 1).trans rfl, (blk_cell BK161.out 2).trans rfl, (blk_cell BK161.out 3).trans rfl⟩ (fun hHeld => ?_)
      generalize w76.drew = w77 at BK160 BK161 HB hHeld ⊢
      refine take_ (i := 0) (N := some 20) (v := ?_) (a' := ?_) #[true, false, false, false, false, false] rfl rfl (by kernel_rfl) (fun _ _ _ h => h) (Or.inl ⟨by rfl, ?_⟩) hHeld ?_ ?_
      rotate_left
      ·rintro w' ⟨s0, s1, s2, s3, s4, s5, s6, s7⟩
       go_simp
       with_reducible rfl
      rotate_left
      ·simp only [Act.put, List.setIfInBounds_toArray, List.set_cons_zero, List.set_cons_succ, i64_w, i32_w]
       rfl
      refine take_ (i := 2) (N := some 22) (v := ?_) (a' := ?_) #[true, false, true, false, false, false] rfl rfl (by kernel_rfl) (fun _ _ _ h => h) (Or.inl ⟨by rfl, ?_⟩) hHeld ?_ ?_
      rotate_left
      ·rintro w' ⟨s0, s1, s2, s3, s4, s5, s6, s7⟩
       go_simp
       with_reducible rfl
      rotate_left
      ·simp only [Act.put, List.setIfInBounds_toArray, List.set_cons_zero, List.set_cons_succ, i64_w, i32_w]
       rfl
      refine one_ (i := 1) (N := some 21) #[true, true, true, false, false, false] rfl rfl (by kernel_rfl) (by decide) (fun K hK => ?_)
      refine goes_ Try.func10 (by kernel_rfl) rfl #[.agg #[.int .i64 a0_0, .int .i64 a0_1, .float .f64 a0_2, .slice A0_3 l0_3.length c0_3]] (by rfl) rfl rfl (by (try simp only [List.map_toArray, List.map_cons, List.map_nil]); first | done | rfl | (simp only [List.length_drop, List.length_take]; rfl)) ?_
      with_reducible refine (laws_toItem.calls k a0_0 a0_1 a0_2 _ _ l0_3 t164 t165 t166 t167 _ ?side1 ?side2 A19.out).mono ?_
      (case side1 => repeat (first | exact (Kd.C_below HR0_3.out HB.out) | (with_reducible refine ra6 ?_ _) | (with_reducible refine ra7 ?_ _) | (with_reducible refine ra8 ?_)))
      (case side2 => exact HC0_3.out)
      rintro e w78 ⟨v168, rfl, ho0, hb⟩
      refine ⟨_, rfl, ?_⟩
      have n0_ := Aside0.mk (Kd.R_lower ho0 (below_size (by repeat (first | (with_reducible first | exact HB.out | apply below_alloc | apply rb4 | apply below_drew1 | refine below_set ?_ GE160.out | refine below_set ?_ GE161.out) | exact HB.out))))
      have n1_ := Aside0.mk (blk_below (g := gb160) (o := .cells #[.int .i64 a0_0, .int .i64 a0_1, .float .f64 a0_2, .slice A0_3 l0_3.length c0_3] 25 (0, 0)) (by (with_reducible repeat (first | refine rb1 ?_ _ | refine rb2 ?_ | refine rb3 ?_ _)); exact BK160.out) hb)
      have n2_ := Aside0.mk (blk_below (g := gb161) (o := .cells #[.int .i64 a1_0, .int .i64 a1_1, .float .f64 a1_2, .slice A1_3 l1_3.length c1_3] 25 (0, 0)) (by (with_reducible repeat (first | refine rb1 ?_ _ | refine rb2 ?_ | refine rb3 ?_ _)); exact BK161.out) hb)
      have n3_ := Aside0.mk (below_step (by repeat (first | (with_reducible first | exact HB.out | apply below_alloc | apply rb4 | apply below_drew1 | refine below_set ?_ GE160.out | refine below_set ?_ GE161.out) | exact HB.out)) hb)
      clear BK160
      clear BK161
      clear HB
      have HO169 := n0_
      have BK160 := n1_
      have BK161 := n2_
      have HB := n3_
      clear n0_ n1_ n2_ n3_
      (try clear hb)
      (try clear hb2)
      (try clear hk)
      (try clear hi)
      (try clear ho0)
      refine hK.out _ _ ⟨(blk_cell BK160.out 0).trans rfl, (blk_cell BK160.out 1).trans rfl, (blk_cell BK160.out 2).trans rfl, (blk_cell BK160.out 3).trans rfl, (blk_cell BK161.out 0).trans rfl, (blk_cell BK161.out 1).trans rfl, (blk_cell BK161.out 2).trans rfl, (blk_cell BK161.out 3).trans rfl⟩ (fun hHeld => ?_)
      clear hK K
      refine norm_ (a' := ?_) ?_ ?_
      rotate_left
      ·show Act.put _ (some 21) _ = _
       simp only [Act.put, List.setIfInBounds_toArray, List.set_cons_zero, List.set_cons_succ, i64_w, i32_w]
       rfl
      refine one_ (i := 3) (N := some 23) #[true, true, true, true, false, false] rfl rfl (by kernel_rfl) (by decide) (fun K hK => ?_)
      refine goes_ Try.func10 (by kernel_rfl) rfl #[.agg #[.int .i64 a1_0, .int .i64 a1_1, .float .f64 a1_2, .slice A1_3 l1_3.length c1_3]] (by rfl) rfl rfl (by (try simp only [List.map_toArray, List.map_cons, List.map_nil]); first | done | rfl | (simp only [List.length_drop, List.length_take]; rfl)) ?_
      with_reducible refine (laws_toItem.calls k a1_0 a1_1 a1_2 _ _ l1_3 t170 t171 t172 t173 _ ?side1 ?side2 A20.out).mono ?_
      (case side1 => repeat (first | exact (Kd.C_below HR1_3.out HB.out) | (with_reducible refine ra6 ?_ _) | (with_reducible refine ra7 ?_ _) | (with_reducible refine ra8 ?_)))
      (case side2 => exact HC1_3.out)
      rintro e w79 ⟨v174, rfl, ho0, hb⟩
      refine ⟨_, rfl, ?_⟩
      have n0_ := Aside0.mk (ra4 (by (with_reducible repeat (first | apply ra1 | apply ra2 | apply ra3)); exact HO169.out) (Kd.R_base ho0) hb)
      have n1_ := Aside0.mk (Kd.R_lower (Kd.R_new' ho0 (Kd.R_lt (by (with_reducible repeat (first | apply ra1 | apply ra2 | apply ra3)); exact HO169.out))) (below_size (by repeat (first | (with_reducible first | exact HB.out | apply below_alloc | apply rb4 | apply below_drew1 | refine below_set ?_ GE160.out | refine below_set ?_ GE161.out) | exact HB.out))))
      have n2_ := Aside0.mk (blk_below (g := gb160) (o := .cells #[.int .i64 a0_0, .int .i64 a0_1, .float .f64 a0_2, .slice A0_3 l0_3.length c0_3] 25 (0, 0)) (by (with_reducible repeat (first | refine rb1 ?_ _ | refine rb2 ?_ | refine rb3 ?_ _)); exact BK160.out) hb)
      have n3_ := Aside0.mk (blk_below (g := gb161) (o := .cells #[.int .i64 a1_0, .int .i64 a1_1, .float .f64 a1_2, .slice A1_3 l1_3.length c1_3] 25 (0, 0)) (by (with_reducible repeat (first | refine rb1 ?_ _ | refine rb2 ?_ | refine rb3 ?_ _)); exact BK161.out) hb)
      have n4_ := Aside0.mk (below_step (by repeat (first | (with_reducible first | exact HB.out | apply below_alloc | apply rb4 | apply below_drew1 | refine below_set ?_ GE160.out | refine below_set ?_ GE161.out) | exact HB.out)) hb)
      clear HO169
      clear BK160
      clear BK161
      clear HB
      have HO169 := n0_
      have HO175 := n1_
      have BK160 := n2_
      have BK161 := n3_
      have HB := n4_
      clear n0_ n1_ n2_ n3_ n4_
      (try clear hb)
      (try clear hb2)
      (try clear hk)
      (try clear hi)
      (try clear ho0)
      obtain ⟨Ao80, co80, eo80⟩ := Kd.R_slice HO169.out
      (first | subst eo80 | (injection eo80 with f1_ f2_ f3_; have f4_ := f1_.symm; have f5_ := f3_.symm; clear f1_ f2_ f3_; subst f4_; subst f5_))
      obtain ⟨Ao81, co81, eo81⟩ := Kd.R_slice HO175.out
      (first | subst eo81 | (injection eo81 with f1_ f2_ f3_; have f4_ := f1_.symm; have f5_ := f3_.symm; clear f1_ f2_ f3_; subst f4_; subst f5_))
      refine hK.out _ _ ⟨(blk_cell BK160.out 0).trans rfl, (blk_cell BK160.out 1).trans rfl, (blk_cell BK160.out 2).trans rfl, (blk_cell BK160.out 3).trans rfl, (blk_cell BK161.out 0).trans rfl, (blk_cell BK161.out 1).trans rfl, (blk_cell BK161.out 2).trans rfl, (blk_cell BK161.out 3).trans rfl⟩ (fun hHeld => ?_)
      clear hK K
      refine norm_ (a' := ?_) ?_ ?_
      rotate_left
      ·show Act.put _ (some 23) _ = _
       simp only [Act.put, List.setIfInBounds_toArray, List.set_cons_zero, List.set_cons_succ, i64_w, i32_w]
       rfl
      refine one_ (i := 4) (N := some 24) #[true, true, true, true, true, false] rfl rfl (by kernel_rfl) (by decide) (fun K hK => ?_)
      refine goes_ Try.func9 (by kernel_rfl) rfl #[.agg #[.int .i64 t164, .int .i64 t165, .float .f64 t166, .slice Ao80 t167.length co80], .agg #[.int .i64 t170, .int .i64 t171, .float .f64 t172, .slice Ao81 t173.length co81]] (by rfl) rfl rfl (by (try simp only [List.map_toArray, List.map_cons, List.map_nil]); first | done | rfl | (simp only [List.length_drop, List.length_take]; rfl)) ?_
      with_reducible refine (spec_ItemCompare.calls k t164 t165 t166 _ _ t167 t170 t171 t172 _ _ t173 t176 _ ?side1 ?side2 ?side3 ?side4 A21.out).mono ?_
      (case side1 => repeat (first | exact (ra9 HO169.out).2.2 | (with_reducible refine ra6 ?_ _) | (with_reducible refine ra7 ?_ _) | (with_reducible refine ra8 ?_)))
      (case side2 => exact (ra9 HO169.out).2.1)
      (case side3 => repeat (first | exact (ra9 HO175.out).2.2 | (with_reducible refine ra6 ?_ _) | (with_reducible refine ra7 ?_ _) | (with_reducible refine ra8 ?_)))
      (case side4 => exact (ra9 HO175.out).2.1)
      rintro e w82 ⟨rfl, hb⟩
      refine ⟨_, rfl, ?_⟩
      have n0_ := Aside0.mk (ra5 (by (with_reducible repeat (first | apply ra1 | apply ra2 | apply ra3)); exact HO169.out) hb)
      have n1_ := Aside0.mk (ra5 (by (with_reducible repeat (first | apply ra1 | apply ra2 | apply ra3)); exact HO175.out) hb)
      have n2_ := Aside0.mk (blk_below (g := gb160) (o := .cells #[.int .i64 a0_0, .int .i64 a0_1, .float .f64 a0_2, .slice A0_3 l0_3.length c0_3] 25 (0, 0)) (by (with_reducible repeat (first | refine rb1 ?_ _ | refine rb2 ?_ | refine rb3 ?_ _)); exact BK160.out) hb)
      have n3_ := Aside0.mk (blk_below (g := gb161) (o := .cells #[.int .i64 a1_0, .int .i64 a1_1, .float .f64 a1_2, .slice A1_3 l1_3.length c1_3] 25 (0, 0)) (by (with_reducible repeat (first | refine rb1 ?_ _ | refine rb2 ?_ | refine rb3 ?_ _)); exact BK161.out) hb)
      have n4_ := Aside0.mk (below_step (by repeat (first | (with_reducible first | exact HB.out | apply below_alloc | apply rb4 | apply below_drew1 | refine below_set ?_ GE160.out | refine below_set ?_ GE161.out) | exact HB.out)) hb)
      clear HO169
      clear HO175
      clear BK160
      clear BK161
      clear HB
      have HO169 := n0_
      have HO175 := n1_
      have BK160 := n2_
      have BK161 := n3_
      have HB := n4_
      clear n0_ n1_ n2_ n3_ n4_
      (try clear hb)
      (try clear hb2)
      (try clear hk)
      (try clear hi)
      refine hK.out _ _ ⟨(blk_cell BK160.out 0).trans rfl, (blk_cell BK160.out 1).trans rfl, (blk_cell BK160.out 2).trans rfl, (blk_cell BK160.out 3).trans rfl, (blk_cell BK161.out 0).trans rfl, (blk_cell BK161.out 1).trans rfl, (blk_cell BK161.out 2).trans rfl, (blk_cell BK161.out 3).trans rfl⟩ (fun hHeld => ?_)
      clear hK K
      refine norm_ (a' := ?_) ?_ ?_
      rotate_left
      ·show Act.put _ (some 24) _ = _
       simp only [Act.put, List.setIfInBounds_toArray, List.set_cons_zero, List.set_cons_succ, i64_w, i32_w]
       rfl
      refine pure_ (i := 5) (N := some 6) (v := ?_) (a' := ?_) #[true, true, true, true, true, true] rfl rfl (by kernel_rfl) (fun _ _ _ h => h) (Or.inl ⟨by rfl, ?_⟩) ?_ ?_
      rotate_left
      ·intro w'
       go_simp
       with_reducible rfl
      rotate_left
      ·simp only [Act.put, List.setIfInBounds_toArray, List.set_cons_zero, List.set_cons_succ, i64_w, i32_w]
       rfl
      refine done_ (by kernel_rfl) ?_
      have hcz83_0 : w82.cell? ⟨gb160, 0, none⟩ = some (.int .i64 a0_0) := (blk_cell BK160.out 0).trans rfl
      have hcz83_1 : w82.cell? ⟨gb160, 1, none⟩ = some (.int .i64 a0_1) := (blk_cell BK160.out 1).trans rfl
      have hcz83_2 : w82.cell? ⟨gb160, 2, none⟩ = some (.float .f64 a0_2) := (blk_cell BK160.out 2).trans rfl
      have hcz83_3 : w82.cell? ⟨gb160, 3, none⟩ = some (.slice A0_3 l0_3.length c0_3) := (blk_cell BK160.out 3).trans rfl
      have hfz83_0 := blk_frozen BK160.out 0
      have hfz83_1 := blk_frozen BK160.out 1
      have hfz83_2 := blk_frozen BK160.out 2
      have hfz83_3 := blk_frozen BK160.out 3
      try go_wp2_with (first | ((with_reducible refine gate_callee (f := 10) rfl ?_); refine goesL_ (some 26) rfl rfl Try.func10 (by kernel_rfl) rfl #[.agg #[.int .i64 a0_0, .int .i64 a0_1, .float .f64 a0_2, .slice A0_3 l0_3.length c0_3]] rfl (by (try simp only [List.map_toArray, List.map_cons, List.map_nil]); first | done | rfl | (simp only [List.length_drop, List.length_take]; rfl)) ?_; (with_reducible refine (laws_toItem.calls k a0_0 a0_1 a0_2 _ _ l0_3 t177 t178 t179 t180 _ ?side1 ?side2 A22.out).mono ?_); (case side1 => repeat (first | exact (Kd.C_below HR0_3.out HB.out) | (with_reducible refine ra6 ?_ _) | (with_reducible refine ra7 ?_ _) | (with_reducible refine ra8 ?_))); (case side2 => exact HC0_3.out); rintro e w84 ⟨v181, rfl, ho0, hb⟩; refine ⟨_, rfl, ?_⟩; have n0_ := Aside0.mk (ra4 (by (with_reducible repeat (first | apply ra1 | apply ra2 | apply ra3)); exact HO169.out) (Kd.R_base ho0) hb); have n1_ := Aside0.mk (ra4 (by (with_reducible repeat (first | apply ra1 | apply ra2 | apply ra3)); exact HO175.out) (Kd.R_base ho0) hb); have n2_ := Aside0.mk (Kd.R_lower (Kd.R_new' (Kd.R_new' ho0 (Kd.R_lt (by (with_reducible repeat (first | apply ra1 | apply ra2 | apply ra3)); exact HO169.out))) (Kd.R_lt (by (with_reducible repeat (first | apply ra1 | apply ra2 | apply ra3)); exact HO175.out))) (below_size (by repeat (first | (with_reducible first | exact HB.out | apply below_alloc | apply rb4 | apply below_drew1 | refine below_set ?_ GE160.out | refine below_set ?_ GE161.out) | exact HB.out)))); have n3_ := Aside0.mk (blk_below (g := gb160) (o := .cells #[.int .i64 a0_0, .int .i64 a0_1, .float .f64 a0_2, .slice A0_3 l0_3.length c0_3] 25 (0, 0)) (by (with_reducible repeat (first | refine rb1 ?_ _ | refine rb2 ?_ | refine rb3 ?_ _)); exact BK160.out) hb); have n4_ := Aside0.mk (blk_below (g := gb161) (o := .cells #[.int .i64 a1_0, .int .i64 a1_1, .float .f64 a1_2, .slice A1_3 l1_3.length c1_3] 25 (0, 0)) (by (with_reducible repeat (first | refine rb1 ?_ _ | refine rb2 ?_ | refine rb3 ?_ _)); exact BK161.out) hb); have n5_ := Aside0.mk (below_step (by repeat (first | (with_reducible first | exact HB.out | apply below_alloc | apply rb4 | apply below_drew1 | refine below_set ?_ GE160.out | refine below_set ?_ GE161.out) | exact HB.out)) hb); clear HO169; clear HO175; clear BK160; clear BK161; clear HB; have HO169 := n0_; have HO175 := n1_; have HO182 := n2_; have BK160 := n3_; have BK161 := n4_; have HB := n5_; clear n0_ n1_ n2_ n3_ n4_ n5_; (try clear hb); (try clear hb2); (try clear hk); (try clear hi); (try clear ho0)) | ((with_reducible refine gate_dst (N := 7) rfl ?_); refine box_event ?hg (N := 7) ?hd (cs := #[.int .i64 0, .int .i64 0, .float .f64 0, .slice none 0 0]) (t := 28) ?hr ?_; (case hd => rfl); (case hg => rfl); (case hr => first | (go_simp; done) | (go_simp; rfl)); intro gb183 hg w85 hbox hb; have n0_ := Aside0.mk (ra5 (by (with_reducible repeat (first | apply ra1 | apply ra2 | apply ra3)); exact HO169.out) hb); have n1_ := Aside0.mk (ra5 (by (with_reducible repeat (first | apply ra1 | apply ra2 | apply ra3)); exact HO175.out) hb); have n2_ := Aside0.mk (ra5 (by (with_reducible repeat (first | apply ra1 | apply ra2 | apply ra3)); exact HO182.out) hb); have n3_ := Aside0.mk (blk_below (g := gb160) (o := .cells #[.int .i64 a0_0, .int .i64 a0_1, .float .f64 a0_2, .slice A0_3 l0_3.length c0_3] 25 (0, 0)) (by (with_reducible repeat (first | refine rb1 ?_ _ | refine rb2 ?_ | refine rb3 ?_ _)); exact BK160.out) hb); have n4_ := Aside0.mk (blk_below (g := gb161) (o := .cells #[.int .i64 a1_0, .int .i64 a1_1, .float .f64 a1_2, .slice A1_3 l1_3.length c1_3] 25 (0, 0)) (by (with_reducible repeat (first | refine rb1 ?_ _ | refine rb2 ?_ | refine rb3 ?_ _)); exact BK161.out) hb); have n5_ := Aside0.mk (below_step (by repeat (first | (with_reducible first | exact HB.out | apply below_alloc | apply rb4 | apply below_drew1 | refine below_set ?_ GE160.out | refine below_set ?_ GE161.out) | exact HB.out)) hb); have n6_ := Aside0.mk (hbox); have n7_ := Aside0.mk ((by rw [hg]; exact (below_size (by repeat (first | (with_reducible first | exact HB.out | apply below_alloc | apply rb4 | apply below_drew1 | refine below_set ?_ GE160.out | refine below_set ?_ GE161.out) | exact HB.out))) : w.heap.size ≤ gb183)); have n8_ := Aside0.mk ((by rw [hg]; exact (below_size (by repeat (first | (with_reducible first | exact HB.out | apply below_alloc | apply rb4 | apply below_drew1 | refine below_set ?_ GE160.out | refine below_set ?_ GE161.out) | exact HB.out))) : w.heap.size ≤ gb183)); have n9_ := Aside0.mk ((by rw [hg]; exact Nat.ne_of_lt (blk_lt (g := gb160) (o := .cells #[.int .i64 a0_0, .int .i64 a0_1, .float .f64 a0_2, .slice A0_3 l0_3.length c0_3] 25 (0, 0)) (by (with_reducible repeat (first | refine rb1 ?_ _ | refine rb2 ?_ | refine rb3 ?_ _)); exact BK160.out)) : gb160 ≠ gb183)); have n10_ := Aside0.mk ((by rw [hg]; exact Nat.ne_of_gt (blk_lt (g := gb160) (o := .cells #[.int .i64 a0_0, .int .i64 a0_1, .float .f64 a0_2, .slice A0_3 l0_3.length c0_3] 25 (0, 0)) (by (with_reducible repeat (first | refine rb1 ?_ _ | refine rb2 ?_ | refine rb3 ?_ _)); exact BK160.out)) : gb183 ≠ gb160)); have n11_ := Aside0.mk ((by rw [hg]; exact Nat.ne_of_lt (blk_lt (g := gb161) (o := .cells #[.int .i64 a1_0, .int .i64 a1_1, .float .f64 a1_2, .slice A1_3 l1_3.length c1_3] 25 (0, 0)) (by (with_reducible repeat (first | refine rb1 ?_ _ | refine rb2 ?_ | refine rb3 ?_ _)); exact BK161.out)) : gb161 ≠ gb183)); have n12_ := Aside0.mk ((by rw [hg]; exact Nat.ne_of_gt (blk_lt (g := gb161) (o := .cells #[.int .i64 a1_0, .int .i64 a1_1, .float .f64 a1_2, .slice A1_3 l1_3.length c1_3] 25 (0, 0)) (by (with_reducible repeat (first | refine rb1 ?_ _ | refine rb2 ?_ | refine rb3 ?_ _)); exact BK161.out)) : gb183 ≠ gb161)); clear HO169; clear HO175; clear HO182; clear BK160; clear BK161; clear HB; have HO169 := n0_; have HO175 := n1_; have HO182 := n2_; have BK160 := n3_; have BK161 := n4_; have HB := n5_; have BK183 := n6_; have GW183 := n7_; have GE183 := n8_; have NB160_183 := n9_; have NB183_160 := n10_; have NB161_183 := n11_; have NB183_161 := n12_; clear n0_ n1_ n2_ n3_ n4_ n5_ n6_ n7_ n8_ n9_ n10_ n11_ n12_; clear hb hbox hg; have hnb86 := NB183_160.out; have hnc86 := NB160_183.out; have hnb87 := NB183_161.out; have hnc87 := NB161_183.out; have hcz88_0 : w85.cell? ⟨gb183, 0, none⟩ = some (.int .i64 0) := (blk_cell BK183.out 0).trans rfl; have hcz88_1 : w85.cell? ⟨gb183, 1, none⟩ = some (.int .i64 0) := (blk_cell BK183.out 1).trans rfl; have hcz88_2 : w85.cell? ⟨gb183, 2, none⟩ = some (.float .f64 0) := (blk_cell BK183.out 2).trans rfl; have hcz88_3 : w85.cell? ⟨gb183, 3, none⟩ = some (.slice none 0 0) := (blk_cell BK183.out 3).trans rfl; have hfz88_0 := blk_frozen BK183.out 0; have hfz88_1 := blk_frozen BK183.out 1; have hfz88_2 := blk_frozen BK183.out 2; have hfz88_3 := blk_frozen BK183.out 3; obtain ⟨Ao89, co89, eo89⟩ := Kd.R_slice HO182.out; subst eo89; have hcz90_0 : w85.cell? ⟨gb161, 0, none⟩ = some (.int .i64 a1_0) := (blk_cell BK161.out 0).trans rfl; have hcz90_1 : w85.cell? ⟨gb161, 1, none⟩ = some (.int .i64 a1_1) := (blk_cell BK161.out 1).trans rfl; have hcz90_2 : w85.cell? ⟨gb161, 2, none⟩ = some (.float .f64 a1_2) := (blk_cell BK161.out 2).trans rfl; have hcz90_3 : w85.cell? ⟨gb161, 3, none⟩ = some (.slice A1_3 l1_3.length c1_3) := (blk_cell BK161.out 3).trans rfl; have hfz90_0 := blk_frozen BK161.out 0; have hfz90_1 := blk_frozen BK161.out 1; have hfz90_2 := blk_frozen BK161.out 2; have hfz90_3 := blk_frozen BK161.out 3) | ((with_reducible refine gate_callee (f := 10) rfl ?_); refine goesL_ (some 28) rfl rfl Try.func10 (by kernel_rfl) rfl #[.agg #[.int .i64 a1_0, .int .i64 a1_1, .float .f64 a1_2, .slice A1_3 l1_3.length c1_3]] rfl (by (try simp only [List.map_toArray, List.map_cons, List.map_nil]); first | done | rfl | (simp only [List.length_drop, List.length_take]; rfl)) ?_; (with_reducible refine (laws_toItem.calls k a1_0 a1_1 a1_2 _ _ l1_3 t184 t185 t186 t187 _ ?side1 ?side2 A23.out).mono ?_); (case side1 => exact Kd.C_below HR1_3.out (by repeat (first | (with_reducible first | exact HB.out | apply below_alloc | apply rb4 | apply below_drew1 | refine below_set ?_ GE160.out | refine below_set ?_ GE161.out | refine below_set ?_ GE183.out) | exact HB.out))); (case side2 => exact HC1_3.out); rintro e w91 ⟨v188, rfl, ho0, hb⟩; refine ⟨_, rfl, ?_⟩; have n0_ := Aside0.mk (ra4 (by (with_reducible repeat (first | apply ra1 | apply ra2 | apply ra3)); exact (Kd.R_mono (Kd.R_far (p := ⟨gb183, 3, none⟩) (Kd.R_far (p := ⟨gb183, 2, none⟩) (Kd.R_far (p := ⟨gb183, 1, none⟩) (Kd.R_far (p := ⟨gb183, 0, none⟩) (Kd.R_types HO169.out BK183.out (by decide)) (fun _ hk => hk.2) (.int .i64 t177)) (fun _ hk => hk.2) (.int .i64 t178)) (fun _ hk => hk.2) (.float .f64 t179)) (fun _ hk => hk.2) (.slice Ao89 t180.length co89)) (fun _ h_ => h_.1))) (Kd.R_base ho0) hb); have n1_ := Aside0.mk (ra4 (by (with_reducible repeat (first | apply ra1 | apply ra2 | apply ra3)); exact (Kd.R_mono (Kd.R_far (p := ⟨gb183, 3, none⟩) (Kd.R_far (p := ⟨gb183, 2, none⟩) (Kd.R_far (p := ⟨gb183, 1, none⟩) (Kd.R_far (p := ⟨gb183, 0, none⟩) (Kd.R_types HO175.out BK183.out (by decide)) (fun _ hk => hk.2) (.int .i64 t177)) (fun _ hk => hk.2) (.int .i64 t178)) (fun _ hk => hk.2) (.float .f64 t179)) (fun _ hk => hk.2) (.slice Ao89 t180.length co89)) (fun _ h_ => h_.1))) (Kd.R_base ho0) hb); have n2_ := Aside0.mk (ra4 (by (with_reducible repeat (first | apply ra1 | apply ra2 | apply ra3)); exact (Kd.R_mono (Kd.R_far (p := ⟨gb183, 3, none⟩) (Kd.R_far (p := ⟨gb183, 2, none⟩) (Kd.R_far (p := ⟨gb183, 1, none⟩) (Kd.R_far (p := ⟨gb183, 0, none⟩) (Kd.R_types HO182.out BK183.out (by decide)) (fun _ hk => hk.2) (.int .i64 t177)) (fun _ hk => hk.2) (.int .i64 t178)) (fun _ hk => hk.2) (.float .f64 t179)) (fun _ hk => hk.2) (.slice Ao89 t180.length co89)) (fun _ h_ => h_.1))) (Kd.R_base ho0) hb); have n3_ := Aside0.mk (Kd.R_lower (Kd.R_new' (Kd.R_new' (Kd.R_new' ho0 (Kd.R_lt (by (with_reducible repeat (first | apply ra1 | apply ra2 | apply ra3)); exact (Kd.R_mono (Kd.R_far (p := ⟨gb183, 3, none⟩) (Kd.R_far (p := ⟨gb183, 2, none⟩) (Kd.R_far (p := ⟨gb183, 1, none⟩) (Kd.R_far (p := ⟨gb183, 0, none⟩) (Kd.R_types HO169.out BK183.out (by decide)) (fun _ hk => hk.2) (.int .i64 t177)) (fun _ hk => hk.2) (.int .i64 t178)) (fun _ hk => hk.2) (.float .f64 t179)) (fun _ hk => hk.2) (.slice Ao89 t180.length co89)) (fun _ h_ => h_.1))))) (Kd.R_lt (by (with_reducible repeat (first | apply ra1 | apply ra2 | apply ra3)); exact (Kd.R_mono (Kd.R_far (p := ⟨gb183, 3, none⟩) (Kd.R_far (p := ⟨gb183, 2, none⟩) (Kd.R_far (p := ⟨gb183, 1, none⟩) (Kd.R_far (p := ⟨gb183, 0, none⟩) (Kd.R_types HO175.out BK183.out (by decide)) (fun _ hk => hk.2) (.int .i64 t177)) (fun _ hk => hk.2) (.int .i64 t178)) (fun _ hk => hk.2) (.float .f64 t179)) (fun _ hk => hk.2) (.slice Ao89 t180.length co89)) (fun _ h_ => h_.1))))) (Kd.R_lt (by (with_reducible repeat (first | apply ra1 | apply ra2 | apply ra3)); exact (Kd.R_mono (Kd.R_far (p := ⟨gb183, 3, none⟩) (Kd.R_far (p := ⟨gb183, 2, none⟩) (Kd.R_far (p := ⟨gb183, 1, none⟩) (Kd.R_far (p := ⟨gb183, 0, none⟩) (Kd.R_types HO182.out BK183.out (by decide)) (fun _ hk => hk.2) (.int .i64 t177)) (fun _ hk => hk.2) (.int .i64 t178)) (fun _ hk => hk.2) (.float .f64 t179)) (fun _ hk => hk.2) (.slice Ao89 t180.length co89)) (fun _ h_ => h_.1))))) (below_size (by repeat (first | (with_reducible first | exact HB.out | apply below_alloc | apply rb4 | apply below_drew1 | refine below_set ?_ GE160.out | refine below_set ?_ GE161.out | refine below_set ?_ GE183.out) | exact HB.out)))); have n4_ := Aside0.mk (blk_below (g := gb160) (o := .cells #[.int .i64 a0_0, .int .i64 a0_1, .float .f64 a0_2, .slice A0_3 l0_3.length c0_3] 25 (0, 0)) (by (with_reducible repeat (first | refine rb1 ?_ _ | refine rb2 ?_ | refine rb3 ?_ _)); refine blk_far ?_ NB160_183.out _; (with_reducible repeat (first | refine rb1 ?_ _ | refine rb2 ?_ | refine rb3 ?_ _)); refine blk_far ?_ NB160_183.out _; (with_reducible repeat (first | refine rb1 ?_ _ | refine rb2 ?_ | refine rb3 ?_ _)); refine blk_far ?_ NB160_183.out _; (with_reducible repeat (first | refine rb1 ?_ _ | refine rb2 ?_ | refine rb3 ?_ _)); refine blk_far ?_ NB160_183.out _; (with_reducible repeat (first | refine rb1 ?_ _ | refine rb2 ?_ | refine rb3 ?_ _)); exact BK160.out) hb); have n5_ := Aside0.mk (blk_below (g := gb161) (o := .cells #[.int .i64 a1_0, .int .i64 a1_1, .float .f64 a1_2, .slice A1_3 l1_3.length c1_3] 25 (0, 0)) (by (with_reducible repeat (first | refine rb1 ?_ _ | refine rb2 ?_ | refine rb3 ?_ _)); refine blk_far ?_ NB161_183.out _; (with_reducible repeat (first | refine rb1 ?_ _ | refine rb2 ?_ | refine rb3 ?_ _)); refine blk_far ?_ NB161_183.out _; (with_reducible repeat (first | refine rb1 ?_ _ | refine rb2 ?_ | refine rb3 ?_ _)); refine blk_far ?_ NB161_183.out _; (with_reducible repeat (first | refine rb1 ?_ _ | refine rb2 ?_ | refine rb3 ?_ _)); refine blk_far ?_ NB161_183.out _; (with_reducible repeat (first | refine rb1 ?_ _ | refine rb2 ?_ | refine rb3 ?_ _)); exact BK161.out) hb); have n6_ := Aside0.mk (blk_below (g := gb183) (o := .cells #[.int .i64 t177, .int .i64 t178, .float .f64 t179, .slice Ao89 t180.length co89] 28 (0, 0)) (by (with_reducible repeat (first | refine rb1 ?_ _ | refine rb2 ?_ | refine rb3 ?_ _)); refine blk_put (cs := #[.int .i64 t177, .int .i64 t178, .float .f64 t179, .slice none 0 0]) ?_ 3 _ rfl; (with_reducible repeat (first | refine rb1 ?_ _ | refine rb2 ?_ | refine rb3 ?_ _)); refine blk_put (cs := #[.int .i64 t177, .int .i64 t178, .float .f64 0, .slice none 0 0]) ?_ 2 _ rfl; (with_reducible repeat (first | refine rb1 ?_ _ | refine rb2 ?_ | refine rb3 ?_ _)); refine blk_put (cs := #[.int .i64 t177, .int .i64 0, .float .f64 0, .slice none 0 0]) ?_ 1 _ rfl; (with_reducible repeat (first | refine rb1 ?_ _ | refine rb2 ?_ | refine rb3 ?_ _)); refine blk_put (cs := #[.int .i64 0, .int .i64 0, .float .f64 0, .slice none 0 0]) ?_ 0 _ rfl; (with_reducible repeat (first | refine rb1 ?_ _ | refine rb2 ?_ | refine rb3 ?_ _)); exact BK183.out) hb); have n7_ := Aside0.mk (below_step (by repeat (first | (with_reducible first | exact HB.out | apply below_alloc | apply rb4 | apply below_drew1 | refine below_set ?_ GE160.out | refine below_set ?_ GE161.out | refine below_set ?_ GE183.out) | exact HB.out)) hb); clear HO169; clear HO175; clear HO182; clear BK160; clear BK161; clear BK183; clear HB; have HO169 := n0_; have HO175 := n1_; have HO182 := n2_; have HO189 := n3_; have BK160 := n4_; have BK161 := n5_; have BK183 := n6_; have HB := n7_; clear n0_ n1_ n2_ n3_ n4_ n5_ n6_ n7_; (try clear hb); (try clear hb2); (try clear hk); (try clear hi); (try clear ho0)) | ((with_reducible refine gate_dst (N := 8) rfl ?_); refine box_event ?hg (N := 8) ?hd (cs := #[.int .i64 0, .int .i64 0, .float .f64 0, .slice none 0 0]) (t := 28) ?hr ?_; (case hd => rfl); (case hg => rfl); (case hr => first | (go_simp; done) | (go_simp; rfl)); intro gb190 hg w92 hbox hb; have n0_ := Aside0.mk (ra5 (by (with_reducible repeat (first | apply ra1 | apply ra2 | apply ra3)); exact HO169.out) hb); have n1_ := Aside0.mk (ra5 (by (with_reducible repeat (first | apply ra1 | apply ra2 | apply ra3)); exact HO175.out) hb); have n2_ := Aside0.mk (ra5 (by (with_reducible repeat (first | apply ra1 | apply ra2 | apply ra3)); exact HO182.out) hb); have n3_ := Aside0.mk (ra5 (by (with_reducible repeat (first | apply ra1 | apply ra2 | apply ra3)); exact HO189.out) hb); have n4_ := Aside0.mk (blk_below (g := gb160) (o := .cells #[.int .i64 a0_0, .int .i64 a0_1, .float .f64 a0_2, .slice A0_3 l0_3.length c0_3] 25 (0, 0)) (by (with_reducible repeat (first | refine rb1 ?_ _ | refine rb2 ?_ | refine rb3 ?_ _)); exact BK160.out) hb); have n5_ := Aside0.mk (blk_below (g := gb161) (o := .cells #[.int .i64 a1_0, .int .i64 a1_1, .float .f64 a1_2, .slice A1_3 l1_3.length c1_3] 25 (0, 0)) (by (with_reducible repeat (first | refine rb1 ?_ _ | refine rb2 ?_ | refine rb3 ?_ _)); exact BK161.out) hb); have n6_ := Aside0.mk (blk_below (g := gb183) (o := .cells #[.int .i64 t177, .int .i64 t178, .float .f64 t179, .slice Ao89 t180.length co89] 28 (0, 0)) (by (with_reducible repeat (first | refine rb1 ?_ _ | refine rb2 ?_ | refine rb3 ?_ _)); exact BK183.out) hb); have n7_ := Aside0.mk (below_step (by repeat (first | (with_reducible first | exact HB.out | apply below_alloc | apply rb4 | apply below_drew1 | refine below_set ?_ GE160.out | refine below_set ?_ GE161.out | refine below_set ?_ GE183.out) | exact HB.out)) hb); have n8_ := Aside0.mk (hbox); have n9_ := Aside0.mk ((by rw [hg]; exact (below_size (by repeat (first | (with_reducible first | exact HB.out | apply below_alloc | apply rb4 | apply below_drew1 | refine below_set ?_ GE160.out | refine below_set ?_ GE161.out | refine below_set ?_ GE183.out) | exact HB.out))) : w.heap.size ≤ gb190)); have n10_ := Aside0.mk ((by rw [hg]; exact (below_size (by repeat (first | (with_reducible first | exact HB.out | apply below_alloc | apply rb4 | apply below_drew1 | refine below_set ?_ GE160.out | refine below_set ?_ GE161.out | refine below_set ?_ GE183.out) | exact HB.out))) : w.heap.size ≤ gb190)); have n11_ := Aside0.mk ((by rw [hg]; exact Nat.ne_of_lt (blk_lt (g := gb160) (o := .cells #[.int .i64 a0_0, .int .i64 a0_1, .float .f64 a0_2, .slice A0_3 l0_3.length c0_3] 25 (0, 0)) (by (with_reducible repeat (first | refine rb1 ?_ _ | refine rb2 ?_ | refine rb3 ?_ _)); exact BK160.out)) : gb160 ≠ gb190)); have n12_ := Aside0.mk ((by rw [hg]; exact Nat.ne_of_gt (blk_lt (g := gb160) (o := .cells #[.int .i64 a0_0, .int .i64 a0_1, .float .f64 a0_2, .slice A0_3 l0_3.length c0_3] 25 (0, 0)) (by (with_reducible repeat (first | refine rb1 ?_ _ | refine rb2 ?_ | refine rb3 ?_ _)); exact BK160.out)) : gb190 ≠ gb160)); have n13_ := Aside0.mk ((by rw [hg]; exact Nat.ne_of_lt (blk_lt (g := gb161) (o := .cells #[.int .i64 a1_0, .int .i64 a1_1, .float .f64 a1_2, .slice A1_3 l1_3.length c1_3] 25 (0, 0)) (by (with_reducible repeat (first | refine rb1 ?_ _ | refine rb2 ?_ | refine rb3 ?_ _)); exact BK161.out)) : gb161 ≠ gb190)); have n14_ := Aside0.mk ((by rw [hg]; exact Nat.ne_of_gt (blk_lt (g := gb161) (o := .cells #[.int .i64 a1_0, .int .i64 a1_1, .float .f64 a1_2, .slice A1_3 l1_3.length c1_3] 25 (0, 0)) (by (with_reducible repeat (first | refine rb1 ?_ _ | refine rb2 ?_ | refine rb3 ?_ _)); exact BK161.out)) : gb190 ≠ gb161)); have n15_ := Aside0.mk ((by rw [hg]; exact Nat.ne_of_lt (blk_lt (g := gb183) (o := .cells #[.int .i64 t177, .int .i64 t178, .float .f64 t179, .slice Ao89 t180.length co89] 28 (0, 0)) (by (with_reducible repeat (first | refine rb1 ?_ _ | refine rb2 ?_ | refine rb3 ?_ _)); exact BK183.out)) : gb183 ≠ gb190)); have n16_ := Aside0.mk ((by rw [hg]; exact Nat.ne_of_gt (blk_lt (g := gb183) (o := .cells #[.int .i64 t177, .int .i64 t178, .float .f64 t179, .slice Ao89 t180.length co89] 28 (0, 0)) (by (with_reducible repeat (first | refine rb1 ?_ _ | refine rb2 ?_ | refine rb3 ?_ _)); exact BK183.out)) : gb190 ≠ gb183)); clear HO169; clear HO175; clear HO182; clear HO189; clear BK160; clear BK161; clear BK183; clear HB; have HO169 := n0_; have HO175 := n1_; have HO182 := n2_; have HO189 := n3_; have BK160 := n4_; have BK161 := n5_; have BK183 := n6_; have HB := n7_; have BK190 := n8_; have GW190 := n9_; have GE190 := n10_; have NB160_190 := n11_; have NB190_160 := n12_; have NB161_190 := n13_; have NB190_161 := n14_; have NB183_190 := n15_; have NB190_183 := n16_; clear n0_ n1_ n2_ n3_ n4_ n5_ n6_ n7_ n8_ n9_ n10_ n11_ n12_ n13_ n14_ n15_ n16_; clear hb hbox hg; have hnb93 := NB190_160.out; have hnc93 := NB160_190.out; have hnb94 := NB190_161.out; have hnc94 := NB161_190.out; have hnb95 := NB190_183.out; have hnc95 := NB183_190.out; have hcz96_0 : w92.cell? ⟨gb190, 0, none⟩ = some (.int .i64 0) := (blk_cell BK190.out 0).trans rfl; have hcz96_1 : w92.cell? ⟨gb190, 1, none⟩ = some (.int .i64 0) := (blk_cell BK190.out 1).trans rfl; have hcz96_2 : w92.cell? ⟨gb190, 2, none⟩ = some (.float .f64 0) := (blk_cell BK190.out 2).trans rfl; have hcz96_3 : w92.cell? ⟨gb190, 3, none⟩ = some (.slice none 0 0) := (blk_cell BK190.out 3).trans rfl; have hfz96_0 := blk_frozen BK190.out 0; have hfz96_1 := blk_frozen BK190.out 1; have hfz96_2 := blk_frozen BK190.out 2; have hfz96_3 := blk_frozen BK190.out 3; obtain ⟨Ao97, co97, eo97⟩ := Kd.R_slice HO189.out; subst eo97; have hcz98_0 : w92.cell? ⟨gb183, 0, none⟩ = some (.int .i64 t177) := (blk_cell BK183.out 0).trans rfl; have hcz98_1 : w92.cell? ⟨gb183, 1, none⟩ = some (.int .i64 t178) := (blk_cell BK183.out 1).trans rfl; have hcz98_2 : w92.cell? ⟨gb183, 2, none⟩ = some (.float .f64 t179) := (blk_cell BK183.out 2).trans rfl; have hcz98_3 : w92.cell? ⟨gb183, 3, none⟩ = some (.slice Ao89 t180.length co89) := (blk_cell BK183.out 3).trans rfl; have hfz98_0 := blk_frozen BK183.out 0; have hfz98_1 := blk_frozen BK183.out 1; have hfz98_2 := blk_frozen BK183.out 2; have hfz98_3 := blk_frozen BK183.out 3) | ((with_reducible refine gate_callee (f := 11) rfl ?_); refine goesL_ (some 31) rfl rfl Try.func11 (by kernel_rfl) rfl #[.agg #[.int .i64 t177, .int .i64 t178, .float .f64 t179, .slice Ao89 t180.length co89], .agg #[.int .i64 t184, .int .i64 t185, .float .f64 t186, .slice Ao97 t187.length co97]] rfl (by (try simp only [List.map_toArray, List.map_cons, List.map_nil]); first | done | rfl | (simp only [List.length_drop, List.length_take]; rfl)) ?_; (with_reducible refine (impl_ItemCompare.calls k t177 t178 t179 _ _ t180 t184 t185 t186 _ _ t187 t191 _ ?side1 ?side2 ?side3 ?side4 A24.out).mono ?_); (case side1 => refine (ra9 (e := 5) (base := w.heap.size) (ok := fun k_ => (((True ∧ some k_ ≠ (.slice Ao80 t167.length co80 : Value).ownBlock) ∧ some k_ ≠ (.slice Ao81 t173.length co81 : Value).ownBlock) ∧ some k_ ≠ (.slice Ao97 t187.length co97 : Value).ownBlock)) (n := t180.length) (c := co89) ?_).2.2; exact (by (with_reducible repeat (first | apply ra1 | apply ra2 | apply ra3)); exact (Kd.R_mono (Kd.R_far (p := ⟨gb190, 3, none⟩) (Kd.R_far (p := ⟨gb190, 2, none⟩) (Kd.R_far (p := ⟨gb190, 1, none⟩) (Kd.R_far (p := ⟨gb190, 0, none⟩) (Kd.R_types HO182.out BK190.out (by decide)) (fun _ hk => hk.2) (.int .i64 t184)) (fun _ hk => hk.2) (.int .i64 t185)) (fun _ hk => hk.2) (.float .f64 t186)) (fun _ hk => hk.2) (.slice Ao97 t187.length co97)) (fun _ h_ => h_.1)))); (case side2 => exact (ra9 HO182.out).2.1); (case side3 => refine (ra9 (e := 5) (base := w.heap.size) (ok := fun k_ => (((True ∧ some k_ ≠ (.slice Ao80 t167.length co80 : Value).ownBlock) ∧ some k_ ≠ (.slice Ao81 t173.length co81 : Value).ownBlock) ∧ some k_ ≠ (.slice Ao89 t180.length co89 : Value).ownBlock)) (n := t187.length) (c := co97) ?_).2.2; exact (by (with_reducible repeat (first | apply ra1 | apply ra2 | apply ra3)); exact (Kd.R_mono (Kd.R_far (p := ⟨gb190, 3, none⟩) (Kd.R_far (p := ⟨gb190, 2, none⟩) (Kd.R_far (p := ⟨gb190, 1, none⟩) (Kd.R_far (p := ⟨gb190, 0, none⟩) (Kd.R_types HO189.out BK190.out (by decide)) (fun _ hk => hk.2) (.int .i64 t184)) (fun _ hk => hk.2) (.int .i64 t185)) (fun _ hk => hk.2) (.float .f64 t186)) (fun _ hk => hk.2) (.slice Ao97 t187.length co97)) (fun _ h_ => h_.1)))); (case side4 => exact (ra9 HO189.out).2.1); rintro e w99 ⟨rfl, hb⟩; refine ⟨_, rfl, ?_⟩; have n0_ := Aside0.mk (ra5 (by (with_reducible repeat (first | apply ra1 | apply ra2 | apply ra3)); exact (Kd.R_mono (Kd.R_far (p := ⟨gb190, 3, none⟩) (Kd.R_far (p := ⟨gb190, 2, none⟩) (Kd.R_far (p := ⟨gb190, 1, none⟩) (Kd.R_far (p := ⟨gb190, 0, none⟩) (Kd.R_types HO169.out BK190.out (by decide)) (fun _ hk => hk.2) (.int .i64 t184)) (fun _ hk => hk.2) (.int .i64 t185)) (fun _ hk => hk.2) (.float .f64 t186)) (fun _ hk => hk.2) (.slice Ao97 t187.length co97)) (fun _ h_ => h_.1))) hb); have n1_ := Aside0.mk (ra5 (by (with_reducible repeat (first | apply ra1 | apply ra2 | apply ra3)); exact (Kd.R_mono (Kd.R_far (p := ⟨gb190, 3, none⟩) (Kd.R_far (p := ⟨gb190, 2, none⟩) (Kd.R_far (p := ⟨gb190, 1, none⟩) (Kd.R_far (p := ⟨gb190, 0, none⟩) (Kd.R_types HO175.out BK190.out (by decide)) (fun _ hk => hk.2) (.int .i64 t184)) (fun _ hk => hk.2) (.int .i64 t185)) (fun _ hk => hk.2) (.float .f64 t186)) (fun _ hk => hk.2) (.slice Ao97 t187.length co97)) (fun _ h_ => h_.1))) hb); have n2_ := Aside0.mk (ra5 (by (with_reducible repeat (first | apply ra1 | apply ra2 | apply ra3)); exact (Kd.R_mono (Kd.R_far (p := ⟨gb190, 3, none⟩) (Kd.R_far (p := ⟨gb190, 2, none⟩) (Kd.R_far (p := ⟨gb190, 1, none⟩) (Kd.R_far (p := ⟨gb190, 0, none⟩) (Kd.R_types HO182.out BK190.out (by decide)) (fun _ hk => hk.2) (.int .i64 t184)) (fun _ hk => hk.2) (.int .i64 t185)) (fun _ hk => hk.2) (.float .f64 t186)) (fun _ hk => hk.2) (.slice Ao97 t187.length co97)) (fun _ h_ => h_.1))) hb); have n3_ := Aside0.mk (ra5 (by (with_reducible repeat (first | apply ra1 | apply ra2 | apply ra3)); exact (Kd.R_mono (Kd.R_far (p := ⟨gb190, 3, none⟩) (Kd.R_far (p := ⟨gb190, 2, none⟩) (Kd.R_far (p := ⟨gb190, 1, none⟩) (Kd.R_far (p := ⟨gb190, 0, none⟩) (Kd.R_types HO189.out BK190.out (by decide)) (fun _ hk => hk.2) (.int .i64 t184)) (fun _ hk => hk.2) (.int .i64 t185)) (fun _ hk => hk.2) (.float .f64 t186)) (fun _ hk => hk.2) (.slice Ao97 t187.length co97)) (fun _ h_ => h_.1))) hb); have n4_ := Aside0.mk (blk_below (g := gb160) (o := .cells #[.int .i64 a0_0, .int .i64 a0_1, .float .f64 a0_2, .slice A0_3 l0_3.length c0_3] 25 (0, 0)) (by (with_reducible repeat (first | refine rb1 ?_ _ | refine rb2 ?_ | refine rb3 ?_ _)); refine blk_far ?_ NB160_190.out _; (with_reducible repeat (first | refine rb1 ?_ _ | refine rb2 ?_ | refine rb3 ?_ _)); refine blk_far ?_ NB160_190.out _; (with_reducible repeat (first | refine rb1 ?_ _ | refine rb2 ?_ | refine rb3 ?_ _)); refine blk_far ?_ NB160_190.out _; (with_reducible repeat (first | refine rb1 ?_ _ | refine rb2 ?_ | refine rb3 ?_ _)); refine blk_far ?_ NB160_190.out _; (with_reducible repeat (first | refine rb1 ?_ _ | refine rb2 ?_ | refine rb3 ?_ _)); exact BK160.out) hb); have n5_ := Aside0.mk (blk_below (g := gb161) (o := .cells #[.int .i64 a1_0, .int .i64 a1_1, .float .f64 a1_2, .slice A1_3 l1_3.length c1_3] 25 (0, 0)) (by (with_reducible repeat (first | refine rb1 ?_ _ | refine rb2 ?_ | refine rb3 ?_ _)); refine blk_far ?_ NB161_190.out _; (with_reducible repeat (first | refine rb1 ?_ _ | refine rb2 ?_ | refine rb3 ?_ _)); refine blk_far ?_ NB161_190.out _; (with_reducible repeat (first | refine rb1 ?_ _ | refine rb2 ?_ | refine rb3 ?_ _)); refine blk_far ?_ NB161_190.out _; (with_reducible repeat (first | refine rb1 ?_ _ | refine rb2 ?_ | refine rb3 ?_ _)); refine blk_far ?_ NB161_190.out _; (with_reducible repeat (first | refine rb1 ?_ _ | refine rb2 ?_ | refine rb3 ?_ _)); exact BK161.out) hb); have n6_ := Aside0.mk (blk_below (g := gb183) (o := .cells #[.int .i64 t177, .int .i64 t178, .float .f64 t179, .slice Ao89 t180.length co89] 28 (0, 0)) (by (with_reducible repeat (first | refine rb1 ?_ _ | refine rb2 ?_ | refine rb3 ?_ _)); refine blk_far ?_ NB183_190.out _; (with_reducible repeat (first | refine rb1 ?_ _ | refine rb2 ?_ | refine rb3 ?_ _)); refine blk_far ?_ NB183_190.out _; (with_reducible repeat (first | refine rb1 ?_ _ | refine rb2 ?_ | refine rb3 ?_ _)); refine blk_far ?_ NB183_190.out _; (with_reducible repeat (first | refine rb1 ?_ _ | refine rb2 ?_ | refine rb3 ?_ _)); refine blk_far ?_ NB183_190.out _; (with_reducible repeat (first | refine rb1 ?_ _ | refine rb2 ?_ | refine rb3 ?_ _)); exact BK183.out) hb); have n7_ := Aside0.mk (blk_below (g := gb190) (o := .cells #[.int .i64 t184, .int .i64 t185, .float .f64 t186, .slice Ao97 t187.length co97] 28 (0, 0)) (by (with_reducible repeat (first | refine rb1 ?_ _ | refine rb2 ?_ | refine rb3 ?_ _)); refine blk_put (cs := #[.int .i64 t184, .int .i64 t185, .float .f64 t186, .slice none 0 0]) ?_ 3 _ rfl; (with_reducible repeat (first | refine rb1 ?_ _ | refine rb2 ?_ | refine rb3 ?_ _)); refine blk_put (cs := #[.int .i64 t184, .int .i64 t185, .float .f64 0, .slice none 0 0]) ?_ 2 _ rfl; (with_reducible repeat (first | refine rb1 ?_ _ | refine rb2 ?_ | refine rb3 ?_ _)); refine blk_put (cs := #[.int .i64 t184, .int .i64 0, .float .f64 0, .slice none 0 0]) ?_ 1 _ rfl; (with_reducible repeat (first | refine rb1 ?_ _ | refine rb2 ?_ | refine rb3 ?_ _)); refine blk_put (cs := #[.int .i64 0, .int .i64 0, .float .f64 0, .slice none 0 0]) ?_ 0 _ rfl; (with_reducible repeat (first | refine rb1 ?_ _ | refine rb2 ?_ | refine rb3 ?_ _)); exact BK190.out) hb); have n8_ := Aside0.mk (below_step (by repeat (first | (with_reducible first | exact HB.out | apply below_alloc | apply rb4 | apply below_drew1 | refine below_set ?_ GE160.out | refine below_set ?_ GE161.out | refine below_set ?_ GE183.out | refine below_set ?_ GE190.out) | exact HB.out)) hb); clear HO169; clear HO175; clear HO182; clear HO189; clear BK160; clear BK161; clear BK183; clear BK190; clear HB; have HO169 := n0_; have HO175 := n1_; have HO182 := n2_; have HO189 := n3_; have BK160 := n4_; have BK161 := n5_; have BK183 := n6_; have BK190 := n7_; have HB := n8_; clear n0_ n1_ n2_ n3_ n4_ n5_ n6_ n7_ n8_; (try clear hb); (try clear hb2); (try clear hk); (try clear hi)))
      have n0_ := Aside0.mk (ra3 HO169.out)
      have n1_ := Aside0.mk (ra3 HO175.out)
      have n2_ := Aside0.mk (ra3 HO182.out)
      have n3_ := Aside0.mk (ra3 HO189.out)
      have n4_ := Aside0.mk (rb2 BK160.out)
      have n5_ := Aside0.mk (rb2 BK161.out)
      have n6_ := Aside0.mk (rb2 BK183.out)
      have n7_ := Aside0.mk (rb2 BK190.out)
      have n8_ := Aside0.mk (below_drew1 HB.out)
      clear HO169
      clear HO175
      clear HO182
      clear HO189
      clear BK160
      clear BK161
      clear BK183
      clear BK190
      clear HB
      have HO169 := n0_
      have HO175 := n1_
      have HO182 := n2_
      have HO189 := n3_
      have BK160 := n4_
      have BK161 := n5_
      have BK183 := n6_
      have BK190 := n7_
      have HB := n8_
      clear n0_ n1_ n2_ n3_ n4_ n5_ n6_ n7_ n8_
      refine start_ (n := 5) (S := fun w' => w'.cell? ⟨gb183, 0, none⟩ = some (.int .i64 t177) ∧ w'.cell? ⟨gb183, 1, none⟩ = some (.int .i64 t178) ∧ w'.cell? ⟨gb183, 2, none⟩ = some (.float .f64 t179) ∧ w'.cell? ⟨gb183, 3, none⟩ = some (.slice Ao89 t180.length co89) ∧ w'.cell? ⟨gb160, 0, none⟩ = some (.int .i64 a0_0) ∧ w'.cell? ⟨gb160, 1, none⟩ = some (.int .i64 a0_1) ∧ w'.cell? ⟨gb160, 2, none⟩ = some (.float .f64 a0_2) ∧ w'.cell? ⟨gb160, 3, none⟩ = some (.slice A0_3 l0_3.length c0_3)) (ds := []) #[false, false, false, false, false] (by kernel_rfl) rfl rfl ⟨(blk_cell BK183.out 0).trans rfl, (blk_cell BK183.out 1).trans rfl, (blk_cell BK183.out 2).trans rfl, (blk_cell BK183.out 3).trans rfl, (blk_cell BK160.out 0).trans rfl, (blk_cell BK160.out 1).trans rfl, (blk_cell BK160.out 2).trans rfl, (blk_cell BK160.out 3).trans rfl⟩ (fun hHeld => ?_)
      generalize w99.drew = w100 at HO169 HO175 HO182 HO189 BK160 BK161 BK183 BK190 HB hHeld ⊢
      refine take_ (i := 0) (N := some 35) (v := ?_) (a' := ?_) #[true, false, false, false, false] rfl rfl (by kernel_rfl) (fun _ _ _ h => h) (Or.inl ⟨by rfl, ?_⟩) hHeld ?_ ?_
      rotate_left
      ·rintro w' ⟨s0, s1, s2, s3, s4, s5, s6, s7⟩
       go_simp
       with_reducible rfl
      rotate_left
      ·simp only [Act.put, List.setIfInBounds_toArray, List.set_cons_zero, List.set_cons_succ, i64_w, i32_w]
       rfl
      refine take_ (i := 1) (N := some 36) (v := ?_) (a' := ?_) #[true, true, false, false, false] rfl rfl (by kernel_rfl) (fun _ _ _ h => h) (Or.inl ⟨by rfl, ?_⟩) hHeld ?_ ?_
      rotate_left
      ·rintro w' ⟨s0, s1, s2, s3, s4, s5, s6, s7⟩
       go_simp
       with_reducible rfl
      rotate_left
      ·simp only [Act.put, List.setIfInBounds_toArray, List.set_cons_zero, List.set_cons_succ, i64_w, i32_w]
       rfl
      refine one_ (i := 2) (N := some 37) #[true, true, true, false, false] rfl rfl (by kernel_rfl) (by decide) (fun K hK => ?_)
      refine goes_ Try.func10 (by kernel_rfl) rfl #[.agg #[.int .i64 a0_0, .int .i64 a0_1, .float .f64 a0_2, .slice A0_3 l0_3.length c0_3]] (by rfl) rfl rfl (by (try simp only [List.map_toArray, List.map_cons, List.map_nil]); first | done | rfl | (simp only [List.length_drop, List.length_take]; rfl)) ?_
      with_reducible refine (laws_toItem.calls k a0_0 a0_1 a0_2 _ _ l0_3 t192 t193 t194 t195 _ ?side1 ?side2 A26.out).mono ?_
      (case side1 => repeat (first | exact (Kd.C_below HR0_3.out HB.out) | (with_reducible refine ra6 ?_ _) | (with_reducible refine ra7 ?_ _) | (with_reducible refine ra8 ?_)))
      (case side2 => exact HC0_3.out)
      rintro e w101 ⟨v196, rfl, ho0, hb⟩
      refine ⟨_, rfl, ?_⟩
      have n0_ := Aside0.mk (ra4 (by (with_reducible repeat (first | apply ra1 | apply ra2 | apply ra3)); exact HO169.out) (Kd.R_base ho0) hb)
      have n1_ := Aside0.mk (ra4 (by (with_reducible repeat (first | apply ra1 | apply ra2 | apply ra3)); exact HO175.out) (Kd.R_base ho0) hb)
      have n2_ := Aside0.mk (ra4 (by (with_reducible repeat (first | apply ra1 | apply ra2 | apply ra3)); exact HO182.out) (Kd.R_base ho0) hb)
      have n3_ := Aside0.mk (ra4 (by (with_reducible repeat (first | apply ra1 | apply ra2 | apply ra3)); exact HO189.out) (Kd.R_base ho0) hb)
      have n4_ := Aside0.mk (Kd.R_lower (Kd.R_new' (Kd.R_new' (Kd.R_new' (Kd.R_new' ho0 (Kd.R_lt (by (with_reducible repeat (first | apply ra1 | apply ra2 | apply ra3)); exact HO169.out))) (Kd.R_lt (by (with_reducible repeat (first | apply ra1 | apply ra2 | apply ra3)); exact HO175.out))) (Kd.R_lt (by (with_reducible repeat (first | apply ra1 | apply ra2 | apply ra3)); exact HO182.out))) (Kd.R_lt (by (with_reducible repeat (first | apply ra1 | apply ra2 | apply ra3)); exact HO189.out))) (below_size (by repeat (first | (with_reducible first | exact HB.out | apply below_alloc | apply rb4 | apply below_drew1 | refine below_set ?_ GE160.out | refine below_set ?_ GE161.out | refine below_set ?_ GE183.out | refine below_set ?_ GE190.out) | exact HB.out))))
      have n5_ := Aside0.mk (blk_below (g := gb160) (o := .cells #[.int .i64 a0_0, .int .i64 a0_1, .float .f64 a0_2, .slice A0_3 l0_3.length c0_3] 25 (0, 0)) (by (with_reducible repeat (first | refine rb1 ?_ _ | refine rb2 ?_ | refine rb3 ?_ _)); exact BK160.out) hb)
      have n6_ := Aside0.mk (blk_below (g := gb161) (o := .cells #[.int .i64 a1_0, .int .i64 a1_1, .float .f64 a1_2, .slice A1_3 l1_3.length c1_3] 25 (0, 0)) (by (with_reducible repeat (first | refine rb1 ?_ _ | refine rb2 ?_ | refine rb3 ?_ _)); exact BK161.out) hb)
      have n7_ := Aside0.mk (blk_below (g := gb183) (o := .cells #[.int .i64 t177, .int .i64 t178, .float .f64 t179, .slice Ao89 t180.length co89] 28 (0, 0)) (by (with_reducible repeat (first | refine rb1 ?_ _ | refine rb2 ?_ | refine rb3 ?_ _)); exact BK183.out) hb)
      have n8_ := Aside0.mk (blk_below (g := gb190) (o := .cells #[.int .i64 t184, .int .i64 t185, .float .f64 t186, .slice Ao97 t187.length co97] 28 (0, 0)) (by (with_reducible repeat (first | refine rb1 ?_ _ | refine rb2 ?_ | refine rb3 ?_ _)); exact BK190.out) hb)
      have n9_ := Aside0.mk (below_step (by repeat (first | (with_reducible first | exact HB.out | apply below_alloc | apply rb4 | apply below_drew1 | refine below_set ?_ GE160.out | refine below_set ?_ GE161.out | refine below_set ?_ GE183.out | refine below_set ?_ GE190.out) | exact HB.out)) hb)
      clear HO169
      clear HO175
      clear HO182
      clear HO189
      clear BK160
      clear BK161
      clear BK183
      clear BK190
      clear HB
      have HO169 := n0_
      have HO175 := n1_
      have HO182 := n2_
      have HO189 := n3_
      have HO197 := n4_
      have BK160 := n5_
      have BK161 := n6_
      have BK183 := n7_
      have BK190 := n8_
      have HB := n9_
      clear n0_ n1_ n2_ n3_ n4_ n5_ n6_ n7_ n8_ n9_
      (try clear hb)
      (try clear hb2)
      (try clear hk)
      (try clear hi)
      (try clear ho0)
      obtain ⟨Ao102, co102, eo102⟩ := Kd.R_slice HO197.out
      (first | subst eo102 | (injection eo102 with f1_ f2_ f3_; have f4_ := f1_.symm; have f5_ := f3_.symm; clear f1_ f2_ f3_; subst f4_; subst f5_))
      refine hK.out _ _ ⟨(blk_cell BK183.out 0).trans rfl, (blk_cell BK183.out 1).trans rfl, (blk_cell BK183.out 2).trans rfl, (blk_cell BK183.out 3).trans rfl, (blk_cell BK160.out 0).trans rfl, (blk_cell BK160.out 1).trans rfl, (blk_cell BK160.out 2).trans rfl, (blk_cell BK160.out 3).trans rfl⟩ (fun hHeld => ?_)
      clear hK K
      refine norm_ (a' := ?_) ?_ ?_
      rotate_left
      ·show Act.put _ (some 37) _ = _
       simp only [Act.put, List.setIfInBounds_toArray, List.set_cons_zero, List.set_cons_succ, i64_w, i32_w]
       rfl
      refine one_ (i := 3) (N := some 38) #[true, true, true, true, false] rfl rfl (by kernel_rfl) (by decide) (fun K hK => ?_)
      refine goes_ Try.func12 (by kernel_rfl) rfl #[.agg #[.int .i64 t177, .int .i64 t178, .float .f64 t179, .slice Ao89 t180.length co89], .agg #[.int .i64 t192, .int .i64 t193, .float .f64 t194, .slice Ao102 t195.length co102]] (by rfl) rfl rfl (by (try simp only [List.map_toArray, List.map_cons, List.map_nil]); first | done | rfl | (simp only [List.length_drop, List.length_take]; rfl)) ?_
      with_reducible refine (laws_eqItem.calls k t177 t178 t179 _ _ t180 t192 t193 t194 _ _ t195 true _ ?side1 ?side2 ?side3 ?side4 A27.out).mono ?_
      (case side1 => repeat (first | exact (ra9 HO182.out).2.2 | (with_reducible refine ra6 ?_ _) | (with_reducible refine ra7 ?_ _) | (with_reducible refine ra8 ?_)))
      (case side2 => exact (ra9 HO182.out).2.1)
      (case side3 => repeat (first | exact (ra9 HO197.out).2.2 | (with_reducible refine ra6 ?_ _) | (with_reducible refine ra7 ?_ _) | (with_reducible refine ra8 ?_)))
      (case side4 => exact (ra9 HO197.out).2.1)
      rintro e w103 ⟨rfl, hb⟩
      refine ⟨_, rfl, ?_⟩
      have n0_ := Aside0.mk (ra5 (by (with_reducible repeat (first | apply ra1 | apply ra2 | apply ra3)); exact HO169.out) hb)
      have n1_ := Aside0.mk (ra5 (by (with_reducible repeat (first | apply ra1 | apply ra2 | apply ra3)); exact HO175.out) hb)
      have n2_ := Aside0.mk (ra5 (by (with_reducible repeat (first | apply ra1 | apply ra2 | apply ra3)); exact HO182.out) hb)
      have n3_ := Aside0.mk (ra5 (by (with_reducible repeat (first | apply ra1 | apply ra2 | apply ra3)); exact HO189.out) hb)
      have n4_ := Aside0.mk (ra5 (by (with_reducible repeat (first | apply ra1 | apply ra2 | apply ra3)); exact HO197.out) hb)
      have n5_ := Aside0.mk (blk_below (g := gb160) (o := .cells #[.int .i64 a0_0, .int .i64 a0_1, .float .f64 a0_2, .slice A0_3 l0_3.length c0_3] 25 (0, 0)) (by (with_reducible repeat (first | refine rb1 ?_ _ | refine rb2 ?_ | refine rb3 ?_ _)); exact BK160.out) hb)
      have n6_ := Aside0.mk (blk_below (g := gb161) (o := .cells #[.int .i64 a1_0, .int .i64 a1_1, .float .f64 a1_2, .slice A1_3 l1_3.length c1_3] 25 (0, 0)) (by (with_reducible repeat (first | refine rb1 ?_ _ | refine rb2 ?_ | refine rb3 ?_ _)); exact BK161.out) hb)
      have n7_ := Aside0.mk (blk_below (g := gb183) (o := .cells #[.int .i64 t177, .int .i64 t178, .float .f64 t179, .slice Ao89 t180.length co89] 28 (0, 0)) (by (with_reducible repeat (first | refine rb1 ?_ _ | refine rb2 ?_ | refine rb3 ?_ _)); exact BK183.out) hb)
      have n8_ := Aside0.mk (blk_below (g := gb190) (o := .cells #[.int .i64 t184, .int .i64 t185, .float .f64 t186, .slice Ao97 t187.length co97] 28 (0, 0)) (by (with_reducible repeat (first | refine rb1 ?_ _ | refine rb2 ?_ | refine rb3 ?_ _)); exact BK190.out) hb)
      have n9_ := Aside0.mk (below_step (by repeat (first | (with_reducible first | exact HB.out | apply below_alloc | apply rb4 | apply below_drew1 | refine below_set ?_ GE160.out | refine below_set ?_ GE161.out | refine below_set ?_ GE183.out | refine below_set ?_ GE190.out) | exact HB.out)) hb)
      clear HO169
      clear HO175
      clear HO182
      clear HO189
      clear HO197
      clear BK160
      clear BK161
      clear BK183
      clear BK190
      clear HB
      have HO169 := n0_
      have HO175 := n1_
      have HO182 := n2_
      have HO189 := n3_
      have HO197 := n4_
      have BK160 := n5_
      have BK161 := n6_
      have BK183 := n7_
      have BK190 := n8_
      have HB := n9_
      clear n0_ n1_ n2_ n3_ n4_ n5_ n6_ n7_ n8_ n9_
      (try clear hb)
      (try clear hb2)
      (try clear hk)
      (try clear hi)
      refine hK.out _ _ ⟨(blk_cell BK183.out 0).trans rfl, (blk_cell BK183.out 1).trans rfl, (blk_cell BK183.out 2).trans rfl, (blk_cell BK183.out 3).trans rfl, (blk_cell BK160.out 0).trans rfl, (blk_cell BK160.out 1).trans rfl, (blk_cell BK160.out 2).trans rfl, (blk_cell BK160.out 3).trans rfl⟩ (fun hHeld => ?_)
      clear hK K
      refine norm_ (a' := ?_) ?_ ?_
      rotate_left
      ·show Act.put _ (some 38) _ = _
       simp only [Act.put, List.setIfInBounds_toArray, List.set_cons_zero, List.set_cons_succ, i64_w, i32_w]
       rfl
      refine pure_ (i := 4) (N := some 39) (v := ?_) (a' := ?_) #[true, true, true, true, true] rfl rfl (by kernel_rfl) (fun _ _ _ h => h) (Or.inl ⟨by rfl, ?_⟩) ?_ ?_
      rotate_left
      ·intro w'
       go_simp
       with_reducible rfl
      rotate_left
      ·simp only [Act.put, List.setIfInBounds_toArray, List.set_cons_zero, List.set_cons_succ, i64_w, i32_w]
       rfl
      refine done_ (by kernel_rfl) ?_
      try go_wp2
      have n0_ := Aside0.mk (ra3 HO169.out)
      have n1_ := Aside0.mk (ra3 HO175.out)
      have n2_ := Aside0.mk (ra3 HO182.out)
      have n3_ := Aside0.mk (ra3 HO189.out)
      have n4_ := Aside0.mk (ra3 HO197.out)
      have n5_ := Aside0.mk (rb2 BK160.out)
      have n6_ := Aside0.mk (rb2 BK161.out)
      have n7_ := Aside0.mk (rb2 BK183.out)
      have n8_ := Aside0.mk (rb2 BK190.out)
      have n9_ := Aside0.mk (below_drew1 HB.out)
      clear HO169
      clear HO175
      clear HO182
      clear HO189
      clear HO197
      clear BK160
      clear BK161
      clear BK183
      clear BK190
      clear HB
      have HO169 := n0_
      have HO175 := n1_
      have HO182 := n2_
      have HO189 := n3_
      have HO197 := n4_
      have BK160 := n5_
      have BK161 := n6_
      have BK183 := n7_
      have BK190 := n8_
      have HB := n9_
      clear n0_ n1_ n2_ n3_ n4_ n5_ n6_ n7_ n8_ n9_
      refine start_ (n := 5) (S := fun w' => w'.cell? ⟨gb190, 0, none⟩ = some (.int .i64 t184) ∧ w'.cell? ⟨gb190, 1, none⟩ = some (.int .i64 t185) ∧ w'.cell? ⟨gb190, 2, none⟩ = some (.float .f64 t186) ∧ w'.cell? ⟨gb190, 3, none⟩ = some (.slice Ao97 t187.length co97) ∧ w'.cell? ⟨gb161, 0, none⟩ = some (.int .i64 a1_0) ∧ w'.cell? ⟨gb161, 1, none⟩ = some (.int .i64 a1_1) ∧ w'.cell? ⟨gb161, 2, none⟩ = some (.float .f64 a1_2) ∧ w'.cell? ⟨gb161, 3, none⟩ = some (.slice A1_3 l1_3.length c1_3)) (ds := []) #[false, false, false, false, false] (by kernel_rfl) rfl rfl ⟨(blk_cell BK190.out 0).trans rfl, (blk_cell BK190.out 1).trans rfl, (blk_cell BK190.out 2).trans rfl, (blk_cell BK190.out 3).trans rfl, (blk_cell BK161.out 0).trans rfl, (blk_cell BK161.out 1).trans rfl, (blk_cell BK161.out 2).trans rfl, (blk_cell BK161.out 3).trans rfl⟩ (fun hHeld => ?_)
      generalize w103.drew = w104 at HO169 HO175 HO182 HO189 HO197 BK160 BK161 BK183 BK190 HB hHeld ⊢
      refine take_ (i := 0) (N := some 40) (v := ?_) (a' := ?_) #[true, false, false, false, false] rfl rfl (by kernel_rfl) (fun _ _ _ h => h) (Or.inl ⟨by rfl, ?_⟩) hHeld ?_ ?_
      rotate_left
      ·rintro w' ⟨s0, s1, s2, s3, s4, s5, s6, s7⟩
       go_simp
       with_reducible rfl
      rotate_left
      ·simp only [Act.put, List.setIfInBounds_toArray, List.set_cons_zero, List.set_cons_succ, i64_w, i32_w]
       rfl
      refine take_ (i := 1) (N := some 41) (v := ?_) (a' := ?_) #[true, true, false, false, false] rfl rfl (by kernel_rfl) (fun _ _ _ h => h) (Or.inl ⟨by rfl, ?_⟩) hHeld ?_ ?_
      rotate_left
      ·rintro w' ⟨s0, s1, s2, s3, s4, s5, s6, s7⟩
       go_simp
       with_reducible rfl
      rotate_left
      ·simp only [Act.put, List.setIfInBounds_toArray, List.set_cons_zero, List.set_cons_succ, i64_w, i32_w]
       rfl
      refine one_ (i := 2) (N := some 42) #[true, true, true, false, false] rfl rfl (by kernel_rfl) (by decide) (fun K hK => ?_)
      refine goes_ Try.func10 (by kernel_rfl) rfl #[.agg #[.int .i64 a1_0, .int .i64 a1_1, .float .f64 a1_2, .slice A1_3 l1_3.length c1_3]] (by rfl) rfl rfl (by (try simp only [List.map_toArray, List.map_cons, List.map_nil]); first | done | rfl | (simp only [List.length_drop, List.length_take]; rfl)) ?_
      with_reducible refine (laws_toItem.calls k a1_0 a1_1 a1_2 _ _ l1_3 t199 t200 t201 t202 _ ?side1 ?side2 A29.out).mono ?_
      (case side1 => repeat (first | exact (Kd.C_below HR1_3.out HB.out) | (with_reducible refine ra6 ?_ _) | (with_reducible refine ra7 ?_ _) | (with_reducible refine ra8 ?_)))
      (case side2 => exact HC1_3.out)
      rintro e w105 ⟨v203, rfl, ho0, hb⟩
      refine ⟨_, rfl, ?_⟩
      have n0_ := Aside0.mk (ra4 (by (with_reducible repeat (first | apply ra1 | apply ra2 | apply ra3)); exact HO169.out) (Kd.R_base ho0) hb)
      have n1_ := Aside0.mk (ra4 (by (with_reducible repeat (first | apply ra1 | apply ra2 | apply ra3)); exact HO175.out) (Kd.R_base ho0) hb)
      have n2_ := Aside0.mk (ra4 (by (with_reducible repeat (first | apply ra1 | apply ra2 | apply ra3)); exact HO182.out) (Kd.R_base ho0) hb)
      have n3_ := Aside0.mk (ra4 (by (with_reducible repeat (first | apply ra1 | apply ra2 | apply ra3)); exact HO189.out) (Kd.R_base ho0) hb)
      have n4_ := Aside0.mk (ra4 (by (with_reducible repeat (first | apply ra1 | apply ra2 | apply ra3)); exact HO197.out) (Kd.R_base ho0) hb)
      have n5_ := Aside0.mk (Kd.R_lower (Kd.R_new' (Kd.R_new' (Kd.R_new' (Kd.R_new' (Kd.R_new' ho0 (Kd.R_lt (by (with_reducible repeat (first | apply ra1 | apply ra2 | apply ra3)); exact HO169.out))) (Kd.R_lt (by (with_reducible repeat (first | apply ra1 | apply ra2 | apply ra3)); exact HO175.out))) (Kd.R_lt (by (with_reducible repeat (first | apply ra1 | apply ra2 | apply ra3)); exact HO182.out))) (Kd.R_lt (by (with_reducible repeat (first | apply ra1 | apply ra2 | apply ra3)); exact HO189.out))) (Kd.R_lt (by (with_reducible repeat (first | apply ra1 | apply ra2 | apply ra3)); exact HO197.out))) (below_size (by repeat (first | (with_reducible first | exact HB.out | apply below_alloc | apply rb4 | apply below_drew1 | refine below_set ?_ GE160.out | refine below_set ?_ GE161.out | refine below_set ?_ GE183.out | refine below_set ?_ GE190.out) | exact HB.out))))
      have n6_ := Aside0.mk (blk_below (g := gb160) (o := .cells #[.int .i64 a0_0, .int .i64 a0_1, .float .f64 a0_2, .slice A0_3 l0_3.length c0_3] 25 (0, 0)) (by (with_reducible repeat (first | refine rb1 ?_ _ | refine rb2 ?_ | refine rb3 ?_ _)); exact BK160.out) hb)
      have n7_ := Aside0.mk (blk_below (g := gb161) (o := .cells #[.int .i64 a1_0, .int .i64 a1_1, .float .f64 a1_2, .slice A1_3 l1_3.length c1_3] 25 (0, 0)) (by (with_reducible repeat (first | refine rb1 ?_ _ | refine rb2 ?_ | refine rb3 ?_ _)); exact BK161.out) hb)
      have n8_ := Aside0.mk (blk_below (g := gb183) (o := .cells #[.int .i64 t177, .int .i64 t178, .float .f64 t179, .slice Ao89 t180.length co89] 28 (0, 0)) (by (with_reducible repeat (first | refine rb1 ?_ _ | refine rb2 ?_ | refine rb3 ?_ _)); exact BK183.out) hb)
      have n9_ := Aside0.mk (blk_below (g := gb190) (o := .cells #[.int .i64 t184, .int .i64 t185, .float .f64 t186, .slice Ao97 t187.length co97] 28 (0, 0)) (by (with_reducible repeat (first | refine rb1 ?_ _ | refine rb2 ?_ | refine rb3 ?_ _)); exact BK190.out) hb)
      have n10_ := Aside0.mk (below_step (by repeat (first | (with_reducible first | exact HB.out | apply below_alloc | apply rb4 | apply below_drew1 | refine below_set ?_ GE160.out | refine below_set ?_ GE161.out | refine below_set ?_ GE183.out | refine below_set ?_ GE190.out) | exact HB.out)) hb)
      clear HO169
      clear HO175
      clear HO182
      clear HO189
      clear HO197
      clear BK160
      clear BK161
      clear BK183
      clear BK190
      clear HB
      have HO169 := n0_
      have HO175 := n1_
      have HO182 := n2_
      have HO189 := n3_
      have HO197 := n4_
      have HO204 := n5_
      have BK160 := n6_
      have BK161 := n7_
      have BK183 := n8_
      have BK190 := n9_
      have HB := n10_
      clear n0_ n1_ n2_ n3_ n4_ n5_ n6_ n7_ n8_ n9_ n10_
      (try clear hb)
      (try clear hb2)
      (try clear hk)
      (try clear hi)
      (try clear ho0)
      obtain ⟨Ao106, co106, eo106⟩ := Kd.R_slice HO204.out
      (first | subst eo106 | (injection eo106 with f1_ f2_ f3_; have f4_ := f1_.symm; have f5_ := f3_.symm; clear f1_ f2_ f3_; subst f4_; subst f5_))
      refine hK.out _ _ ⟨(blk_cell BK190.out 0).trans rfl, (blk_cell BK190.out 1).trans rfl, (blk_cell BK190.out 2).trans rfl, (blk_cell BK190.out 3).trans rfl, (blk_cell BK161.out 0).trans rfl, (blk_cell BK161.out 1).trans rfl, (blk_cell BK161.out 2).trans rfl, (blk_cell BK161.out 3).trans rfl⟩ (fun hHeld => ?_)
      clear hK K
      refine norm_ (a' := ?_) ?_ ?_
      rotate_left
      ·show Act.put _ (some 42) _ = _
       simp only [Act.put, List.setIfInBounds_toArray, List.set_cons_zero, List.set_cons_succ, i64_w, i32_w]
       rfl
      refine one_ (i := 3) (N := some 43) #[true, true, true, true, false] rfl rfl (by kernel_rfl) (by decide) (fun K hK => ?_)
      refine goes_ Try.func12 (by kernel_rfl) rfl #[.agg #[.int .i64 t184, .int .i64 t185, .float .f64 t186, .slice Ao97 t187.length co97], .agg #[.int .i64 t199, .int .i64 t200, .float .f64 t201, .slice Ao106 t202.length co106]] (by rfl) rfl rfl (by (try simp only [List.map_toArray, List.map_cons, List.map_nil]); first | done | rfl | (simp only [List.length_drop, List.length_take]; rfl)) ?_
      with_reducible refine (laws_eqItem.calls k t184 t185 t186 _ _ t187 t199 t200 t201 _ _ t202 false _ ?side1 ?side2 ?side3 ?side4 A30.out).mono ?_
      (case side1 => repeat (first | exact (ra9 HO189.out).2.2 | (with_reducible refine ra6 ?_ _) | (with_reducible refine ra7 ?_ _) | (with_reducible refine ra8 ?_)))
      (case side2 => exact (ra9 HO189.out).2.1)
      (case side3 => repeat (first | exact (ra9 HO204.out).2.2 | (with_reducible refine ra6 ?_ _) | (with_reducible refine ra7 ?_ _) | (with_reducible refine ra8 ?_)))
      (case side4 => exact (ra9 HO204.out).2.1)
      rintro e w107 ⟨rfl, hb⟩
      refine ⟨_, rfl, ?_⟩
      have n0_ := Aside0.mk (ra5 (by (with_reducible repeat (first | apply ra1 | apply ra2 | apply ra3)); exact HO169.out) hb)
      have n1_ := Aside0.mk (ra5 (by (with_reducible repeat (first | apply ra1 | apply ra2 | apply ra3)); exact HO175.out) hb)
      have n2_ := Aside0.mk (ra5 (by (with_reducible repeat (first | apply ra1 | apply ra2 | apply ra3)); exact HO182.out) hb)
      have n3_ := Aside0.mk (ra5 (by (with_reducible repeat (first | apply ra1 | apply ra2 | apply ra3)); exact HO189.out) hb)
      have n4_ := Aside0.mk (ra5 (by (with_reducible repeat (first | apply ra1 | apply ra2 | apply ra3)); exact HO197.out) hb)
      have n5_ := Aside0.mk (ra5 (by (with_reducible repeat (first | apply ra1 | apply ra2 | apply ra3)); exact HO204.out) hb)
      have n6_ := Aside0.mk (blk_below (g := gb160) (o := .cells #[.int .i64 a0_0, .int .i64 a0_1, .float .f64 a0_2, .slice A0_3 l0_3.length c0_3] 25 (0, 0)) (by (with_reducible repeat (first | refine rb1 ?_ _ | refine rb2 ?_ | refine rb3 ?_ _)); exact BK160.out) hb)
      have n7_ := Aside0.mk (blk_below (g := gb161) (o := .cells #[.int .i64 a1_0, .int .i64 a1_1, .float .f64 a1_2, .slice A1_3 l1_3.length c1_3] 25 (0, 0)) (by (with_reducible repeat (first | refine rb1 ?_ _ | refine rb2 ?_ | refine rb3 ?_ _)); exact BK161.out) hb)
      have n8_ := Aside0.mk (blk_below (g := gb183) (o := .cells #[.int .i64 t177, .int .i64 t178, .float .f64 t179, .slice Ao89 t180.length co89] 28 (0, 0)) (by (with_reducible repeat (first | refine rb1 ?_ _ | refine rb2 ?_ | refine rb3 ?_ _)); exact BK183.out) hb)
      have n9_ := Aside0.mk (blk_below (g := gb190) (o := .cells #[.int .i64 t184, .int .i64 t185, .float .f64 t186, .slice Ao97 t187.length co97] 28 (0, 0)) (by (with_reducible repeat (first | refine rb1 ?_ _ | refine rb2 ?_ | refine rb3 ?_ _)); exact BK190.out) hb)
      have n10_ := Aside0.mk (below_step (by repeat (first | (with_reducible first | exact HB.out | apply below_alloc | apply rb4 | apply below_drew1 | refine below_set ?_ GE160.out | refine below_set ?_ GE161.out | refine below_set ?_ GE183.out | refine below_set ?_ GE190.out) | exact HB.out)) hb)
      clear HO169
      clear HO175
      clear HO182
      clear HO189
      clear HO197
      clear HO204
      clear BK160
      clear BK161
      clear BK183
      clear BK190
      clear HB
      have HO169 := n0_
      have HO175 := n1_
      have HO182 := n2_
      have HO189 := n3_
      have HO197 := n4_
      have HO204 := n5_
      have BK160 := n6_
      have BK161 := n7_
      have BK183 := n8_
      have BK190 := n9_
      have HB := n10_
      clear n0_ n1_ n2_ n3_ n4_ n5_ n6_ n7_ n8_ n9_ n10_
      (try clear hb)
      (try clear hb2)
      (try clear hk)
      (try clear hi)
      refine hK.out _ _ ⟨(blk_cell BK190.out 0).trans rfl, (blk_cell BK190.out 1).trans rfl, (blk_cell BK190.out 2).trans rfl, (blk_cell BK190.out 3).trans rfl, (blk_cell BK161.out 0).trans rfl, (blk_cell BK161.out 1).trans rfl, (blk_cell BK161.out 2).trans rfl, (blk_cell BK161.out 3).trans rfl⟩ (fun hHeld => ?_)
      clear hK K
      refine norm_ (a' := ?_) ?_ ?_
      rotate_left
      ·show Act.put _ (some 43) _ = _
       simp only [Act.put, List.setIfInBounds_toArray, List.set_cons_zero, List.set_cons_succ, i64_w, i32_w]
       rfl
      refine pure_ (i := 4) (N := some 44) (v := ?_) (a' := ?_) #[true, true, true, true, true] rfl rfl (by kernel_rfl) (fun _ _ _ h => h) (Or.inl ⟨by rfl, ?_⟩) ?_ ?_
      rotate_left
      ·intro w'
       go_simp
       with_reducible rfl
      rotate_left
      ·simp only [Act.put, List.setIfInBounds_toArray, List.set_cons_zero, List.set_cons_succ, i64_w, i32_w]
       rfl
      refine done_ (by kernel_rfl) ?_
      try go_wp2
      go_ret
      exact ⟨by first | rfl | (simp [errW_none, errW_some] <;> rfl) | (simp [*, errW_none, errW_some] <;> rfl), by repeat (first | (with_reducible first | exact HB.out | apply below_alloc | apply rb4 | apply below_drew1 | refine below_set ?_ GE160.out | refine below_set ?_ GE161.out | refine below_set ?_ GE183.out | refine below_set ?_ GE190.out) | exact HB.out)⟩
    ·replace c28 := Bool.eq_false_iff.mpr c28
     subst c28
     have H1 : (some false) = some r := by rw [if_neg (show ¬ (false = true) by decide)] at H; exact H
     clear H
     have H := H1
     clear H1
     obtain rfl := Option.some.inj H
     go_enter Try.func3, Try.ntmps3
     try go_wp2_with (first | ((with_reducible refine gate_dst (N := 2) rfl ?_); refine box_event ?hg (N := 2) ?hd (cs := #[.int .i64 a0_0, .int .i64 a0_1, .float .f64 a0_2, .slice A0_3 l0_3.length c0_3]) (t := 25) ?hr ?_; (case hd => rfl); (case hg => rfl); (case hr => first | (go_simp; done) | (go_simp; rfl)); intro gb160 hg w108 hbox hb; have n0_ := Aside0.mk (below_step (by repeat (first | (with_reducible first | exact HB.out | apply below_alloc | apply rb4 | apply below_drew1) | exact HB.out)) hb); have n1_ := Aside0.mk (hbox); have n2_ := Aside0.mk ((by rw [hg]; exact (below_size (by repeat (first | (with_reducible first | exact HB.out | apply below_alloc | apply rb4 | apply below_drew1) | exact HB.out))) : w.heap.size ≤ gb160)); have n3_ := Aside0.mk ((by rw [hg]; exact (below_size (by repeat (first | (with_reducible first | exact HB.out | apply below_alloc | apply rb4 | apply below_drew1) | exact HB.out))) : w.heap.size ≤ gb160)); clear HB; have HB := n0_; have BK160 := n1_; have GW160 := n2_; have GE160 := n3_; clear n0_ n1_ n2_ n3_; clear hb hbox hg) | ((with_reducible refine gate_dst (N := 3) rfl ?_); refine box_event ?hg (N := 3) ?hd (cs := #[.int .i64 a1_0, .int .i64 a1_1, .float .f64 a1_2, .slice A1_3 l1_3.length c1_3]) (t := 25) ?hr ?_; (case hd => rfl); (case hg => rfl); (case hr => first | (go_simp; done) | (go_simp; rfl)); intro gb161 hg w109 hbox hb; have n0_ := Aside0.mk (blk_below (g := gb160) (o := .cells #[.int .i64 a0_0, .int .i64 a0_1, .float .f64 a0_2, .slice A0_3 l0_3.length c0_3] 25 (0, 0)) (by (with_reducible repeat (first | refine rb1 ?_ _ | refine rb2 ?_ | refine rb3 ?_ _)); exact BK160.out) hb); have n1_ := Aside0.mk (below_step (by repeat (first | (with_reducible first | exact HB.out | apply below_alloc | apply rb4 | apply below_drew1 | refine below_set ?_ GE160.out) | exact HB.out)) hb); have n2_ := Aside0.mk (hbox); have n3_ := Aside0.mk ((by rw [hg]; exact (below_size (by repeat (first | (with_reducible first | exact HB.out | apply below_alloc | apply rb4 | apply below_drew1 | refine below_set ?_ GE160.out) | exact HB.out))) : w.heap.size ≤ gb161)); have n4_ := Aside0.mk ((by rw [hg]; exact (below_size (by repeat (first | (with_reducible first | exact HB.out | apply below_alloc | apply rb4 | apply below_drew1 | refine below_set ?_ GE160.out) | exact HB.out))) : w.heap.size ≤ gb161)); have n5_ := Aside0.mk ((by rw [hg]; exact Nat.ne_of_lt (blk_lt (g := gb160) (o := .cells #[.int .i64 a0_0, .int .i64 a0_1, .float .f64 a0_2, .slice A0_3 l0_3.length c0_3] 25 (0, 0)) (by (with_reducible repeat (first | refine rb1 ?_ _ | refine rb2 ?_ | refine rb3 ?_ _)); exact BK160.out)) : gb160 ≠ gb161)); have n6_ := Aside0.mk ((by rw [hg]; exact Nat.ne_of_gt (blk_lt (g := gb160) (o := .cells #[.int .i64 a0_0, .int .i64 a0_1, .float .f64 a0_2, .slice A0_3 l0_3.length c0_3] 25 (0, 0)) (by (with_reducible repeat (first | refine rb1 ?_ _ | refine rb2 ?_ | refine rb3 ?_ _)); exact BK160.out)) : gb161 ≠ gb160)); clear BK160; clear HB; have BK160 := n0_; have HB := n1_; have BK161 := n2_; have GW161 := n3_; have GE161 := n4_; have NB160_161 := n5_; have NB161_160 := n6_; clear n0_ n1_ n2_ n3_ n4_ n5_ n6_; clear hb hbox hg; have hnb110 := NB160_161.out; have hnc110 := NB161_160.out; have hcz111_0 : w109.cell? ⟨gb160, 0, none⟩ = some (.int .i64 a0_0) := (blk_cell BK160.out 0).trans rfl; have hcz111_1 : w109.cell? ⟨gb160, 1, none⟩ = some (.int .i64 a0_1) := (blk_cell BK160.out 1).trans rfl; have hcz111_2 : w109.cell? ⟨gb160, 2, none⟩ = some (.float .f64 a0_2) := (blk_cell BK160.out 2).trans rfl; have hcz111_3 : w109.cell? ⟨gb160, 3, none⟩ = some (.slice A0_3 l0_3.length c0_3) := (blk_cell BK160.out 3).trans rfl; have hfz111_0 := blk_frozen BK160.out 0; have hfz111_1 := blk_frozen BK160.out 1; have hfz111_2 := blk_frozen BK160.out 2; have hfz111_3 := blk_frozen BK160.out 3) | ((with_reducible refine gate_callee (f := 8) rfl ?_); refine goesL_ (some 12) rfl rfl Try.func8 (by kernel_rfl) rfl #[.agg #[.int .i64 a0_0, .int .i64 a0_1, .float .f64 a0_2, .slice A0_3 l0_3.length c0_3], .int .i64 1048576] rfl (by (try simp only [List.map_toArray, List.map_cons, List.map_nil]); first | done | rfl | (simp only [List.length_drop, List.length_take]; rfl)) ?_; (with_reducible refine (laws_szItem.calls a0_0 a0_1 a0_2 _ _ l0_3 1048576 t162 _ ?side1 ?side2 A3.out).mono ?_); (case side1 => repeat (first | exact (Kd.C_below HR0_3.out HB.out) | (with_reducible refine ra6 ?_ _) | (with_reducible refine ra7 ?_ _) | (with_reducible refine ra8 ?_))); (case side2 => exact HC0_3.out); rintro e w112 ⟨rfl, hb⟩; refine ⟨_, rfl, ?_⟩; have n0_ := Aside0.mk (blk_below (g := gb160) (o := .cells #[.int .i64 a0_0, .int .i64 a0_1, .float .f64 a0_2, .slice A0_3 l0_3.length c0_3] 25 (0, 0)) (by (with_reducible repeat (first | refine rb1 ?_ _ | refine rb2 ?_ | refine rb3 ?_ _)); exact BK160.out) hb); have n1_ := Aside0.mk (blk_below (g := gb161) (o := .cells #[.int .i64 a1_0, .int .i64 a1_1, .float .f64 a1_2, .slice A1_3 l1_3.length c1_3] 25 (0, 0)) (by (with_reducible repeat (first | refine rb1 ?_ _ | refine rb2 ?_ | refine rb3 ?_ _)); exact BK161.out) hb); have n2_ := Aside0.mk (below_step (by repeat (first | (with_reducible first | exact HB.out | apply below_alloc | apply rb4 | apply below_drew1 | refine below_set ?_ GE160.out | refine below_set ?_ GE161.out) | exact HB.out)) hb); clear BK160; clear BK161; clear HB; have BK160 := n0_; have BK161 := n1_; have HB := n2_; clear n0_ n1_ n2_; (try clear hb); (try clear hb2); (try clear hk); (try clear hi); have hcz113_0 : w112.cell? ⟨gb161, 0, none⟩ = some (.int .i64 a1_0) := (blk_cell BK161.out 0).trans rfl; have hcz113_1 : w112.cell? ⟨gb161, 1, none⟩ = some (.int .i64 a1_1) := (blk_cell BK161.out 1).trans rfl; have hcz113_2 : w112.cell? ⟨gb161, 2, none⟩ = some (.float .f64 a1_2) := (blk_cell BK161.out 2).trans rfl; have hcz113_3 : w112.cell? ⟨gb161, 3, none⟩ = some (.slice A1_3 l1_3.length c1_3) := (blk_cell BK161.out 3).trans rfl; have hfz113_0 := blk_frozen BK161.out 0; have hfz113_1 := blk_frozen BK161.out 1; have hfz113_2 := blk_frozen BK161.out 2; have hfz113_3 := blk_frozen BK161.out 3) | ((with_reducible refine gate_callee (f := 8) rfl ?_); refine goesL_ (some 17) rfl rfl Try.func8 (by kernel_rfl) rfl #[.agg #[.int .i64 a1_0, .int .i64 a1_1, .float .f64 a1_2, .slice A1_3 l1_3.length c1_3], .int .i64 t162] rfl (by (try simp only [List.map_toArray, List.map_cons, List.map_nil]); first | done | rfl | (simp only [List.length_drop, List.length_take]; rfl)) ?_; (with_reducible refine (laws_szItem.calls a1_0 a1_1 a1_2 _ _ l1_3 t162 t163 _ ?side1 ?side2 A10.out).mono ?_); (case side1 => repeat (first | exact (Kd.C_below HR1_3.out HB.out) | (with_reducible refine ra6 ?_ _) | (with_reducible refine ra7 ?_ _) | (with_reducible refine ra8 ?_))); (case side2 => exact HC1_3.out); rintro e w114 ⟨rfl, hb⟩; refine ⟨_, rfl, ?_⟩; have n0_ := Aside0.mk (blk_below (g := gb160) (o := .cells #[.int .i64 a0_0, .int .i64 a0_1, .float .f64 a0_2, .slice A0_3 l0_3.length c0_3] 25 (0, 0)) (by (with_reducible repeat (first | refine rb1 ?_ _ | refine rb2 ?_ | refine rb3 ?_ _)); exact BK160.out) hb); have n1_ := Aside0.mk (blk_below (g := gb161) (o := .cells #[.int .i64 a1_0, .int .i64 a1_1, .float .f64 a1_2, .slice A1_3 l1_3.length c1_3] 25 (0, 0)) (by (with_reducible repeat (first | refine rb1 ?_ _ | refine rb2 ?_ | refine rb3 ?_ _)); exact BK161.out) hb); have n2_ := Aside0.mk (below_step (by repeat (first | (with_reducible first | exact HB.out | apply below_alloc | apply rb4 | apply below_drew1 | refine below_set ?_ GE160.out | refine below_set ?_ GE161.out) | exact HB.out)) hb); clear BK160; clear BK161; clear HB; have BK160 := n0_; have BK161 := n1_; have HB := n2_; clear n0_ n1_ n2_; (try clear hb); (try clear hb2); (try clear hk); (try clear hi)))
     have n0_ := Aside0.mk (rb2 BK160.out)
     have n1_ := Aside0.mk (rb2 BK161.out)
     have n2_ := Aside0.mk (below_drew1 HB.out)
     clear BK160
     clear BK161
     clear HB
     have BK160 := n0_
     have BK161 := n1_
     have HB := n2_
     clear n0_ n1_ n2_
     refine start_ (n := 6) (S := fun w' => w'.cell? ⟨gb160, 0, none⟩ = some (.int .i64 a0_0) ∧ w'.cell? ⟨gb160, 1, none⟩ = some (.int .i64 a0_1) ∧ w'.cell? ⟨gb160, 2, none⟩ = some (.float .f64 a0_2) ∧ w'.cell? ⟨gb160, 3, none⟩ = some (.slice A0_3 l0_3.length c0_3) ∧ w'.cell? ⟨gb161, 0, none⟩ = some (.int .i64 a1_0) ∧ w'.cell? ⟨gb161, 1, none⟩ = some (.int .i64 a1_1) ∧ w'.cell? ⟨gb161, 2, none⟩ = some (.float .f64 a1_2) ∧ w'.cell? ⟨gb161, 3, none⟩ = some (.slice A1_3 l1_3.length c1_3)) (ds := []) #[false, false, false, false, false, false] (by kernel_rfl) rfl rfl ⟨(blk_cell BK160.out 0).trans rfl, (blk_cell BK160.out 1).trans rfl, (blk_cell BK160.out 2).trans rfl, (blk_cell BK160.out 3).trans rfl, (blk_cell BK161.out 0).trans rfl, (blk_cell BK161.out 1).trans rfl, (blk_cell BK161.out 2).trans rfl, (blk_cell BK161.out 3).trans rfl⟩ (fun hHeld => ?_)
     generalize w114.drew = w115 at BK160 BK161 HB hHeld ⊢
     refine take_ (i := 0) (N := some 20) (v := ?_) (a' := ?_) #[true, false, false, false, false, false] rfl rfl (by kernel_rfl) (fun _ _ _ h => h) (Or.inl ⟨by rfl, ?_⟩) hHeld ?_ ?_
     rotate_left
     ·rintro w' ⟨s0, s1, s2, s3, s4, s5, s6, s7⟩
      go_simp
      with_reducible rfl
     rotate_left
     ·simp only [Act.put, List.setIfInBounds_toArray, List.set_cons_zero, List.set_cons_succ, i64_w, i32_w]
      rfl
     refine take_ (i := 2) (N := some 22) (v := ?_) (a' := ?_) #[true, false, true, false, false, false] rfl rfl (by kernel_rfl) (fun _ _ _ h => h) (Or.inl ⟨by rfl, ?_⟩) hHeld ?_ ?_
     rotate_left
     ·rintro w' ⟨s0, s1, s2, s3, s4, s5, s6, s7⟩
      go_simp
      with_reducible rfl
     rotate_left
     ·simp only [Act.put, List.setIfInBounds_toArray, List.set_cons_zero, List.set_cons_succ, i64_w, i32_w]
      rfl
     refine one_ (i := 1) (N := some 21) #[true, true, true, false, false, false] rfl rfl (by kernel_rfl) (by decide) (fun K hK => ?_)
     refine goes_ Try.func10 (by kernel_rfl) rfl #[.agg #[.int .i64 a0_0, .int .i64 a0_1, .float .f64 a0_2, .slice A0_3 l0_3.length c0_3]] (by rfl) rfl rfl (by (try simp only [List.map_toArray, List.map_cons, List.map_nil]); first | done | rfl | (simp only [List.length_drop, List.length_take]; rfl)) ?_
     with_reducible refine (laws_toItem.calls k a0_0 a0_1 a0_2 _ _ l0_3 t164 t165 t166 t167 _ ?side1 ?side2 A19.out).mono ?_
     (case side1 => repeat (first | exact (Kd.C_below HR0_3.out HB.out) | (with_reducible refine ra6 ?_ _) | (with_reducible refine ra7 ?_ _) | (with_reducible refine ra8 ?_)))
     (case side2 => exact HC0_3.out)
     rintro e w116 ⟨v168, rfl, ho0, hb⟩
     refine ⟨_, rfl, ?_⟩
     have n0_ := Aside0.mk (Kd.R_lower ho0 (below_size (by repeat (first | (with_reducible first | exact HB.out | apply below_alloc | apply rb4 | apply below_drew1 | refine below_set ?_ GE160.out | refine below_set ?_ GE161.out) | exact HB.out))))
     have n1_ := Aside0.mk (blk_below (g := gb160) (o := .cells #[.int .i64 a0_0, .int .i64 a0_1, .float .f64 a0_2, .slice A0_3 l0_3.length c0_3] 25 (0, 0)) (by (with_reducible repeat (first | refine rb1 ?_ _ | refine rb2 ?_ | refine rb3 ?_ _)); exact BK160.out) hb)
     have n2_ := Aside0.mk (blk_below (g := gb161) (o := .cells #[.int .i64 a1_0, .int .i64 a1_1, .float .f64 a1_2, .slice A1_3 l1_3.length c1_3] 25 (0, 0)) (by (with_reducible repeat (first | refine rb1 ?_ _ | refine rb2 ?_ | refine rb3 ?_ _)); exact BK161.out) hb)
     have n3_ := Aside0.mk (below_step (by repeat (first | (with_reducible first | exact HB.out | apply below_alloc | apply rb4 | apply below_drew1 | refine below_set ?_ GE160.out | refine below_set ?_ GE161.out) | exact HB.out)) hb)
     clear BK160
     clear BK161
     clear HB
     have HO169 := n0_
     have BK160 := n1_
     have BK161 := n2_
     have HB := n3_
     clear n0_ n1_ n2_ n3_
     (try clear hb)
     (try clear hb2)
     (try clear hk)
     (try clear hi)
     (try clear ho0)
     refine hK.out _ _ ⟨(blk_cell BK160.out 0).trans rfl, (blk_cell BK160.out 1).trans rfl, (blk_cell BK160.out 2).trans rfl, (blk_cell BK160.out 3).trans rfl, (blk_cell BK161.out 0).trans rfl, (blk_cell BK161.out 1).trans rfl, (blk_cell BK161.out 2).trans rfl, (blk_cell BK161.out 3).trans rfl⟩ (fun hHeld => ?_)
     clear hK K
     refine norm_ (a' := ?_) ?_ ?_
     rotate_left
     ·show Act.put _ (some 21) _ = _
      simp only [Act.put, List.setIfInBounds_toArray, List.set_cons_zero, List.set_cons_succ, i64_w, i32_w]
      rfl
     refine one_ (i := 3) (N := some 23) #[true, true, true, true, false, false] rfl rfl (by kernel_rfl) (by decide) (fun K hK => ?_)
     refine goes_ Try.func10 (by kernel_rfl) rfl #[.agg #[.int .i64 a1_0, .int .i64 a1_1, .float .f64 a1_2, .slice A1_3 l1_3.length c1_3]] (by rfl) rfl rfl (by (try simp only [List.map_toArray, List.map_cons, List.map_nil]); first | done | rfl | (simp only [List.length_drop, List.length_take]; rfl)) ?_
     with_reducible refine (laws_toItem.calls k a1_0 a1_1 a1_2 _ _ l1_3 t170 t171 t172 t173 _ ?side1 ?side2 A20.out).mono ?_
     (case side1 => repeat (first | exact (Kd.C_below HR1_3.out HB.out) | (with_reducible refine ra6 ?_ _) | (with_reducible refine ra7 ?_ _) | (with_reducible refine ra8 ?_)))
     (case side2 => exact HC1_3.out)
     rintro e w117 ⟨v174, rfl, ho0, hb⟩
     refine ⟨_, rfl, ?_⟩
     have n0_ := Aside0.mk (ra4 (by (with_reducible repeat (first | apply ra1 | apply ra2 | apply ra3)); exact HO169.out) (Kd.R_base ho0) hb)
     have n1_ := Aside0.mk (Kd.R_lower (Kd.R_new' ho0 (Kd.R_lt (by (with_reducible repeat (first | apply ra1 | apply ra2 | apply ra3)); exact HO169.out))) (below_size (by repeat (first | (with_reducible first | exact HB.out | apply below_alloc | apply rb4 | apply below_drew1 | refine below_set ?_ GE160.out | refine below_set ?_ GE161.out) | exact HB.out))))
     have n2_ := Aside0.mk (blk_below (g := gb160) (o := .cells #[.int .i64 a0_0, .int .i64 a0_1, .float .f64 a0_2, .slice A0_3 l0_3.length c0_3] 25 (0, 0)) (by (with_reducible repeat (first | refine rb1 ?_ _ | refine rb2 ?_ | refine rb3 ?_ _)); exact BK160.out) hb)
     have n3_ := Aside0.mk (blk_below (g := gb161) (o := .cells #[.int .i64 a1_0, .int .i64 a1_1, .float .f64 a1_2, .slice A1_3 l1_3.length c1_3] 25 (0, 0)) (by (with_reducible repeat (first | refine rb1 ?_ _ | refine rb2 ?_ | refine rb3 ?_ _)); exact BK161.out) hb)
     have n4_ := Aside0.mk (below_step (by repeat (first | (with_reducible first | exact HB.out | apply below_alloc | apply rb4 | apply below_drew1 | refine below_set ?_ GE160.out | refine below_set ?_ GE161.out) | exact HB.out)) hb)
     clear HO169
     clear BK160
     clear BK161
     clear HB
     have HO169 := n0_
     have HO175 := n1_
     have BK160 := n2_
     have BK161 := n3_
     have HB := n4_
     clear n0_ n1_ n2_ n3_ n4_
     (try clear hb)
     (try clear hb2)
     (try clear hk)
     (try clear hi)
     (try clear ho0)
     obtain ⟨Ao118, co118, eo118⟩ := Kd.R_slice HO169.out
     (first | subst eo118 | (injection eo118 with f1_ f2_ f3_; have f4_ := f1_.symm; have f5_ := f3_.symm; clear f1_ f2_ f3_; subst f4_; subst f5_))
     obtain ⟨Ao119, co119, eo119⟩ := Kd.R_slice HO175.out
     (first | subst eo119 | (injection eo119 with f1_ f2_ f3_; have f4_ := f1_.symm; have f5_ := f3_.symm; clear f1_ f2_ f3_; subst f4_; subst f5_))
     refine hK.out _ _ ⟨(blk_cell BK160.out 0).trans rfl, (blk_cell BK160.out 1).trans rfl, (blk_cell BK160.out 2).trans rfl, (blk_cell BK160.out 3).trans rfl, (blk_cell BK161.out 0).trans rfl, (blk_cell BK161.out 1).trans rfl, (blk_cell BK161.out 2).trans rfl, (blk_cell BK161.out 3).trans rfl⟩ (fun hHeld => ?_)
     clear hK K
     refine norm_ (a' := ?_) ?_ ?_
     rotate_left
     ·show Act.put _ (some 23) _ = _
      simp only [Act.put, List.setIfInBounds_toArray, List.set_cons_zero, List.set_cons_succ, i64_w, i32_w]
      rfl
     refine one_ (i := 4) (N := some 24) #[true, true, true, true, true, false] rfl rfl (by kernel_rfl) (by decide) (fun K hK => ?_)
     refine goes_ Try.func9 (by kernel_rfl) rfl #[.agg #[.int .i64 t164, .int .i64 t165, .float .f64 t166, .slice Ao118 t167.length co118], .agg #[.int .i64 t170, .int .i64 t171, .float .f64 t172, .slice Ao119 t173.length co119]] (by rfl) rfl rfl (by (try simp only [List.map_toArray, List.map_cons, List.map_nil]); first | done | rfl | (simp only [List.length_drop, List.length_take]; rfl)) ?_
     with_reducible refine (spec_ItemCompare.calls k t164 t165 t166 _ _ t167 t170 t171 t172 _ _ t173 t176 _ ?side1 ?side2 ?side3 ?side4 A21.out).mono ?_
     (case side1 => repeat (first | exact (ra9 HO169.out).2.2 | (with_reducible refine ra6 ?_ _) | (with_reducible refine ra7 ?_ _) | (with_reducible refine ra8 ?_)))
     (case side2 => exact (ra9 HO169.out).2.1)
     (case side3 => repeat (first | exact (ra9 HO175.out).2.2 | (with_reducible refine ra6 ?_ _) | (with_reducible refine ra7 ?_ _) | (with_reducible refine ra8 ?_)))
     (case side4 => exact (ra9 HO175.out).2.1)
     rintro e w120 ⟨rfl, hb⟩
     refine ⟨_, rfl, ?_⟩
     have n0_ := Aside0.mk (ra5 (by (with_reducible repeat (first | apply ra1 | apply ra2 | apply ra3)); exact HO169.out) hb)
     have n1_ := Aside0.mk (ra5 (by (with_reducible repeat (first | apply ra1 | apply ra2 | apply ra3)); exact HO175.out) hb)
     have n2_ := Aside0.mk (blk_below (g := gb160) (o := .cells #[.int .i64 a0_0, .int .i64 a0_1, .float .f64 a0_2, .slice A0_3 l0_3.length c0_3] 25 (0, 0)) (by (with_reducible repeat (first | refine rb1 ?_ _ | refine rb2 ?_ | refine rb3 ?_ _)); exact BK160.out) hb)
     have n3_ := Aside0.mk (blk_below (g := gb161) (o := .cells #[.int .i64 a1_0, .int .i64 a1_1, .float .f64 a1_2, .slice A1_3 l1_3.length c1_3] 25 (0, 0)) (by (with_reducible repeat (first | refine rb1 ?_ _ | refine rb2 ?_ | refine rb3 ?_ _)); exact BK161.out) hb)
     have n4_ := Aside0.mk (below_step (by repeat (first | (with_reducible first | exact HB.out | apply below_alloc | apply rb4 | apply below_drew1 | refine below_set ?_ GE160.out | refine below_set ?_ GE161.out) | exact HB.out)) hb)
     clear HO169
     clear HO175
     clear BK160
     clear BK161
     clear HB
     have HO169 := n0_
     have HO175 := n1_
     have BK160 := n2_
     have BK161 := n3_
     have HB := n4_
     clear n0_ n1_ n2_ n3_ n4_
     (try clear hb)
     (try clear hb2)
     (try clear hk)
     (try clear hi)
     refine hK.out _ _ ⟨(blk_cell BK160.out 0).trans rfl, (blk_cell BK160.out 1).trans rfl, (blk_cell BK160.out 2).trans rfl, (blk_cell BK160.out 3).trans rfl, (blk_cell BK161.out 0).trans rfl, (blk_cell BK161.out 1).trans rfl, (blk_cell BK161.out 2).trans rfl, (blk_cell BK161.out 3).trans rfl⟩ (fun hHeld => ?_)
     clear hK K
     refine norm_ (a' := ?_) ?_ ?_
     rotate_left
     ·show Act.put _ (some 24) _ = _
      simp only [Act.put, List.setIfInBounds_toArray, List.set_cons_zero, List.set_cons_succ, i64_w, i32_w]
      rfl
     refine pure_ (i := 5) (N := some 6) (v := ?_) (a' := ?_) #[true, true, true, true, true, true] rfl rfl (by kernel_rfl) (fun _ _ _ h => h) (Or.inl ⟨by rfl, ?_⟩) ?_ ?_
     rotate_left
     ·intro w'
      go_simp
      with_reducible rfl
     rotate_left
     ·simp only [Act.put, List.setIfInBounds_toArray, List.set_cons_zero, List.set_cons_succ, i64_w, i32_w]
      rfl
     refine done_ (by kernel_rfl) ?_
     have hcz121_0 : w120.cell? ⟨gb160, 0, none⟩ = some (.int .i64 a0_0) := (blk_cell BK160.out 0).trans rfl
     have hcz121_1 : w120.cell? ⟨gb160, 1, none⟩ = some (.int .i64 a0_1) := (blk_cell BK160.out 1).trans rfl
     have hcz121_2 : w120.cell? ⟨gb160, 2, none⟩ = some (.float .f64 a0_2) := (blk_cell BK160.out 2).trans rfl
     have hcz121_3 : w120.cell? ⟨gb160, 3, none⟩ = some (.slice A0_3 l0_3.length c0_3) := (blk_cell BK160.out 3).trans rfl
     have hfz121_0 := blk_frozen BK160.out 0
     have hfz121_1 := blk_frozen BK160.out 1
     have hfz121_2 := blk_frozen BK160.out 2
     have hfz121_3 := blk_frozen BK160.out 3
     try go_wp2_with (first | ((with_reducible refine gate_callee (f := 10) rfl ?_); refine goesL_ (some 26) rfl rfl Try.func10 (by kernel_rfl) rfl #[.agg #[.int .i64 a0_0, .int .i64 a0_1, .float .f64 a0_2, .slice A0_3 l0_3.length c0_3]] rfl (by (try simp only [List.map_toArray, List.map_cons, List.map_nil]); first | done | rfl | (simp only [List.length_drop, List.length_take]; rfl)) ?_; (with_reducible refine (laws_toItem.calls k a0_0 a0_1 a0_2 _ _ l0_3 t177 t178 t179 t180 _ ?side1 ?side2 A22.out).mono ?_); (case side1 => repeat (first | exact (Kd.C_below HR0_3.out HB.out) | (with_reducible refine ra6 ?_ _) | (with_reducible refine ra7 ?_ _) | (with_reducible refine ra8 ?_))); (case side2 => exact HC0_3.out); rintro e w122 ⟨v181, rfl, ho0, hb⟩; refine ⟨_, rfl, ?_⟩; have n0_ := Aside0.mk (ra4 (by (with_reducible repeat (first | apply ra1 | apply ra2 | apply ra3)); exact HO169.out) (Kd.R_base ho0) hb); have n1_ := Aside0.mk (ra4 (by (with_reducible repeat (first | apply ra1 | apply ra2 | apply ra3)); exact HO175.out) (Kd.R_base ho0) hb); have n2_ := Aside0.mk (Kd.R_lower (Kd.R_new' (Kd.R_new' ho0 (Kd.R_lt (by (with_reducible repeat (first | apply ra1 | apply ra2 | apply ra3)); exact HO169.out))) (Kd.R_lt (by (with_reducible repeat (first | apply ra1 | apply ra2 | apply ra3)); exact HO175.out))) (below_size (by repeat (first | (with_reducible first | exact HB.out | apply below_alloc | apply rb4 | apply below_drew1 | refine below_set ?_ GE160.out | refine below_set ?_ GE161.out) | exact HB.out)))); have n3_ := Aside0.mk (blk_below (g := gb160) (o := .cells #[.int .i64 a0_0, .int .i64 a0_1, .float .f64 a0_2, .slice A0_3 l0_3.length c0_3] 25 (0, 0)) (by (with_reducible repeat (first | refine rb1 ?_ _ | refine rb2 ?_ | refine rb3 ?_ _)); exact BK160.out) hb); have n4_ := Aside0.mk (blk_below (g := gb161) (o := .cells #[.int .i64 a1_0, .int .i64 a1_1, .float .f64 a1_2, .slice A1_3 l1_3.length c1_3] 25 (0, 0)) (by (with_reducible repeat (first | refine rb1 ?_ _ | refine rb2 ?_ | refine rb3 ?_ _)); exact BK161.out) hb); have n5_ := Aside0.mk (below_step (by repeat (first | (with_reducible first | exact HB.out | apply below_alloc | apply rb4 | apply below_drew1 | refine below_set ?_ GE160.out | refine below_set ?_ GE161.out) | exact HB.out)) hb); clear HO169; clear HO175; clear BK160; clear BK161; clear HB; have HO169 := n0_; have HO175 := n1_; have HO182 := n2_; have BK160 := n3_; have BK161 := n4_; have HB := n5_; clear n0_ n1_ n2_ n3_ n4_ n5_; (try clear hb); (try clear hb2); (try clear hk); (try clear hi); (try clear ho0)) | ((with_reducible refine gate_dst (N := 7) rfl ?_); refine box_event ?hg (N := 7) ?hd (cs := #[.int .i64 0, .int .i64 0, .float .f64 0, .slice none 0 0]) (t := 28) ?hr ?_; (case hd => rfl); (case hg => rfl); (case hr => first | (go_simp; done) | (go_simp; rfl)); intro gb183 hg w123 hbox hb; have n0_ := Aside0.mk (ra5 (by (with_reducible repeat (first | apply ra1 | apply ra2 | apply ra3)); exact HO169.out) hb); have n1_ := Aside0.mk (ra5 (by (with_reducible repeat (first | apply ra1 | apply ra2 | apply ra3)); exact HO175.out) hb); have n2_ := Aside0.mk (ra5 (by (with_reducible repeat (first | apply ra1 | apply ra2 | apply ra3)); exact HO182.out) hb); have n3_ := Aside0.mk (blk_below (g := gb160) (o := .cells #[.int .i64 a0_0, .int .i64 a0_1, .float .f64 a0_2, .slice A0_3 l0_3.length c0_3] 25 (0, 0)) (by (with_reducible repeat (first | refine rb1 ?_ _ | refine rb2 ?_ | refine rb3 ?_ _)); exact BK160.out) hb); have n4_ := Aside0.mk (blk_below (g := gb161) (o := .cells #[.int .i64 a1_0, .int .i64 a1_1, .float .f64 a1_2, .slice A1_3 l1_3.length c1_3] 25 (0, 0)) (by (with_reducible repeat (first | refine rb1 ?_ _ | refine rb2 ?_ | refine rb3 ?_ _)); exact BK161.out) hb); have n5_ := Aside0.mk (below_step (by repeat (first | (with_reducible first | exact HB.out | apply below_alloc | apply rb4 | apply below_drew1 | refine below_set ?_ GE160.out | refine below_set ?_ GE161.out) | exact HB.out)) hb); have n6_ := Aside0.mk (hbox); have n7_ := Aside0.mk ((by rw [hg]; exact (below_size (by repeat (first | (with_reducible first | exact HB.out | apply below_alloc | apply rb4 | apply below_drew1 | refine below_set ?_ GE160.out | refine below_set ?_ GE161.out) | exact HB.out))) : w.heap.size ≤ gb183)); have n8_ := Aside0.mk ((by rw [hg]; exact (below_size (by repeat (first | (with_reducible first | exact HB.out | apply below_alloc | apply rb4 | apply below_drew1 | refine below_set ?_ GE160.out | refine below_set ?_ GE161.out) | exact HB.out))) : w.heap.size ≤ gb183)); have n9_ := Aside0.mk ((by rw [hg]; exact Nat.ne_of_lt (blk_lt (g := gb160) (o := .cells #[.int .i64 a0_0, .int .i64 a0_1, .float .f64 a0_2, .slice A0_3 l0_3.length c0_3] 25 (0, 0)) (by (with_reducible repeat (first | refine rb1 ?_ _ | refine rb2 ?_ | refine rb3 ?_ _)); exact BK160.out)) : gb160 ≠ gb183)); have n10_ := Aside0.mk ((by rw [hg]; exact Nat.ne_of_gt (blk_lt (g := gb160) (o := .cells #[.int .i64 a0_0, .int .i64 a0_1, .float .f64 a0_2, .slice A0_3 l0_3.length c0_3] 25 (0, 0)) (by (with_reducible repeat (first | refine rb1 ?_ _ | refine rb2 ?_ | refine rb3 ?_ _)); exact BK160.out)) : gb183 ≠ gb160)); have n11_ := Aside0.mk ((by rw [hg]; exact Nat.ne_of_lt (blk_lt (g := gb161) (o := .cells #[.int .i64 a1_0, .int .i64 a1_1, .float .f64 a1_2, .slice A1_3 l1_3.length c1_3] 25 (0, 0)) (by (with_reducible repeat (first | refine rb1 ?_ _ | refine rb2 ?_ | refine rb3 ?_ _)); exact BK161.out)) : gb161 ≠ gb183)); have n12_ := Aside0.mk ((by rw [hg]; exact Nat.ne_of_gt (blk_lt (g := gb161) (o := .cells #[.int .i64 a1_0, .int .i64 a1_1, .float .f64 a1_2, .slice A1_3 l1_3.length c1_3] 25 (0, 0)) (by (with_reducible repeat (first | refine rb1 ?_ _ | refine rb2 ?_ | refine rb3 ?_ _)); exact BK161.out)) : gb183 ≠ gb161)); clear HO169; clear HO175; clear HO182; clear BK160; clear BK161; clear HB; have HO169 := n0_; have HO175 := n1_; have HO182 := n2_; have BK160 := n3_; have BK161 := n4_; have HB := n5_; have BK183 := n6_; have GW183 := n7_; have GE183 := n8_; have NB160_183 := n9_; have NB183_160 := n10_; have NB161_183 := n11_; have NB183_161 := n12_; clear n0_ n1_ n2_ n3_ n4_ n5_ n6_ n7_ n8_ n9_ n10_ n11_ n12_; clear hb hbox hg; have hnb124 := NB183_160.out; have hnc124 := NB160_183.out; have hnb125 := NB183_161.out; have hnc125 := NB161_183.out; have hcz126_0 : w123.cell? ⟨gb183, 0, none⟩ = some (.int .i64 0) := (blk_cell BK183.out 0).trans rfl; have hcz126_1 : w123.cell? ⟨gb183, 1, none⟩ = some (.int .i64 0) := (blk_cell BK183.out 1).trans rfl; have hcz126_2 : w123.cell? ⟨gb183, 2, none⟩ = some (.float .f64 0) := (blk_cell BK183.out 2).trans rfl; have hcz126_3 : w123.cell? ⟨gb183, 3, none⟩ = some (.slice none 0 0) := (blk_cell BK183.out 3).trans rfl; have hfz126_0 := blk_frozen BK183.out 0; have hfz126_1 := blk_frozen BK183.out 1; have hfz126_2 := blk_frozen BK183.out 2; have hfz126_3 := blk_frozen BK183.out 3; obtain ⟨Ao127, co127, eo127⟩ := Kd.R_slice HO182.out; subst eo127; have hcz128_0 : w123.cell? ⟨gb161, 0, none⟩ = some (.int .i64 a1_0) := (blk_cell BK161.out 0).trans rfl; have hcz128_1 : w123.cell? ⟨gb161, 1, none⟩ = some (.int .i64 a1_1) := (blk_cell BK161.out 1).trans rfl; have hcz128_2 : w123.cell? ⟨gb161, 2, none⟩ = some (.float .f64 a1_2) := (blk_cell BK161.out 2).trans rfl; have hcz128_3 : w123.cell? ⟨gb161, 3, none⟩ = some (.slice A1_3 l1_3.length c1_3) := (blk_cell BK161.out 3).trans rfl; have hfz128_0 := blk_frozen BK161.out 0; have hfz128_1 := blk_frozen BK161.out 1; have hfz128_2 := blk_frozen BK161.out 2; have hfz128_3 := blk_frozen BK161.out 3) | ((with_reducible refine gate_callee (f := 10) rfl ?_); refine goesL_ (some 28) rfl rfl Try.func10 (by kernel_rfl) rfl #[.agg #[.int .i64 a1_0, .int .i64 a1_1, .float .f64 a1_2, .slice A1_3 l1_3.length c1_3]] rfl (by (try simp only [List.map_toArray, List.map_cons, List.map_nil]); first | done | rfl | (simp only [List.length_drop, List.length_take]; rfl)) ?_; (with_reducible refine (laws_toItem.calls k a1_0 a1_1 a1_2 _ _ l1_3 t184 t185 t186 t187 _ ?side1 ?side2 A23.out).mono ?_); (case side1 => exact Kd.C_below HR1_3.out (by repeat (first | (with_reducible first | exact HB.out | apply below_alloc | apply rb4 | apply below_drew1 | refine below_set ?_ GE160.out | refine below_set ?_ GE161.out | refine below_set ?_ GE183.out) | exact HB.out))); (case side2 => exact HC1_3.out); rintro e w129 ⟨v188, rfl, ho0, hb⟩; refine ⟨_, rfl, ?_⟩; have n0_ := Aside0.mk (ra4 (by (with_reducible repeat (first | apply ra1 | apply ra2 | apply ra3)); exact (Kd.R_mono (Kd.R_far (p := ⟨gb183, 3, none⟩) (Kd.R_far (p := ⟨gb183, 2, none⟩) (Kd.R_far (p := ⟨gb183, 1, none⟩) (Kd.R_far (p := ⟨gb183, 0, none⟩) (Kd.R_types HO169.out BK183.out (by decide)) (fun _ hk => hk.2) (.int .i64 t177)) (fun _ hk => hk.2) (.int .i64 t178)) (fun _ hk => hk.2) (.float .f64 t179)) (fun _ hk => hk.2) (.slice Ao127 t180.length co127)) (fun _ h_ => h_.1))) (Kd.R_base ho0) hb); have n1_ := Aside0.mk (ra4 (by (with_reducible repeat (first | apply ra1 | apply ra2 | apply ra3)); exact (Kd.R_mono (Kd.R_far (p := ⟨gb183, 3, none⟩) (Kd.R_far (p := ⟨gb183, 2, none⟩) (Kd.R_far (p := ⟨gb183, 1, none⟩) (Kd.R_far (p := ⟨gb183, 0, none⟩) (Kd.R_types HO175.out BK183.out (by decide)) (fun _ hk => hk.2) (.int .i64 t177)) (fun _ hk => hk.2) (.int .i64 t178)) (fun _ hk => hk.2) (.float .f64 t179)) (fun _ hk => hk.2) (.slice Ao127 t180.length co127)) (fun _ h_ => h_.1))) (Kd.R_base ho0) hb); have n2_ := Aside0.mk (ra4 (by (with_reducible repeat (first | apply ra1 | apply ra2 | apply ra3)); exact (Kd.R_mono (Kd.R_far (p := ⟨gb183, 3, none⟩) (Kd.R_far (p := ⟨gb183, 2, none⟩) (Kd.R_far (p := ⟨gb183, 1, none⟩) (Kd.R_far (p := ⟨gb183, 0, none⟩) (Kd.R_types HO182.out BK183.out (by decide)) (fun _ hk => hk.2) (.int .i64 t177)) (fun _ hk => hk.2) (.int .i64 t178)) (fun _ hk => hk.2) (.float .f64 t179)) (fun _ hk => hk.2) (.slice Ao127 t180.length co127)) (fun _ h_ => h_.1))) (Kd.R_base ho0) hb); have n3_ := Aside0.mk (Kd.R_lower (Kd.R_new' (Kd.R_new' (Kd.R_new' ho0 (Kd.R_lt (by (with_reducible repeat (first | apply ra1 | apply ra2 | apply ra3)); exact (Kd.R_mono (Kd.R_far (p := ⟨gb183, 3, none⟩) (Kd.R_far (p := ⟨gb183, 2, none⟩) (Kd.R_far (p := ⟨gb183, 1, none⟩) (Kd.R_far (p := ⟨gb183, 0, none⟩) (Kd.R_types HO169.out BK183.out (by decide)) (fun _ hk => hk.2) (.int .i64 t177)) (fun _ hk => hk.2) (.int .i64 t178)) (fun _ hk => hk.2) (.float .f64 t179)) (fun _ hk => hk.2) (.slice Ao127 t180.length co127)) (fun _ h_ => h_.1))))) (Kd.R_lt (by (with_reducible repeat (first | apply ra1 | apply ra2 | apply ra3)); exact (Kd.R_mono (Kd.R_far (p := ⟨gb183, 3, none⟩) (Kd.R_far (p := ⟨gb183, 2, none⟩) (Kd.R_far (p := ⟨gb183, 1, none⟩) (Kd.R_far (p := ⟨gb183, 0, none⟩) (Kd.R_types HO175.out BK183.out (by decide)) (fun _ hk => hk.2) (.int .i64 t177)) (fun _ hk => hk.2) (.int .i64 t178)) (fun _ hk => hk.2) (.float .f64 t179)) (fun _ hk => hk.2) (.slice Ao127 t180.length co127)) (fun _ h_ => h_.1))))) (Kd.R_lt (by (with_reducible repeat (first | apply ra1 | apply ra2 | apply ra3)); exact (Kd.R_mono (Kd.R_far (p := ⟨gb183, 3, none⟩) (Kd.R_far (p := ⟨gb183, 2, none⟩) (Kd.R_far (p := ⟨gb183, 1, none⟩) (Kd.R_far (p := ⟨gb183, 0, none⟩) (Kd.R_types HO182.out BK183.out (by decide)) (fun _ hk => hk.2) (.int .i64 t177)) (fun _ hk => hk.2) (.int .i64 t178)) (fun _ hk => hk.2) (.float .f64 t179)) (fun _ hk => hk.2) (.slice Ao127 t180.length co127)) (fun _ h_ => h_.1))))) (below_size (by repeat (first | (with_reducible first | exact HB.out | apply below_alloc | apply rb4 | apply below_drew1 | refine below_set ?_ GE160.out | refine below_set ?_ GE161.out | refine below_set ?_ GE183.out) | exact HB.out)))); have n4_ := Aside0.mk (blk_below (g := gb160) (o := .cells #[.int .i64 a0_0, .int .i64 a0_1, .float .f64 a0_2, .slice A0_3 l0_3.length c0_3] 25 (0, 0)) (by (with_reducible repeat (first | refine rb1 ?_ _ | refine rb2 ?_ | refine rb3 ?_ _)); refine blk_far ?_ NB160_183.out _; (with_reducible repeat (first | refine rb1 ?_ _ | refine rb2 ?_ | refine rb3 ?_ _)); refine blk_far ?_ NB160_183.out _; (with_reducible repeat (first | refine rb1 ?_ _ | refine rb2 ?_ | refine rb3 ?_ _)); refine blk_far ?_ NB160_183.out _; (with_reducible repeat (first | refine rb1 ?_ _ | refine rb2 ?_ | refine rb3 ?_ _)); refine blk_far ?_ NB160_183.out _; (with_reducible repeat (first | refine rb1 ?_ _ | refine rb2 ?_ | refine rb3 ?_ _)); exact BK160.out) hb); have n5_ := Aside0.mk (blk_below (g := gb161) (o := .cells #[.int .i64 a1_0, .int .i64 a1_1, .float .f64 a1_2, .slice A1_3 l1_3.length c1_3] 25 (0, 0)) (by (with_reducible repeat (first | refine rb1 ?_ _ | refine rb2 ?_ | refine rb3 ?_ _)); refine blk_far ?_ NB161_183.out _; (with_reducible repeat (first | refine rb1 ?_ _ | refine rb2 ?_ | refine rb3 ?_ _)); refine blk_far ?_ NB161_183.out _; (with_reducible repeat (first | refine rb1 ?_ _ | refine rb2 ?_ | refine rb3 ?_ _)); refine blk_far ?_ NB161_183.out _; (with_reducible repeat (first | refine rb1 ?_ _ | refine rb2 ?_ | refine rb3 ?_ _)); refine blk_far ?_ NB161_183.out _; (with_reducible repeat (first | refine rb1 ?_ _ | refine rb2 ?_ | refine rb3 ?_ _)); exact BK161.out) hb); have n6_ := Aside0.mk (blk_below (g := gb183) (o := .cells #[.int .i64 t177, .int .i64 t178, .float .f64 t179, .slice Ao127 t180.length co127] 28 (0, 0)) (by (with_reducible repeat (first | refine rb1 ?_ _ | refine rb2 ?_ | refine rb3 ?_ _)); refine blk_put (cs := #[.int .i64 t177, .int .i64 t178, .float .f64 t179, .slice none 0 0]) ?_ 3 _ rfl; (with_reducible repeat (first | refine rb1 ?_ _ | refine rb2 ?_ | refine rb3 ?_ _)); refine blk_put (cs := #[.int .i64 t177, .int .i64 t178, .float .f64 0, .slice none 0 0]) ?_ 2 _ rfl; (with_reducible repeat (first | refine rb1 ?_ _ | refine rb2 ?_ | refine rb3 ?_ _)); refine blk_put (cs := #[.int .i64 t177, .int .i64 0, .float .f64 0, .slice none 0 0]) ?_ 1 _ rfl; (with_reducible repeat (first | refine rb1 ?_ _ | refine rb2 ?_ | refine rb3 ?_ _)); refine blk_put (cs := #[.int .i64 0, .int .i64 0, .float .f64 0, .slice none 0 0]) ?_ 0 _ rfl; (with_reducible repeat (first | refine rb1 ?_ _ | refine rb2 ?_ | refine rb3 ?_ _)); exact BK183.out) hb); have n7_ := Aside0.mk (below_step (by repeat (first | (with_reducible first | exact HB.out | apply below_alloc | apply rb4 | apply below_drew1 | refine below_set ?_ GE160.out | refine below_set ?_ GE161.out | refine below_set ?_ GE183.out) | exact HB.out)) hb); clear HO169; clear HO175; clear HO182; clear BK160; clear BK161; clear BK183; clear HB; have HO169 := n0_; have HO175 := n1_; have HO182 := n2_; have HO189 := n3_; have BK160 := n4_; have BK161 := n5_; have BK183 := n6_; have HB := n7_; clear n0_ n1_ n2_ n3_ n4_ n5_ n6_ n7_; (try clear hb); (try clear hb2); (try clear hk); (try clear hi); (try clear ho0)) | ((with_reducible refine gate_dst (N := 8) rfl ?_); refine box_event ?hg (N := 8) ?hd (cs := #[.int .i64 0, .int .i64 0, .float .f64 0, .slice none 0 0]) (t := 28) ?hr ?_; (case hd => rfl); (case hg => rfl); (case hr => first | (go_simp; done) | (go_simp; rfl)); intro gb190 hg w130 hbox hb; have n0_ := Aside0.mk (ra5 (by (with_reducible repeat (first | apply ra1 | apply ra2 | apply ra3)); exact HO169.out) hb); have n1_ := Aside0.mk (ra5 (by (with_reducible repeat (first | apply ra1 | apply ra2 | apply ra3)); exact HO175.out) hb); have n2_ := Aside0.mk (ra5 (by (with_reducible repeat (first | apply ra1 | apply ra2 | apply ra3)); exact HO182.out) hb); have n3_ := Aside0.mk (ra5 (by (with_reducible repeat (first | apply ra1 | apply ra2 | apply ra3)); exact HO189.out) hb); have n4_ := Aside0.mk (blk_below (g := gb160) (o := .cells #[.int .i64 a0_0, .int .i64 a0_1, .float .f64 a0_2, .slice A0_3 l0_3.length c0_3] 25 (0, 0)) (by (with_reducible repeat (first | refine rb1 ?_ _ | refine rb2 ?_ | refine rb3 ?_ _)); exact BK160.out) hb); have n5_ := Aside0.mk (blk_below (g := gb161) (o := .cells #[.int .i64 a1_0, .int .i64 a1_1, .float .f64 a1_2, .slice A1_3 l1_3.length c1_3] 25 (0, 0)) (by (with_reducible repeat (first | refine rb1 ?_ _ | refine rb2 ?_ | refine rb3 ?_ _)); exact BK161.out) hb); have n6_ := Aside0.mk (blk_below (g := gb183) (o := .cells #[.int .i64 t177, .int .i64 t178, .float .f64 t179, .slice Ao127 t180.length co127] 28 (0, 0)) (by (with_reducible repeat (first | refine rb1 ?_ _ | refine rb2 ?_ | refine rb3 ?_ _)); exact BK183.out) hb); have n7_ := Aside0.mk (below_step (by repeat (first | (with_reducible first | exact HB.out | apply below_alloc | apply rb4 | apply below_drew1 | refine below_set ?_ GE160.out | refine below_set ?_ GE161.out | refine below_set ?_ GE183.out) | exact HB.out)) hb); have n8_ := Aside0.mk (hbox); have n9_ := Aside0.mk ((by rw [hg]; exact (below_size (by repeat (first | (with_reducible first | exact HB.out | apply below_alloc | apply rb4 | apply below_drew1 | refine below_set ?_ GE160.out | refine below_set ?_ GE161.out | refine below_set ?_ GE183.out) | exact HB.out))) : w.heap.size ≤ gb190)); have n10_ := Aside0.mk ((by rw [hg]; exact (below_size (by repeat (first | (with_reducible first | exact HB.out | apply below_alloc | apply rb4 | apply below_drew1 | refine below_set ?_ GE160.out | refine below_set ?_ GE161.out | refine below_set ?_ GE183.out) | exact HB.out))) : w.heap.size ≤ gb190)); have n11_ := Aside0.mk ((by rw [hg]; exact Nat.ne_of_lt (blk_lt (g := gb160) (o := .cells #[.int .i64 a0_0, .int .i64 a0_1, .float .f64 a0_2, .slice A0_3 l0_3.length c0_3] 25 (0, 0)) (by (with_reducible repeat (first | refine rb1 ?_ _ | refine rb2 ?_ | refine rb3 ?_ _)); exact BK160.out)) : gb160 ≠ gb190)); have n12_ := Aside0.mk ((by rw [hg]; exact Nat.ne_of_gt (blk_lt (g := gb160) (o := .cells #[.int .i64 a0_0, .int .i64 a0_1, .float .f64 a0_2, .slice A0_3 l0_3.length c0_3] 25 (0, 0)) (by (with_reducible repeat (first | refine rb1 ?_ _ | refine rb2 ?_ | refine rb3 ?_ _)); exact BK160.out)) : gb190 ≠ gb160)); have n13_ := Aside0.mk ((by rw [hg]; exact Nat.ne_of_lt (blk_lt (g := gb161) (o := .cells #[.int .i64 a1_0, .int .i64 a1_1, .float .f64 a1_2, .slice A1_3 l1_3.length c1_3] 25 (0, 0)) (by (with_reducible repeat (first | refine rb1 ?_ _ | refine rb2 ?_ | refine rb3 ?_ _)); exact BK161.out)) : gb161 ≠ gb190)); have n14_ := Aside0.mk ((by rw [hg]; exact Nat.ne_of_gt (blk_lt (g := gb161) (o := .cells #[.int .i64 a1_0, .int .i64 a1_1, .float .f64 a1_2, .slice A1_3 l1_3.length c1_3] 25 (0, 0)) (by (with_reducible repeat (first | refine rb1 ?_ _ | refine rb2 ?_ | refine rb3 ?_ _)); exact BK161.out)) : gb190 ≠ gb161)); have n15_ := Aside0.mk ((by rw [hg]; exact Nat.ne_of_lt (blk_lt (g := gb183) (o := .cells #[.int .i64 t177, .int .i64 t178, .float .f64 t179, .slice Ao127 t180.length co127] 28 (0, 0)) (by (with_reducible repeat (first | refine rb1 ?_ _ | refine rb2 ?_ | refine rb3 ?_ _)); exact BK183.out)) : gb183 ≠ gb190)); have n16_ := Aside0.mk ((by rw [hg]; exact Nat.ne_of_gt (blk_lt (g := gb183) (o := .cells #[.int .i64 t177, .int .i64 t178, .float .f64 t179, .slice Ao127 t180.length co127] 28 (0, 0)) (by (with_reducible repeat (first | refine rb1 ?_ _ | refine rb2 ?_ | refine rb3 ?_ _)); exact BK183.out)) : gb190 ≠ gb183)); clear HO169; clear HO175; clear HO182; clear HO189; clear BK160; clear BK161; clear BK183; clear HB; have HO169 := n0_; have HO175 := n1_; have HO182 := n2_; have HO189 := n3_; have BK160 := n4_; have BK161 := n5_; have BK183 := n6_; have HB := n7_; have BK190 := n8_; have GW190 := n9_; have GE190 := n10_; have NB160_190 := n11_; have NB190_160 := n12_; have NB161_190 := n13_; have NB190_161 := n14_; have NB183_190 := n15_; have NB190_183 := n16_; clear n0_ n1_ n2_ n3_ n4_ n5_ n6_ n7_ n8_ n9_ n10_ n11_ n12_ n13_ n14_ n15_ n16_; clear hb hbox hg; have hnb131 := NB190_160.out; have hnc131 := NB160_190.out; have hnb132 := NB190_161.out; have hnc132 := NB161_190.out; have hnb133 := NB190_183.out; have hnc133 := NB183_190.out; have hcz134_0 : w130.cell? ⟨gb190, 0, none⟩ = some (.int .i64 0) := (blk_cell BK190.out 0).trans rfl; have hcz134_1 : w130.cell? ⟨gb190, 1, none⟩ = some (.int .i64 0) := (blk_cell BK190.out 1).trans rfl; have hcz134_2 : w130.cell? ⟨gb190, 2, none⟩ = some (.float .f64 0) := (blk_cell BK190.out 2).trans rfl; have hcz134_3 : w130.cell? ⟨gb190, 3, none⟩ = some (.slice none 0 0) := (blk_cell BK190.out 3).trans rfl; have hfz134_0 := blk_frozen BK190.out 0; have hfz134_1 := blk_frozen BK190.out 1; have hfz134_2 := blk_frozen BK190.out 2; have hfz134_3 := blk_frozen BK190.out 3; obtain ⟨Ao135, co135, eo135⟩ := Kd.R_slice HO189.out; subst eo135; have hcz136_0 : w130.cell? ⟨gb183, 0, none⟩ = some (.int .i64 t177) := (blk_cell BK183.out 0).trans rfl; have hcz136_1 : w130.cell? ⟨gb183, 1, none⟩ = some (.int .i64 t178) := (blk_cell BK183.out 1).trans rfl; have hcz136_2 : w130.cell? ⟨gb183, 2, none⟩ = some (.float .f64 t179) := (blk_cell BK183.out 2).trans rfl; have hcz136_3 : w130.cell? ⟨gb183, 3, none⟩ = some (.slice Ao127 t180.length co127) := (blk_cell BK183.out 3).trans rfl; have hfz136_0 := blk_frozen BK183.out 0; have hfz136_1 := blk_frozen BK183.out 1; have hfz136_2 := blk_frozen BK183.out 2; have hfz136_3 := blk_frozen BK183.out 3) | ((with_reducible refine gate_callee (f := 11) rfl ?_); refine goesL_ (some 31) rfl rfl Try.func11 (by kernel_rfl) rfl #[.agg #[.int .i64 t177, .int .i64 t178, .float .f64 t179, .slice Ao127 t180.length co127], .agg #[.int .i64 t184, .int .i64 t185, .float .f64 t186, .slice Ao135 t187.length co135]] rfl (by (try simp only [List.map_toArray, List.map_cons, List.map_nil]); first | done | rfl | (simp only [List.length_drop, List.length_take]; rfl)) ?_; (with_reducible refine (impl_ItemCompare.calls k t177 t178 t179 _ _ t180 t184 t185 t186 _ _ t187 t191 _ ?side1 ?side2 ?side3 ?side4 A24.out).mono ?_); (case side1 => refine (ra9 (e := 5) (base := w.heap.size) (ok := fun k_ => (((True ∧ some k_ ≠ (.slice Ao118 t167.length co118 : Value).ownBlock) ∧ some k_ ≠ (.slice Ao119 t173.length co119 : Value).ownBlock) ∧ some k_ ≠ (.slice Ao135 t187.length co135 : Value).ownBlock)) (n := t180.length) (c := co127) ?_).2.2; exact (by (with_reducible repeat (first | apply ra1 | apply ra2 | apply ra3)); exact (Kd.R_mono (Kd.R_far (p := ⟨gb190, 3, none⟩) (Kd.R_far (p := ⟨gb190, 2, none⟩) (Kd.R_far (p := ⟨gb190, 1, none⟩) (Kd.R_far (p := ⟨gb190, 0, none⟩) (Kd.R_types HO182.out BK190.out (by decide)) (fun _ hk => hk.2) (.int .i64 t184)) (fun _ hk => hk.2) (.int .i64 t185)) (fun _ hk => hk.2) (.float .f64 t186)) (fun _ hk => hk.2) (.slice Ao135 t187.length co135)) (fun _ h_ => h_.1)))); (case side2 => exact (ra9 HO182.out).2.1); (case side3 => refine (ra9 (e := 5) (base := w.heap.size) (ok := fun k_ => (((True ∧ some k_ ≠ (.slice Ao118 t167.length co118 : Value).ownBlock) ∧ some k_ ≠ (.slice Ao119 t173.length co119 : Value).ownBlock) ∧ some k_ ≠ (.slice Ao127 t180.length co127 : Value).ownBlock)) (n := t187.length) (c := co135) ?_).2.2; exact (by (with_reducible repeat (first | apply ra1 | apply ra2 | apply ra3)); exact (Kd.R_mono (Kd.R_far (p := ⟨gb190, 3, none⟩) (Kd.R_far (p := ⟨gb190, 2, none⟩) (Kd.R_far (p := ⟨gb190, 1, none⟩) (Kd.R_far (p := ⟨gb190, 0, none⟩) (Kd.R_types HO189.out BK190.out (by decide)) (fun _ hk => hk.2) (.int .i64 t184)) (fun _ hk => hk.2) (.int .i64 t185)) (fun _ hk => hk.2) (.float .f64 t186)) (fun _ hk => hk.2) (.slice Ao135 t187.length co135)) (fun _ h_ => h_.1)))); (case side4 => exact (ra9 HO189.out).2.1); rintro e w137 ⟨rfl, hb⟩; refine ⟨_, rfl, ?_⟩; have n0_ := Aside0.mk (ra5 (by (with_reducible repeat (first | apply ra1 | apply ra2 | apply ra3)); exact (Kd.R_mono (Kd.R_far (p := ⟨gb190, 3, none⟩) (Kd.R_far (p := ⟨gb190, 2, none⟩) (Kd.R_far (p := ⟨gb190, 1, none⟩) (Kd.R_far (p := ⟨gb190, 0, none⟩) (Kd.R_types HO169.out BK190.out (by decide)) (fun _ hk => hk.2) (.int .i64 t184)) (fun _ hk => hk.2) (.int .i64 t185)) (fun _ hk => hk.2) (.float .f64 t186)) (fun _ hk => hk.2) (.slice Ao135 t187.length co135)) (fun _ h_ => h_.1))) hb); have n1_ := Aside0.mk (ra5 (by (with_reducible repeat (first | apply ra1 | apply ra2 | apply ra3)); exact (Kd.R_mono (Kd.R_far (p := ⟨gb190, 3, none⟩) (Kd.R_far (p := ⟨gb190, 2, none⟩) (Kd.R_far (p := ⟨gb190, 1, none⟩) (Kd.R_far (p := ⟨gb190, 0, none⟩) (Kd.R_types HO175.out BK190.out (by decide)) (fun _ hk => hk.2) (.int .i64 t184)) (fun _ hk => hk.2) (.int .i64 t185)) (fun _ hk => hk.2) (.float .f64 t186)) (fun _ hk => hk.2) (.slice Ao135 t187.length co135)) (fun _ h_ => h_.1))) hb); have n2_ := Aside0.mk (ra5 (by (with_reducible repeat (first | apply ra1 | apply ra2 | apply ra3)); exact (Kd.R_mono (Kd.R_far (p := ⟨gb190, 3, none⟩) (Kd.R_far (p := ⟨gb190, 2, none⟩) (Kd.R_far (p := ⟨gb190, 1, none⟩) (Kd.R_far (p := ⟨gb190, 0, none⟩) (Kd.R_types HO182.out BK190.out (by decide)) (fun _ hk => hk.2) (.int .i64 t184)) (fun _ hk => hk.2) (.int .i64 t185)) (fun _ hk => hk.2) (.float .f64 t186)) (fun _ hk => hk.2) (.slice Ao135 t187.length co135)) (fun _ h_ => h_.1))) hb); have n3_ := Aside0.mk (ra5 (by (with_reducible repeat (first | apply ra1 | apply ra2 | apply ra3)); exact (Kd.R_mono (Kd.R_far (p := ⟨gb190, 3, none⟩) (Kd.R_far (p := ⟨gb190, 2, none⟩) (Kd.R_far (p := ⟨gb190, 1, none⟩) (Kd.R_far (p := ⟨gb190, 0, none⟩) (Kd.R_types HO189.out BK190.out (by decide)) (fun _ hk => hk.2) (.int .i64 t184)) (fun _ hk => hk.2) (.int .i64 t185)) (fun _ hk => hk.2) (.float .f64 t186)) (fun _ hk => hk.2) (.slice Ao135 t187.length co135)) (fun _ h_ => h_.1))) hb); have n4_ := Aside0.mk (blk_below (g := gb160) (o := .cells #[.int .i64 a0_0, .int .i64 a0_1, .float .f64 a0_2, .slice A0_3 l0_3.length c0_3] 25 (0, 0)) (by (with_reducible repeat (first | refine rb1 ?_ _ | refine rb2 ?_ | refine rb3 ?_ _)); refine blk_far ?_ NB160_190.out _; (with_reducible repeat (first | refine rb1 ?_ _ | refine rb2 ?_ | refine rb3 ?_ _)); refine blk_far ?_ NB160_190.out _; (with_reducible repeat (first | refine rb1 ?_ _ | refine rb2 ?_ | refine rb3 ?_ _)); refine blk_far ?_ NB160_190.out _; (with_reducible repeat (first | refine rb1 ?_ _ | refine rb2 ?_ | refine rb3 ?_ _)); refine blk_far ?_ NB160_190.out _; (with_reducible repeat (first | refine rb1 ?_ _ | refine rb2 ?_ | refine rb3 ?_ _)); exact BK160.out) hb); have n5_ := Aside0.mk (blk_below (g := gb161) (o := .cells #[.int .i64 a1_0, .int .i64 a1_1, .float .f64 a1_2, .slice A1_3 l1_3.length c1_3] 25 (0, 0)) (by (with_reducible repeat (first | refine rb1 ?_ _ | refine rb2 ?_ | refine rb3 ?_ _)); refine blk_far ?_ NB161_190.out _; (with_reducible repeat (first | refine rb1 ?_ _ | refine rb2 ?_ | refine rb3 ?_ _)); refine blk_far ?_ NB161_190.out _; (with_reducible repeat (first | refine rb1 ?_ _ | refine rb2 ?_ | refine rb3 ?_ _)); refine blk_far ?_ NB161_190.out _; (with_reducible repeat (first | refine rb1 ?_ _ | refine rb2 ?_ | refine rb3 ?_ _)); refine blk_far ?_ NB161_190.out _; (with_reducible repeat (first | refine rb1 ?_ _ | refine rb2 ?_ | refine rb3 ?_ _)); exact BK161.out) hb); have n6_ := Aside0.mk (blk_below (g := gb183) (o := .cells #[.int .i64 t177, .int .i64 t178, .float .f64 t179, .slice Ao127 t180.length co127] 28 (0, 0)) (by (with_reducible repeat (first | refine rb1 ?_ _ | refine rb2 ?_ | refine rb3 ?_ _)); refine blk_far ?_ NB183_190.out _; (with_reducible repeat (first | refine rb1 ?_ _ | refine rb2 ?_ | refine rb3 ?_ _)); refine blk_far ?_ NB183_190.out _; (with_reducible repeat (first | refine rb1 ?_ _ | refine rb2 ?_ | refine rb3 ?_ _)); refine blk_far ?_ NB183_190.out _; (with_reducible repeat (first | refine rb1 ?_ _ | refine rb2 ?_ | refine rb3 ?_ _)); refine blk_far ?_ NB183_190.out _; (with_reducible repeat (first | refine rb1 ?_ _ | refine rb2 ?_ | refine rb3 ?_ _)); exact BK183.out) hb); have n7_ := Aside0.mk (blk_below (g := gb190) (o := .cells #[.int .i64 t184, .int .i64 t185, .float .f64 t186, .slice Ao135 t187.length co135] 28 (0, 0)) (by (with_reducible repeat (first | refine rb1 ?_ _ | refine rb2 ?_ | refine rb3 ?_ _)); refine blk_put (cs := #[.int .i64 t184, .int .i64 t185, .float .f64 t186, .slice none 0 0]) ?_ 3 _ rfl; (with_reducible repeat (first | refine rb1 ?_ _ | refine rb2 ?_ | refine rb3 ?_ _)); refine blk_put (cs := #[.int .i64 t184, .int .i64 t185, .float .f64 0, .slice none 0 0]) ?_ 2 _ rfl; (with_reducible repeat (first | refine rb1 ?_ _ | refine rb2 ?_ | refine rb3 ?_ _)); refine blk_put (cs := #[.int .i64 t184, .int .i64 0, .float .f64 0, .slice none 0 0]) ?_ 1 _ rfl; (with_reducible repeat (first | refine rb1 ?_ _ | refine rb2 ?_ | refine rb3 ?_ _)); refine blk_put (cs := #[.int .i64 0, .int .i64 0, .float .f64 0, .slice none 0 0]) ?_ 0 _ rfl; (with_reducible repeat (first | refine rb1 ?_ _ | refine rb2 ?_ | refine rb3 ?_ _)); exact BK190.out) hb); have n8_ := Aside0.mk (below_step (by repeat (first | (with_reducible first | exact HB.out | apply below_alloc | apply rb4 | apply below_drew1 | refine below_set ?_ GE160.out | refine below_set ?_ GE161.out | refine below_set ?_ GE183.out | refine below_set ?_ GE190.out) | exact HB.out)) hb); clear HO169; clear HO175; clear HO182; clear HO189; clear BK160; clear BK161; clear BK183; clear BK190; clear HB; have HO169 := n0_; have HO175 := n1_; have HO182 := n2_; have HO189 := n3_; have BK160 := n4_; have BK161 := n5_; have BK183 := n6_; have BK190 := n7_; have HB := n8_; clear n0_ n1_ n2_ n3_ n4_ n5_ n6_ n7_ n8_; (try clear hb); (try clear hb2); (try clear hk); (try clear hi)))
     have n0_ := Aside0.mk (ra3 HO169.out)
     have n1_ := Aside0.mk (ra3 HO175.out)
     have n2_ := Aside0.mk (ra3 HO182.out)
     have n3_ := Aside0.mk (ra3 HO189.out)
     have n4_ := Aside0.mk (rb2 BK160.out)
     have n5_ := Aside0.mk (rb2 BK161.out)
     have n6_ := Aside0.mk (rb2 BK183.out)
     have n7_ := Aside0.mk (rb2 BK190.out)
     have n8_ := Aside0.mk (below_drew1 HB.out)
     clear HO169
     clear HO175
     clear HO182
     clear HO189
     clear BK160
     clear BK161
     clear BK183
     clear BK190
     clear HB
     have HO169 := n0_
     have HO175 := n1_
     have HO182 := n2_
     have HO189 := n3_
     have BK160 := n4_
     have BK161 := n5_
     have BK183 := n6_
     have BK190 := n7_
     have HB := n8_
     clear n0_ n1_ n2_ n3_ n4_ n5_ n6_ n7_ n8_
     refine start_ (n := 5) (S := fun w' => w'.cell? ⟨gb183, 0, none⟩ = some (.int .i64 t177) ∧ w'.cell? ⟨gb183, 1, none⟩ = some (.int .i64 t178) ∧ w'.cell? ⟨gb183, 2, none⟩ = some (.float .f64 t179) ∧ w'.cell? ⟨gb183, 3, none⟩ = some (.slice Ao127 t180.length co127) ∧ w'.cell? ⟨gb160, 0, none⟩ = some (.int .i64 a0_0) ∧ w'.cell? ⟨gb160, 1, none⟩ = some (.int .i64 a0_1) ∧ w'.cell? ⟨gb160, 2, none⟩ = some (.float .f64 a0_2) ∧ w'.cell? ⟨gb160, 3, none⟩ = some (.slice A0_3 l0_3.length c0_3)) (ds := []) #[false, false, false, false, false] (by kernel_rfl) rfl rfl ⟨(blk_cell BK183.out 0).trans rfl, (blk_cell BK183.out 1).trans rfl, (blk_cell BK183.out 2).trans rfl, (blk_cell BK183.out 3).trans rfl, (blk_cell BK160.out 0).trans rfl, (blk_cell BK160.out 1).trans rfl, (blk_cell BK160.out 2).trans rfl, (blk_cell BK160.out 3).trans rfl⟩ (fun hHeld => ?_)
     generalize w137.drew = w138 at HO169 HO175 HO182 HO189 BK160 BK161 BK183 BK190 HB hHeld ⊢
     refine take_ (i := 0) (N := some 35) (v := ?_) (a' := ?_) #[true, false, false, false, false] rfl rfl (by kernel_rfl) (fun _ _ _ h => h) (Or.inl ⟨by rfl, ?_⟩) hHeld ?_ ?_
     rotate_left
     ·rintro w' ⟨s0, s1, s2, s3, s4, s5, s6, s7⟩
      go_simp
      with_reducible rfl
     rotate_left
     ·simp only [Act.put, List.setIfInBounds_toArray, List.set_cons_zero, List.set_cons_succ, i64_w, i32_w]
      rfl
     refine take_ (i := 1) (N := some 36) (v := ?_) (a' := ?_) #[true, true, false, false, false] rfl rfl (by kernel_rfl) (fun _ _ _ h => h) (Or.inl ⟨by rfl, ?_⟩) hHeld ?_ ?_
     rotate_left
     ·rintro w' ⟨s0, s1, s2, s3, s4, s5, s6, s7⟩
      go_simp
      with_reducible rfl
     rotate_left
     ·simp only [Act.put, List.setIfInBounds_toArray, List.set_cons_zero, List.set_cons_succ, i64_w, i32_w]
      rfl
     refine one_ (i := 2) (N := some 37) #[true, true, true, false, false] rfl rfl (by kernel_rfl) (by decide) (fun K hK => ?_)
     refine goes_ Try.func10 (by kernel_rfl) rfl #[.agg #[.int .i64 a0_0, .int .i64 a0_1, .float .f64 a0_2, .slice A0_3 l0_3.length c0_3]] (by rfl) rfl rfl (by (try simp only [List.map_toArray, List.map_cons, List.map_nil]); first | done | rfl | (simp only [List.length_drop, List.length_take]; rfl)) ?_
     with_reducible refine (laws_toItem.calls k a0_0 a0_1 a0_2 _ _ l0_3 t192 t193 t194 t195 _ ?side1 ?side2 A26.out).mono ?_
     (case side1 => repeat (first | exact (Kd.C_below HR0_3.out HB.out) | (with_reducible refine ra6 ?_ _) | (with_reducible refine ra7 ?_ _) | (with_reducible refine ra8 ?_)))
     (case side2 => exact HC0_3.out)
     rintro e w139 ⟨v196, rfl, ho0, hb⟩
     refine ⟨_, rfl, ?_⟩
     have n0_ := Aside0.mk (ra4 (by (with_reducible repeat (first | apply ra1 | apply ra2 | apply ra3)); exact HO169.out) (Kd.R_base ho0) hb)
     have n1_ := Aside0.mk (ra4 (by (with_reducible repeat (first | apply ra1 | apply ra2 | apply ra3)); exact HO175.out) (Kd.R_base ho0) hb)
     have n2_ := Aside0.mk (ra4 (by (with_reducible repeat (first | apply ra1 | apply ra2 | apply ra3)); exact HO182.out) (Kd.R_base ho0) hb)
     have n3_ := Aside0.mk (ra4 (by (with_reducible repeat (first | apply ra1 | apply ra2 | apply ra3)); exact HO189.out) (Kd.R_base ho0) hb)
     have n4_ := Aside0.mk (Kd.R_lower (Kd.R_new' (Kd.R_new' (Kd.R_new' (Kd.R_new' ho0 (Kd.R_lt (by (with_reducible repeat (first | apply ra1 | apply ra2 | apply ra3)); exact HO169.out))) (Kd.R_lt (by (with_reducible repeat (first | apply ra1 | apply ra2 | apply ra3)); exact HO175.out))) (Kd.R_lt (by (with_reducible repeat (first | apply ra1 | apply ra2 | apply ra3)); exact HO182.out))) (Kd.R_lt (by (with_reducible repeat (first | apply ra1 | apply ra2 | apply ra3)); exact HO189.out))) (below_size (by repeat (first | (with_reducible first | exact HB.out | apply below_alloc | apply rb4 | apply below_drew1 | refine below_set ?_ GE160.out | refine below_set ?_ GE161.out | refine below_set ?_ GE183.out | refine below_set ?_ GE190.out) | exact HB.out))))
     have n5_ := Aside0.mk (blk_below (g := gb160) (o := .cells #[.int .i64 a0_0, .int .i64 a0_1, .float .f64 a0_2, .slice A0_3 l0_3.length c0_3] 25 (0, 0)) (by (with_reducible repeat (first | refine rb1 ?_ _ | refine rb2 ?_ | refine rb3 ?_ _)); exact BK160.out) hb)
     have n6_ := Aside0.mk (blk_below (g := gb161) (o := .cells #[.int .i64 a1_0, .int .i64 a1_1, .float .f64 a1_2, .slice A1_3 l1_3.length c1_3] 25 (0, 0)) (by (with_reducible repeat (first | refine rb1 ?_ _ | refine rb2 ?_ | refine rb3 ?_ _)); exact BK161.out) hb)
     have n7_ := Aside0.mk (blk_below (g := gb183) (o := .cells #[.int .i64 t177, .int .i64 t178, .float .f64 t179, .slice Ao127 t180.length co127] 28 (0, 0)) (by (with_reducible repeat (first | refine rb1 ?_ _ | refine rb2 ?_ | refine rb3 ?_ _)); exact BK183.out) hb)
     have n8_ := Aside0.mk (blk_below (g := gb190) (o := .cells #[.int .i64 t184, .int .i64 t185, .float .f64 t186, .slice Ao135 t187.length co135] 28 (0, 0)) (by (with_reducible repeat (first | refine rb1 ?_ _ | refine rb2 ?_ | refine rb3 ?_ _)); exact BK190.out) hb)
     have n9_ := Aside0.mk (below_step (by repeat (first | (with_reducible first | exact HB.out | apply below_alloc | apply rb4 | apply below_drew1 | refine below_set ?_ GE160.out | refine below_set ?_ GE161.out | refine below_set ?_ GE183.out | refine below_set ?_ GE190.out) | exact HB.out)) hb)
     clear HO169
     clear HO175
     clear HO182
     clear HO189
     clear BK160
     clear BK161
     clear BK183
     clear BK190
     clear HB
     have HO169 := n0_
     have HO175 := n1_
     have HO182 := n2_
     have HO189 := n3_
     have HO197 := n4_
     have BK160 := n5_
     have BK161 := n6_
     have BK183 := n7_
     have BK190 := n8_
     have HB := n9_
     clear n0_ n1_ n2_ n3_ n4_ n5_ n6_ n7_ n8_ n9_
     (try clear hb)
     (try clear hb2)
     (try clear hk)
     (try clear hi)
     (try clear ho0)
     obtain ⟨Ao140, co140, eo140⟩ := Kd.R_slice HO197.out
     (first | subst eo140 | (injection eo140 with f1_ f2_ f3_; have f4_ := f1_.symm; have f5_ := f3_.symm; clear f1_ f2_ f3_; subst f4_; subst f5_))
     refine hK.out _ _ ⟨(blk_cell BK183.out 0).trans rfl, (blk_cell BK183.out 1).trans rfl, (blk_cell BK183.out 2).trans rfl, (blk_cell BK183.out 3).trans rfl, (blk_cell BK160.out 0).trans rfl, (blk_cell BK160.out 1).trans rfl, (blk_cell BK160.out 2).trans rfl, (blk_cell BK160.out 3).trans rfl⟩ (fun hHeld => ?_)
     clear hK K
     refine norm_ (a' := ?_) ?_ ?_
     rotate_left
     ·show Act.put _ (some 37) _ = _
      simp only [Act.put, List.setIfInBounds_toArray, List.set_cons_zero, List.set_cons_succ, i64_w, i32_w]
      rfl
     refine one_ (i := 3) (N := some 38) #[true, true, true, true, false] rfl rfl (by kernel_rfl) (by decide) (fun K hK => ?_)
     refine goes_ Try.func12 (by kernel_rfl) rfl #[.agg #[.int .i64 t177, .int .i64 t178, .float .f64 t179, .slice Ao127 t180.length co127], .agg #[.int .i64 t192, .int .i64 t193, .float .f64 t194, .slice Ao140 t195.length co140]] (by rfl) rfl rfl (by (try simp only [List.map_toArray, List.map_cons, List.map_nil]); first | done | rfl | (simp only [List.length_drop, List.length_take]; rfl)) ?_
     with_reducible refine (laws_eqItem.calls k t177 t178 t179 _ _ t180 t192 t193 t194 _ _ t195 false _ ?side1 ?side2 ?side3 ?side4 A27.out).mono ?_
     (case side1 => repeat (first | exact (ra9 HO182.out).2.2 | (with_reducible refine ra6 ?_ _) | (with_reducible refine ra7 ?_ _) | (with_reducible refine ra8 ?_)))
     (case side2 => exact (ra9 HO182.out).2.1)
     (case side3 => repeat (first | exact (ra9 HO197.out).2.2 | (with_reducible refine ra6 ?_ _) | (with_reducible refine ra7 ?_ _) | (with_reducible refine ra8 ?_)))
     (case side4 => exact (ra9 HO197.out).2.1)
     rintro e w141 ⟨rfl, hb⟩
     refine ⟨_, rfl, ?_⟩
     have n0_ := Aside0.mk (ra5 (by (with_reducible repeat (first | apply ra1 | apply ra2 | apply ra3)); exact HO169.out) hb)
     have n1_ := Aside0.mk (ra5 (by (with_reducible repeat (first | apply ra1 | apply ra2 | apply ra3)); exact HO175.out) hb)
     have n2_ := Aside0.mk (ra5 (by (with_reducible repeat (first | apply ra1 | apply ra2 | apply ra3)); exact HO182.out) hb)
     have n3_ := Aside0.mk (ra5 (by (with_reducible repeat (first | apply ra1 | apply ra2 | apply ra3)); exact HO189.out) hb)
     have n4_ := Aside0.mk (ra5 (by (with_reducible repeat (first | apply ra1 | apply ra2 | apply ra3)); exact HO197.out) hb)
     have n5_ := Aside0.mk (blk_below (g := gb160) (o := .cells #[.int .i64 a0_0, .int .i64 a0_1, .float .f64 a0_2, .slice A0_3 l0_3.length c0_3] 25 (0, 0)) (by (with_reducible repeat (first | refine rb1 ?_ _ | refine rb2 ?_ | refine rb3 ?_ _)); exact BK160.out) hb)
     have n6_ := Aside0.mk (blk_below (g := gb161) (o := .cells #[.int .i64 a1_0, .int .i64 a1_1, .float .f64 a1_2, .slice A1_3 l1_3.length c1_3] 25 (0, 0)) (by (with_reducible repeat (first | refine rb1 ?_ _ | refine rb2 ?_ | refine rb3 ?_ _)); exact BK161.out) hb)
     have n7_ := Aside0.mk (blk_below (g := gb183) (o := .cells #[.int .i64 t177, .int .i64 t178, .float .f64 t179, .slice Ao127 t180.length co127] 28 (0, 0)) (by (with_reducible repeat (first | refine rb1 ?_ _ | refine rb2 ?_ | refine rb3 ?_ _)); exact BK183.out) hb)
     have n8_ := Aside0.mk (blk_below (g := gb190) (o := .cells #[.int .i64 t184, .int .i64 t185, .float .f64 t186, .slice Ao135 t187.length co135] 28 (0, 0)) (by (with_reducible repeat (first | refine rb1 ?_ _ | refine rb2 ?_ | refine rb3 ?_ _)); exact BK190.out) hb)
     have n9_ := Aside0.mk (below_step (by repeat (first | (with_reducible first | exact HB.out | apply below_alloc | apply rb4 | apply below_drew1 | refine below_set ?_ GE160.out | refine below_set ?_ GE161.out | refine below_set ?_ GE183.out | refine below_set ?_ GE190.out) | exact HB.out)) hb)
     clear HO169
     clear HO175
     clear HO182
     clear HO189
     clear HO197
     clear BK160
     clear BK161
     clear BK183
     clear BK190
     clear HB
     have HO169 := n0_
     have HO175 := n1_
     have HO182 := n2_
     have HO189 := n3_
     have HO197 := n4_
     have BK160 := n5_
     have BK161 := n6_
     have BK183 := n7_
     have BK190 := n8_
     have HB := n9_
     clear n0_ n1_ n2_ n3_ n4_ n5_ n6_ n7_ n8_ n9_
     (try clear hb)
     (try clear hb2)
     (try clear hk)
     (try clear hi)
     refine hK.out _ _ ⟨(blk_cell BK183.out 0).trans rfl, (blk_cell BK183.out 1).trans rfl, (blk_cell BK183.out 2).trans rfl, (blk_cell BK183.out 3).trans rfl, (blk_cell BK160.out 0).trans rfl, (blk_cell BK160.out 1).trans rfl, (blk_cell BK160.out 2).trans rfl, (blk_cell BK160.out 3).trans rfl⟩ (fun hHeld => ?_)
     clear hK K
     refine norm_ (a' := ?_) ?_ ?_
     rotate_left
     ·show Act.put _ (some 38) _ = _
      simp only [Act.put, List.setIfInBounds_toArray, List.set_cons_zero, List.set_cons_succ, i64_w, i32_w]
      rfl
     refine pure_ (i := 4) (N := some 39) (v := ?_) (a' := ?_) #[true, true, true, true, true] rfl rfl (by kernel_rfl) (fun _ _ _ h => h) (Or.inl ⟨by rfl, ?_⟩) ?_ ?_
     rotate_left
     ·intro w'
      go_simp
      with_reducible rfl
     rotate_left
     ·simp only [Act.put, List.setIfInBounds_toArray, List.set_cons_zero, List.set_cons_succ, i64_w, i32_w]
      rfl
     refine done_ (by kernel_rfl) ?_
     try go_wp2
     go_ret
     exact ⟨by first | rfl | (simp [errW_none, errW_some] <;> rfl) | (simp [*, errW_none, errW_some] <;> rfl), by repeat (first | (with_reducible first | exact HB.out | apply below_alloc | apply rb4 | apply below_drew1 | refine below_set ?_ GE160.out | refine below_set ?_ GE161.out | refine below_set ?_ GE183.out | refine below_set ?_ GE190.out) | exact HB.out)⟩
   ·rw [if_neg c25] at H
    have c25b0 : (t191 == t176) = false := beq_eq_false_iff_ne.mpr c25
    have c25b1 : (t191 != t176) = true := bne_iff_ne.mpr c25
    obtain rfl := Option.some.inj H
    go_enter Try.func3, Try.ntmps3
    try go_wp2_with (first | ((with_reducible refine gate_dst (N := 2) rfl ?_); refine box_event ?hg (N := 2) ?hd (cs := #[.int .i64 a0_0, .int .i64 a0_1, .float .f64 a0_2, .slice A0_3 l0_3.length c0_3]) (t := 25) ?hr ?_; (case hd => rfl); (case hg => rfl); (case hr => first | (go_simp; done) | (go_simp; rfl)); intro gb160 hg w142 hbox hb; have n0_ := Aside0.mk (below_step (by repeat (first | (with_reducible first | exact HB.out | apply below_alloc | apply rb4 | apply below_drew1) | exact HB.out)) hb); have n1_ := Aside0.mk (hbox); have n2_ := Aside0.mk ((by rw [hg]; exact (below_size (by repeat (first | (with_reducible first | exact HB.out | apply below_alloc | apply rb4 | apply below_drew1) | exact HB.out))) : w.heap.size ≤ gb160)); have n3_ := Aside0.mk ((by rw [hg]; exact (below_size (by repeat (first | (with_reducible first | exact HB.out | apply below_alloc | apply rb4 | apply below_drew1) | exact HB.out))) : w.heap.size ≤ gb160)); clear HB; have HB := n0_; have BK160 := n1_; have GW160 := n2_; have GE160 := n3_; clear n0_ n1_ n2_ n3_; clear hb hbox hg) | ((with_reducible refine gate_dst (N := 3) rfl ?_); refine box_event ?hg (N := 3) ?hd (cs := #[.int .i64 a1_0, .int .i64 a1_1, .float .f64 a1_2, .slice A1_3 l1_3.length c1_3]) (t := 25) ?hr ?_; (case hd => rfl); (case hg => rfl); (case hr => first | (go_simp; done) | (go_simp; rfl)); intro gb161 hg w143 hbox hb; have n0_ := Aside0.mk (blk_below (g := gb160) (o := .cells #[.int .i64 a0_0, .int .i64 a0_1, .float .f64 a0_2, .slice A0_3 l0_3.length c0_3] 25 (0, 0)) (by (with_reducible repeat (first | refine rb1 ?_ _ | refine rb2 ?_ | refine rb3 ?_ _)); exact BK160.out) hb); have n1_ := Aside0.mk (below_step (by repeat (first | (with_reducible first | exact HB.out | apply below_alloc | apply rb4 | apply below_drew1 | refine below_set ?_ GE160.out) | exact HB.out)) hb); have n2_ := Aside0.mk (hbox); have n3_ := Aside0.mk ((by rw [hg]; exact (below_size (by repeat (first | (with_reducible first | exact HB.out | apply below_alloc | apply rb4 | apply below_drew1 | refine below_set ?_ GE160.out) | exact HB.out))) : w.heap.size ≤ gb161)); have n4_ := Aside0.mk ((by rw [hg]; exact (below_size (by repeat (first | (with_reducible first | exact HB.out | apply below_alloc | apply rb4 | apply below_drew1 | refine below_set ?_ GE160.out) | exact HB.out))) : w.heap.size ≤ gb161)); have n5_ := Aside0.mk ((by rw [hg]; exact Nat.ne_of_lt (blk_lt (g := gb160) (o := .cells #[.int .i64 a0_0, .int .i64 a0_1, .float .f64 a0_2, .slice A0_3 l0_3.length c0_3] 25 (0, 0)) (by (with_reducible repeat (first | refine rb1 ?_ _ | refine rb2 ?_ | refine rb3 ?_ _)); exact BK160.out)) : gb160 ≠ gb161)); have n6_ := Aside0.mk ((by rw [hg]; exact Nat.ne_of_gt (blk_lt (g := gb160) (o := .cells #[.int .i64 a0_0, .int .i64 a0_1, .float .f64 a0_2, .slice A0_3 l0_3.length c0_3] 25 (0, 0)) (by (with_reducible repeat (first | refine rb1 ?_ _ | refine rb2 ?_ | refine rb3 ?_ _)); exact BK160.out)) : gb161 ≠ gb160)); clear BK160; clear HB; have BK160 := n0_; have HB := n1_; have BK161 := n2_; have GW161 := n3_; have GE161 := n4_; have NB160_161 := n5_; have NB161_160 := n6_; clear n0_ n1_ n2_ n3_ n4_ n5_ n6_; clear hb hbox hg; have hnb144 := NB160_161.out; have hnc144 := NB161_160.out; have hcz145_0 : w143.cell? ⟨gb160, 0, none⟩ = some (.int .i64 a0_0) := (blk_cell BK160.out 0).trans rfl; have hcz145_1 : w143.cell? ⟨gb160, 1, none⟩ = some (.int .i64 a0_1) := (blk_cell BK160.out 1).trans rfl; have hcz145_2 : w143.cell? ⟨gb160, 2, none⟩ = some (.float .f64 a0_2) := (blk_cell BK160.out 2).trans rfl; have hcz145_3 : w143.cell? ⟨gb160, 3, none⟩ = some (.slice A0_3 l0_3.length c0_3) := (blk_cell BK160.out 3).trans rfl; have hfz145_0 := blk_frozen BK160.out 0; have hfz145_1 := blk_frozen BK160.out 1; have hfz145_2 := blk_frozen BK160.out 2; have hfz145_3 := blk_frozen BK160.out 3) | ((with_reducible refine gate_callee (f := 8) rfl ?_); refine goesL_ (some 12) rfl rfl Try.func8 (by kernel_rfl) rfl #[.agg #[.int .i64 a0_0, .int .i64 a0_1, .float .f64 a0_2, .slice A0_3 l0_3.length c0_3], .int .i64 1048576] rfl (by (try simp only [List.map_toArray, List.map_cons, List.map_nil]); first | done | rfl | (simp only [List.length_drop, List.length_take]; rfl)) ?_; (with_reducible refine (laws_szItem.calls a0_0 a0_1 a0_2 _ _ l0_3 1048576 t162 _ ?side1 ?side2 A3.out).mono ?_); (case side1 => repeat (first | exact (Kd.C_below HR0_3.out HB.out) | (with_reducible refine ra6 ?_ _) | (with_reducible refine ra7 ?_ _) | (with_reducible refine ra8 ?_))); (case side2 => exact HC0_3.out); rintro e w146 ⟨rfl, hb⟩; refine ⟨_, rfl, ?_⟩; have n0_ := Aside0.mk (blk_below (g := gb160) (o := .cells #[.int .i64 a0_0, .int .i64 a0_1, .float .f64 a0_2, .slice A0_3 l0_3.length c0_3] 25 (0, 0)) (by (with_reducible repeat (first | refine rb1 ?_ _ | refine rb2 ?_ | refine rb3 ?_ _)); exact BK160.out) hb); have n1_ := Aside0.mk (blk_below (g := gb161) (o := .cells #[.int .i64 a1_0, .int .i64 a1_1, .float .f64 a1_2, .slice A1_3 l1_3.length c1_3] 25 (0, 0)) (by (with_reducible repeat (first | refine rb1 ?_ _ | refine rb2 ?_ | refine rb3 ?_ _)); exact BK161.out) hb); have n2_ := Aside0.mk (below_step (by repeat (first | (with_reducible first | exact HB.out | apply below_alloc | apply rb4 | apply below_drew1 | refine below_set ?_ GE160.out | refine below_set ?_ GE161.out) | exact HB.out)) hb); clear BK160; clear BK161; clear HB; have BK160 := n0_; have BK161 := n1_; have HB := n2_; clear n0_ n1_ n2_; (try clear hb); (try clear hb2); (try clear hk); (try clear hi); have hcz147_0 : w146.cell? ⟨gb161, 0, none⟩ = some (.int .i64 a1_0) := (blk_cell BK161.out 0).trans rfl; have hcz147_1 : w146.cell? ⟨gb161, 1, none⟩ = some (.int .i64 a1_1) := (blk_cell BK161.out 1).trans rfl; have hcz147_2 : w146.cell? ⟨gb161, 2, none⟩ = some (.float .f64 a1_2) := (blk_cell BK161.out 2).trans rfl; have hcz147_3 : w146.cell? ⟨gb161, 3, none⟩ = some (.slice A1_3 l1_3.length c1_3) := (blk_cell BK161.out 3).trans rfl; have hfz147_0 := blk_frozen BK161.out 0; have hfz147_1 := blk_frozen BK161.out 1; have hfz147_2 := blk_frozen BK161.out 2; have hfz147_3 := blk_frozen BK161.out 3) | ((with_reducible refine gate_callee (f := 8) rfl ?_); refine goesL_ (some 17) rfl rfl Try.func8 (by kernel_rfl) rfl #[.agg #[.int .i64 a1_0, .int .i64 a1_1, .float .f64 a1_2, .slice A1_3 l1_3.length c1_3], .int .i64 t162] rfl (by (try simp only [List.map_toArray, List.map_cons, List.map_nil]); first | done | rfl | (simp only [List.length_drop, List.length_take]; rfl)) ?_; (with_reducible refine (laws_szItem.calls a1_0 a1_1 a1_2 _ _ l1_3 t162 t163 _ ?side1 ?side2 A10.out).mono ?_); (case side1 => repeat (first | exact (Kd.C_below HR1_3.out HB.out) | (with_reducible refine ra6 ?_ _) | (with_reducible refine ra7 ?_ _) | (with_reducible refine ra8 ?_))); (case side2 => exact HC1_3.out); rintro e w148 ⟨rfl, hb⟩; refine ⟨_, rfl, ?_⟩; have n0_ := Aside0.mk (blk_below (g := gb160) (o := .cells #[.int .i64 a0_0, .int .i64 a0_1, .float .f64 a0_2, .slice A0_3 l0_3.length c0_3] 25 (0, 0)) (by (with_reducible repeat (first | refine rb1 ?_ _ | refine rb2 ?_ | refine rb3 ?_ _)); exact BK160.out) hb); have n1_ := Aside0.mk (blk_below (g := gb161) (o := .cells #[.int .i64 a1_0, .int .i64 a1_1, .float .f64 a1_2, .slice A1_3 l1_3.length c1_3] 25 (0, 0)) (by (with_reducible repeat (first | refine rb1 ?_ _ | refine rb2 ?_ | refine rb3 ?_ _)); exact BK161.out) hb); have n2_ := Aside0.mk (below_step (by repeat (first | (with_reducible first | exact HB.out | apply below_alloc | apply rb4 | apply below_drew1 | refine below_set ?_ GE160.out | refine below_set ?_ GE161.out) | exact HB.out)) hb); clear BK160; clear BK161; clear HB; have BK160 := n0_; have BK161 := n1_; have HB := n2_; clear n0_ n1_ n2_; (try clear hb); (try clear hb2); (try clear hk); (try clear hi)))
    have n0_ := Aside0.mk (rb2 BK160.out)
    have n1_ := Aside0.mk (rb2 BK161.out)
    have n2_ := Aside0.mk (below_drew1 HB.out)
    clear BK160
    clear BK161
    clear HB
    have BK160 := n0_
    have BK161 := n1_
    have HB := n2_
    clear n0_ n1_ n2_
    refine start_ (n := 6) (S := fun w' => w'.cell? ⟨gb160, 0, none⟩ = some (.int .i64 a0_0) ∧ w'.cell? ⟨gb160, 1, none⟩ = some (.int .i64 a0_1) ∧ w'.cell? ⟨gb160, 2, none⟩ = some (.float .f64 a0_2) ∧ w'.cell? ⟨gb160, 3, none⟩ = some (.slice A0_3 l0_3.length c0_3) ∧ w'.cell? ⟨gb161, 0, none⟩ = some (.int .i64 a1_0) ∧ w'.cell? ⟨gb161, 1, none⟩ = some (.int .i64 a1_1) ∧ w'.cell? ⟨gb161, 2, none⟩ = some (.float .f64 a1_2) ∧ w'.cell? ⟨gb161, 3, none⟩ = some (.slice A1_3 l1_3.length c1_3)) (ds := []) #[false, false, false, false, false, false] (by kernel_rfl) rfl rfl ⟨(blk_cell BK160.out 0).trans rfl, (blk_cell BK160.out 1).trans rfl, (blk_cell BK160.out 2).trans rfl, (blk_cell BK160.out 3).trans rfl, (blk_cell BK161.out 0).trans rfl, (blk_cell BK161.out 1).trans rfl, (blk_cell BK161.out 2).trans rfl, (blk_cell BK161.out 3).trans rfl⟩ (fun hHeld => ?_)
    generalize w148.drew = w149 at BK160 BK161 HB hHeld ⊢
    refine take_ (i := 0) (N := some 20) (v := ?_) (a' := ?_) #[true, false, false, false, false, false] rfl rfl (by kernel_rfl) (fun _ _ _ h => h) (Or.inl ⟨by rfl, ?_⟩) hHeld ?_ ?_
    rotate_left
    ·rintro w' ⟨s0, s1, s2, s3, s4, s5, s6, s7⟩
     go_simp
     with_reducible rfl
    rotate_left
    ·simp only [Act.put, List.setIfInBounds_toArray, List.set_cons_zero, List.set_cons_succ, i64_w, i32_w]
     rfl
    refine take_ (i := 2) (N := some 22) (v := ?_) (a' := ?_) #[true, false, true, false, false, false] rfl rfl (by kernel_rfl) (fun _ _ _ h => h) (Or.inl ⟨by rfl, ?_⟩) hHeld ?_ ?_
    rotate_left
    ·rintro w' ⟨s0, s1, s2, s3, s4, s5, s6, s7⟩
     go_simp
     with_reducible rfl
    rotate_left
    ·simp only [Act.put, List.setIfInBounds_toArray, List.set_cons_zero, List.set_cons_succ, i64_w, i32_w]
     rfl
    refine one_ (i := 1) (N := some 21) #[true, true, true, false, false, false] rfl rfl (by kernel_rfl) (by decide) (fun K hK => ?_)
    refine goes_ Try.func10 (by kernel_rfl) rfl #[.agg #[.int .i64 a0_0, .int .i64 a0_1, .float .f64 a0_2, .slice A0_3 l0_3.length c0_3]] (by rfl) rfl rfl (by (try simp only [List.map_toArray, List.map_cons, List.map_nil]); first | done | rfl | (simp only [List.length_drop, List.length_take]; rfl)) ?_
    with_reducible refine (laws_toItem.calls k a0_0 a0_1 a0_2 _ _ l0_3 t164 t165 t166 t167 _ ?side1 ?side2 A19.out).mono ?_
    (case side1 => repeat (first | exact (Kd.C_below HR0_3.out HB.out) | (with_reducible refine ra6 ?_ _) | (with_reducible refine ra7 ?_ _) | (with_reducible refine ra8 ?_)))
    (case side2 => exact HC0_3.out)
    rintro e w150 ⟨v168, rfl, ho0, hb⟩
    refine ⟨_, rfl, ?_⟩
    have n0_ := Aside0.mk (Kd.R_lower ho0 (below_size (by repeat (first | (with_reducible first | exact HB.out | apply below_alloc | apply rb4 | apply below_drew1 | refine below_set ?_ GE160.out | refine below_set ?_ GE161.out) | exact HB.out))))
    have n1_ := Aside0.mk (blk_below (g := gb160) (o := .cells #[.int .i64 a0_0, .int .i64 a0_1, .float .f64 a0_2, .slice A0_3 l0_3.length c0_3] 25 (0, 0)) (by (with_reducible repeat (first | refine rb1 ?_ _ | refine rb2 ?_ | refine rb3 ?_ _)); exact BK160.out) hb)
    have n2_ := Aside0.mk (blk_below (g := gb161) (o := .cells #[.int .i64 a1_0, .int .i64 a1_1, .float .f64 a1_2, .slice A1_3 l1_3.length c1_3] 25 (0, 0)) (by (with_reducible repeat (first | refine rb1 ?_ _ | refine rb2 ?_ | refine rb3 ?_ _)); exact BK161.out) hb)
    have n3_ := Aside0.mk (below_step (by repeat (first | (with_reducible first | exact HB.out | apply below_alloc | apply rb4 | apply below_drew1 | refine below_set ?_ GE160.out | refine below_set ?_ GE161.out) | exact HB.out)) hb)
    clear BK160
    clear BK161
    clear HB
    have HO169 := n0_
    have BK160 := n1_
    have BK161 := n2_
    have HB := n3_
    clear n0_ n1_ n2_ n3_
    (try clear hb)
    (try clear hb2)
    (try clear hk)
    (try clear hi)
    (try clear ho0)
    refine hK.out _ _ ⟨(blk_cell BK160.out 0).trans rfl, (blk_cell BK160.out 1).trans rfl, (blk_cell BK160.out 2).trans rfl, (blk_cell BK160.out 3).trans rfl, (blk_cell BK161.out 0).trans rfl, (blk_cell BK161.out 1).trans rfl, (blk_cell BK161.out 2).trans rfl, (blk_cell BK161.out 3).trans rfl⟩ (fun hHeld => ?_)
    clear hK K
    refine norm_ (a' := ?_) ?_ ?_
    rotate_left
    ·show Act.put _ (some 21) _ = _
     simp only [Act.put, List.setIfInBounds_toArray, List.set_cons_zero, List.set_cons_succ, i64_w, i32_w]
     rfl
    refine one_ (i := 3) (N := some 23) #[true, true, true, true, false, false] rfl rfl (by kernel_rfl) (by decide) (fun K hK => ?_)
    refine goes_ Try.func10 (by kernel_rfl) rfl #[.agg #[.int .i64 a1_0, .int .i64 a1_1, .float .f64 a1_2, .slice A1_3 l1_3.length c1_3]] (by rfl) rfl rfl (by (try simp only [List.map_toArray, List.map_cons, List.map_nil]); first | done | rfl | (simp only [List.length_drop, List.length_take]; rfl)) ?_
    with_reducible refine (laws_toItem.calls k a1_0 a1_1 a1_2 _ _ l1_3 t170 t171 t172 t173 _ ?side1 ?side2 A20.out).mono ?_
    (case side1 => repeat (first | exact (Kd.C_below HR1_3.out HB.out) | (with_reducible refine ra6 ?_ _) | (with_reducible refine ra7 ?_ _) | (with_reducible refine ra8 ?_)))
    (case side2 => exact HC1_3.out)
    rintro e w151 ⟨v174, rfl, ho0, hb⟩
    refine ⟨_, rfl, ?_⟩
    have n0_ := Aside0.mk (ra4 (by (with_reducible repeat (first | apply ra1 | apply ra2 | apply ra3)); exact HO169.out) (Kd.R_base ho0) hb)
    have n1_ := Aside0.mk (Kd.R_lower (Kd.R_new' ho0 (Kd.R_lt (by (with_reducible repeat (first | apply ra1 | apply ra2 | apply ra3)); exact HO169.out))) (below_size (by repeat (first | (with_reducible first | exact HB.out | apply below_alloc | apply rb4 | apply below_drew1 | refine below_set ?_ GE160.out | refine below_set ?_ GE161.out) | exact HB.out))))
    have n2_ := Aside0.mk (blk_below (g := gb160) (o := .cells #[.int .i64 a0_0, .int .i64 a0_1, .float .f64 a0_2, .slice A0_3 l0_3.length c0_3] 25 (0, 0)) (by (with_reducible repeat (first | refine rb1 ?_ _ | refine rb2 ?_ | refine rb3 ?_ _)); exact BK160.out) hb)
    have n3_ := Aside0.mk (blk_below (g := gb161) (o := .cells #[.int .i64 a1_0, .int .i64 a1_1, .float .f64 a1_2, .slice A1_3 l1_3.length c1_3] 25 (0, 0)) (by (with_reducible repeat (first | refine rb1 ?_ _ | refine rb2 ?_ | refine rb3 ?_ _)); exact BK161.out) hb)
    have n4_ := Aside0.mk (below_step (by repeat (first | (with_reducible first | exact HB.out | apply below_alloc | apply rb4 | apply below_drew1 | refine below_set ?_ GE160.out | refine below_set ?_ GE161.out) | exact HB.out)) hb)
    clear HO169
    clear BK160
    clear BK161
    clear HB
    have HO169 := n0_
    have HO175 := n1_
    have BK160 := n2_
    have BK161 := n3_
    have HB := n4_
    clear n0_ n1_ n2_ n3_ n4_
    (try clear hb)
    (try clear hb2)
    (try clear hk)
    (try clear hi)
    (try clear ho0)
    obtain ⟨Ao152, co152, eo152⟩ := Kd.R_slice HO169.out
    (first | subst eo152 | (injection eo152 with f1_ f2_ f3_; have f4_ := f1_.symm; have f5_ := f3_.symm; clear f1_ f2_ f3_; subst f4_; subst f5_))
    obtain ⟨Ao153, co153, eo153⟩ := Kd.R_slice HO175.out
    (first | subst eo153 | (injection eo153 with f1_ f2_ f3_; have f4_ := f1_.symm; have f5_ := f3_.symm; clear f1_ f2_ f3_; subst f4_; subst f5_))
    refine hK.out _ _ ⟨(blk_cell BK160.out 0).trans rfl, (blk_cell BK160.out 1).trans rfl, (blk_cell BK160.out 2).trans rfl, (blk_cell BK160.out 3).trans rfl, (blk_cell BK161.out 0).trans rfl, (blk_cell BK161.out 1).trans rfl, (blk_cell BK161.out 2).trans rfl, (blk_cell BK161.out 3).trans rfl⟩ (fun hHeld => ?_)
    clear hK K
    refine norm_ (a' := ?_) ?_ ?_
    rotate_left
    ·show Act.put _ (some 23) _ = _
     simp only [Act.put, List.setIfInBounds_toArray, List.set_cons_zero, List.set_cons_succ, i64_w, i32_w]
     rfl
    refine one_ (i := 4) (N := some 24) #[true, true, true, true, true, false] rfl rfl (by kernel_rfl) (by decide) (fun K hK => ?_)
    refine goes_ Try.func9 (by kernel_rfl) rfl #[.agg #[.int .i64 t164, .int .i64 t165, .float .f64 t166, .slice Ao152 t167.length co152], .agg #[.int .i64 t170, .int .i64 t171, .float .f64 t172, .slice Ao153 t173.length co153]] (by rfl) rfl rfl (by (try simp only [List.map_toArray, List.map_cons, List.map_nil]); first | done | rfl | (simp only [List.length_drop, List.length_take]; rfl)) ?_
    with_reducible refine (spec_ItemCompare.calls k t164 t165 t166 _ _ t167 t170 t171 t172 _ _ t173 t176 _ ?side1 ?side2 ?side3 ?side4 A21.out).mono ?_
    (case side1 => repeat (first | exact (ra9 HO169.out).2.2 | (with_reducible refine ra6 ?_ _) | (with_reducible refine ra7 ?_ _) | (with_reducible refine ra8 ?_)))
    (case side2 => exact (ra9 HO169.out).2.1)
    (case side3 => repeat (first | exact (ra9 HO175.out).2.2 | (with_reducible refine ra6 ?_ _) | (with_reducible refine ra7 ?_ _) | (with_reducible refine ra8 ?_)))
    (case side4 => exact (ra9 HO175.out).2.1)
    rintro e w154 ⟨rfl, hb⟩
    refine ⟨_, rfl, ?_⟩
    have n0_ := Aside0.mk (ra5 (by (with_reducible repeat (first | apply ra1 | apply ra2 | apply ra3)); exact HO169.out) hb)
    have n1_ := Aside0.mk (ra5 (by (with_reducible repeat (first | apply ra1 | apply ra2 | apply ra3)); exact HO175.out) hb)
    have n2_ := Aside0.mk (blk_below (g := gb160) (o := .cells #[.int .i64 a0_0, .int .i64 a0_1, .float .f64 a0_2, .slice A0_3 l0_3.length c0_3] 25 (0, 0)) (by (with_reducible repeat (first | refine rb1 ?_ _ | refine rb2 ?_ | refine rb3 ?_ _)); exact BK160.out) hb)
    have n3_ := Aside0.mk (blk_below (g := gb161) (o := .cells #[.int .i64 a1_0, .int .i64 a1_1, .float .f64 a1_2, .slice A1_3 l1_3.length c1_3] 25 (0, 0)) (by (with_reducible repeat (first | refine rb1 ?_ _ | refine rb2 ?_ | refine rb3 ?_ _)); exact BK161.out) hb)
    have n4_ := Aside0.mk (below_step (by repeat (first | (with_reducible first | exact HB.out | apply below_alloc | apply rb4 | apply below_drew1 | refine below_set ?_ GE160.out | refine below_set ?_ GE161.out) | exact HB.out)) hb)
    clear HO169
    clear HO175
    clear BK160
    clear BK161
    clear HB
    have HO169 := n0_
    have HO175 := n1_
    have BK160 := n2_
    have BK161 := n3_
    have HB := n4_
    clear n0_ n1_ n2_ n3_ n4_
    (try clear hb)
    (try clear hb2)
    (try clear hk)
    (try clear hi)
    refine hK.out _ _ ⟨(blk_cell BK160.out 0).trans rfl, (blk_cell BK160.out 1).trans rfl, (blk_cell BK160.out 2).trans rfl, (blk_cell BK160.out 3).trans rfl, (blk_cell BK161.out 0).trans rfl, (blk_cell BK161.out 1).trans rfl, (blk_cell BK161.out 2).trans rfl, (blk_cell BK161.out 3).trans rfl⟩ (fun hHeld => ?_)
    clear hK K
    refine norm_ (a' := ?_) ?_ ?_
    rotate_left
    ·show Act.put _ (some 24) _ = _
     simp only [Act.put, List.setIfInBounds_toArray, List.set_cons_zero, List.set_cons_succ, i64_w, i32_w]
     rfl
    refine pure_ (i := 5) (N := some 6) (v := ?_) (a' := ?_) #[true, true, true, true, true, true] rfl rfl (by kernel_rfl) (fun _ _ _ h => h) (Or.inl ⟨by rfl, ?_⟩) ?_ ?_
    rotate_left
    ·intro w'
     go_simp
     with_reducible rfl
    rotate_left
    ·simp only [Act.put, List.setIfInBounds_toArray, List.set_cons_zero, List.set_cons_succ, i64_w, i32_w]
     rfl
    refine done_ (by kernel_rfl) ?_
    have hcz155_0 : w154.cell? ⟨gb160, 0, none⟩ = some (.int .i64 a0_0) := (blk_cell BK160.out 0).trans rfl
    have hcz155_1 : w154.cell? ⟨gb160, 1, none⟩ = some (.int .i64 a0_1) := (blk_cell BK160.out 1).trans rfl
    have hcz155_2 : w154.cell? ⟨gb160, 2, none⟩ = some (.float .f64 a0_2) := (blk_cell BK160.out 2).trans rfl
    have hcz155_3 : w154.cell? ⟨gb160, 3, none⟩ = some (.slice A0_3 l0_3.length c0_3) := (blk_cell BK160.out 3).trans rfl
    have hfz155_0 := blk_frozen BK160.out 0
    have hfz155_1 := blk_frozen BK160.out 1
    have hfz155_2 := blk_frozen BK160.out 2
    have hfz155_3 := blk_frozen BK160.out 3
    try go_wp2_with (first | ((with_reducible refine gate_callee (f := 10) rfl ?_); refine goesL_ (some 26) rfl rfl Try.func10 (by kernel_rfl) rfl #[.agg #[.int .i64 a0_0, .int .i64 a0_1, .float .f64 a0_2, .slice A0_3 l0_3.length c0_3]] rfl (by (try simp only [List.map_toArray, List.map_cons, List.map_nil]); first | done | rfl | (simp only [List.length_drop, List.length_take]; rfl)) ?_; (with_reducible refine (laws_toItem.calls k a0_0 a0_1 a0_2 _ _ l0_3 t177 t178 t179 t180 _ ?side1 ?side2 A22.out).mono ?_); (case side1 => repeat (first | exact (Kd.C_below HR0_3.out HB.out) | (with_reducible refine ra6 ?_ _) | (with_reducible refine ra7 ?_ _) | (with_reducible refine ra8 ?_))); (case side2 => exact HC0_3.out); rintro e w156 ⟨v181, rfl, ho0, hb⟩; refine ⟨_, rfl, ?_⟩; have n0_ := Aside0.mk (ra4 (by (with_reducible repeat (first | apply ra1 | apply ra2 | apply ra3)); exact HO169.out) (Kd.R_base ho0) hb); have n1_ := Aside0.mk (ra4 (by (with_reducible repeat (first | apply ra1 | apply ra2 | apply ra3)); exact HO175.out) (Kd.R_base ho0) hb); have n2_ := Aside0.mk (Kd.R_lower (Kd.R_new' (Kd.R_new' ho0 (Kd.R_lt (by (with_reducible repeat (first | apply ra1 | apply ra2 | apply ra3)); exact HO169.out))) (Kd.R_lt (by (with_reducible repeat (first | apply ra1 | apply ra2 | apply ra3)); exact HO175.out))) (below_size (by repeat (first | (with_reducible first | exact HB.out | apply below_alloc | apply rb4 | apply below_drew1 | refine below_set ?_ GE160.out | refine below_set ?_ GE161.out) | exact HB.out)))); have n3_ := Aside0.mk (blk_below (g := gb160) (o := .cells #[.int .i64 a0_0, .int .i64 a0_1, .float .f64 a0_2, .slice A0_3 l0_3.length c0_3] 25 (0, 0)) (by (with_reducible repeat (first | refine rb1 ?_ _ | refine rb2 ?_ | refine rb3 ?_ _)); exact BK160.out) hb); have n4_ := Aside0.mk (blk_below (g := gb161) (o := .cells #[.int .i64 a1_0, .int .i64 a1_1, .float .f64 a1_2, .slice A1_3 l1_3.length c1_3] 25 (0, 0)) (by (with_reducible repeat (first | refine rb1 ?_ _ | refine rb2 ?_ | refine rb3 ?_ _)); exact BK161.out) hb); have n5_ := Aside0.mk (below_step (by repeat (first | (with_reducible first | exact HB.out | apply below_alloc | apply rb4 | apply below_drew1 | refine below_set ?_ GE160.out | refine below_set ?_ GE161.out) | exact HB.out)) hb); clear HO169; clear HO175; clear BK160; clear BK161; clear HB; have HO169 := n0_; have HO175 := n1_; have HO182 := n2_; have BK160 := n3_; have BK161 := n4_; have HB := n5_; clear n0_ n1_ n2_ n3_ n4_ n5_; (try clear hb); (try clear hb2); (try clear hk); (try clear hi); (try clear ho0)) | ((with_reducible refine gate_dst (N := 7) rfl ?_); refine box_event ?hg (N := 7) ?hd (cs := #[.int .i64 0, .int .i64 0, .float .f64 0, .slice none 0 0]) (t := 28) ?hr ?_; (case hd => rfl); (case hg => rfl); (case hr => first | (go_simp; done) | (go_simp; rfl)); intro gb183 hg w157 hbox hb; have n0_ := Aside0.mk (ra5 (by (with_reducible repeat (first | apply ra1 | apply ra2 | apply ra3)); exact HO169.out) hb); have n1_ := Aside0.mk (ra5 (by (with_reducible repeat (first | apply ra1 | apply ra2 | apply ra3)); exact HO175.out) hb); have n2_ := Aside0.mk (ra5 (by (with_reducible repeat (first | apply ra1 | apply ra2 | apply ra3)); exact HO182.out) hb); have n3_ := Aside0.mk (blk_below (g := gb160) (o := .cells #[.int .i64 a0_0, .int .i64 a0_1, .float .f64 a0_2, .slice A0_3 l0_3.length c0_3] 25 (0, 0)) (by (with_reducible repeat (first | refine rb1 ?_ _ | refine rb2 ?_ | refine rb3 ?_ _)); exact BK160.out) hb); have n4_ := Aside0.mk (blk_below (g := gb161) (o := .cells #[.int .i64 a1_0, .int .i64 a1_1, .float .f64 a1_2, .slice A1_3 l1_3.length c1_3] 25 (0, 0)) (by (with_reducible repeat (first | refine rb1 ?_ _ | refine rb2 ?_ | refine rb3 ?_ _)); exact BK161.out) hb); have n5_ := Aside0.mk (below_step (by repeat (first | (with_reducible first | exact HB.out | apply below_alloc | apply rb4 | apply below_drew1 | refine below_set ?_ GE160.out | refine below_set ?_ GE161.out) | exact HB.out)) hb); have n6_ := Aside0.mk (hbox); have n7_ := Aside0.mk ((by rw [hg]; exact (below_size (by repeat (first | (with_reducible first | exact HB.out | apply below_alloc | apply rb4 | apply below_drew1 | refine below_set ?_ GE160.out | refine below_set ?_ GE161.out) | exact HB.out))) : w.heap.size ≤ gb183)); have n8_ := Aside0.mk ((by rw [hg]; exact (below_size (by repeat (first | (with_reducible first | exact HB.out | apply below_alloc | apply rb4 | apply below_drew1 | refine below_set ?_ GE160.out | refine below_set ?_ GE161.out) | exact HB.out))) : w.heap.size ≤ gb183)); have n9_ := Aside0.mk ((by rw [hg]; exact Nat.ne_of_lt (blk_lt (g := gb160) (o := .cells #[.int .i64 a0_0, .int .i64 a0_1, .float .f64 a0_2, .slice A0_3 l0_3.length c0_3] 25 (0, 0)) (by (with_reducible repeat (first | refine rb1 ?_ _ | refine rb2 ?_ | refine rb3 ?_ _)); exact BK160.out)) : gb160 ≠ gb183)); have n10_ := Aside0.mk ((by rw [hg]; exact Nat.ne_of_gt (blk_lt (g := gb160) (o := .cells #[.int .i64 a0_0, .int .i64 a0_1, .float .f64 a0_2, .slice A0_3 l0_3.length c0_3] 25 (0, 0)) (by (with_reducible repeat (first | refine rb1 ?_ _ | refine rb2 ?_ | refine rb3 ?_ _)); exact BK160.out)) : gb183 ≠ gb160)); have n11_ := Aside0.mk ((by rw [hg]; exact Nat.ne_of_lt (blk_lt (g := gb161) (o := .cells #[.int .i64 a1_0, .int .i64 a1_1, .float .f64 a1_2, .slice A1_3 l1_3.length c1_3] 25 (0, 0)) (by (with_reducible repeat (first | refine rb1 ?_ _ | refine rb2 ?_ | refine rb3 ?_ _)); exact BK161.out)) : gb161 ≠ gb183)); have n12_ := Aside0.mk ((by rw [hg]; exact Nat.ne_of_gt (blk_lt (g := gb161) (o := .cells #[.int .i64 a1_0, .int .i64 a1_1, .float .f64 a1_2, .slice A1_3 l1_3.length c1_3] 25 (0, 0)) (by (with_reducible repeat (first | refine rb1 ?_ _ | refine rb2 ?_ | refine rb3 ?_ _)); exact BK161.out)) : gb183 ≠ gb161)); clear HO169; clear HO175; clear HO182; clear BK160; clear BK161; clear HB; have HO169 := n0_; have HO175 := n1_; have HO182 := n2_; have BK160 := n3_; have BK161 := n4_; have HB := n5_; have BK183 := n6_; have GW183 := n7_; have GE183 := n8_; have NB160_183 := n9_; have NB183_160 := n10_; have NB161_183 := n11_; have NB183_161 := n12_; clear n0_ n1_ n2_ n3_ n4_ n5_ n6_ n7_ n8_ n9_ n10_ n11_ n12_; clear hb hbox hg; have hnb158 := NB183_160.out; have hnc158 := NB160_183.out; have hnb159 := NB183_161.out; have hnc159 := NB161_183.out; have hcz160_0 : w157.cell? ⟨gb183, 0, none⟩ = some (.int .i64 0) := (blk_cell BK183.out 0).trans rfl; have hcz160_1 : w157.cell? ⟨gb183, 1, none⟩ = some (.int .i64 0) := (blk_cell BK183.out 1).trans rfl; have hcz160_2 : w157.cell? ⟨gb183, 2, none⟩ = some (.float .f64 0) := (blk_cell BK183.out 2).trans rfl; have hcz160_3 : w157.cell? ⟨gb183, 3, none⟩ = some (.slice none 0 0) := (blk_cell BK183.out 3).trans rfl; have hfz160_0 := blk_frozen BK183.out 0; have hfz160_1 := blk_frozen BK183.out 1; have hfz160_2 := blk_frozen BK183.out 2; have hfz160_3 := blk_frozen BK183.out 3; obtain ⟨Ao161, co161, eo161⟩ := Kd.R_slice HO182.out; subst eo161; have hcz162_0 : w157.cell? ⟨gb161, 0, none⟩ = some (.int .i64 a1_0) := (blk_cell BK161.out 0).trans rfl; have hcz162_1 : w157.cell? ⟨gb161, 1, none⟩ = some (.int .i64 a1_1) := (blk_cell BK161.out 1).trans rfl; have hcz162_2 : w157.cell? ⟨gb161, 2, none⟩ = some (.float .f64 a1_2) := (blk_cell BK161.out 2).trans rfl; have hcz162_3 : w157.cell? ⟨gb161, 3, none⟩ = some (.slice A1_3 l1_3.length c1_3) := (blk_cell BK161.out 3).trans rfl; have hfz162_0 := blk_frozen BK161.out 0; have hfz162_1 := blk_frozen BK161.out 1; have hfz162_2 := blk_frozen BK161.out 2; have hfz162_3 := blk_frozen BK161.out 3) | ((with_reducible refine gate_callee (f := 10) rfl ?_); refine goesL_ (some 28) rfl rfl Try.func10 (by kernel_rfl) rfl #[.agg #[.int .i64 a1_0, .int .i64 a1_1, .float .f64 a1_2, .slice A1_3 l1_3.length c1_3]] rfl (by (try simp only [List.map_toArray, List.map_cons, List.map_nil]); first | done | rfl | (simp only [List.length_drop, List.length_take]; rfl)) ?_; (with_reducible refine (laws_toItem.calls k a1_0 a1_1 a1_2 _ _ l1_3 t184 t185 t186 t187 _ ?side1 ?side2 A23.out).mono ?_); (case side1 => exact Kd.C_below HR1_3.out (by repeat (first | (with_reducible first | exact HB.out | apply below_alloc | apply rb4 | apply below_drew1 | refine below_set ?_ GE160.out | refine below_set ?_ GE161.out | refine below_set ?_ GE183.out) | exact HB.out))); (case side2 => exact HC1_3.out); rintro e w163 ⟨v188, rfl, ho0, hb⟩; refine ⟨_, rfl, ?_⟩; have n0_ := Aside0.mk (ra4 (by (with_reducible repeat (first | apply ra1 | apply ra2 | apply ra3)); exact (Kd.R_mono (Kd.R_far (p := ⟨gb183, 3, none⟩) (Kd.R_far (p := ⟨gb183, 2, none⟩) (Kd.R_far (p := ⟨gb183, 1, none⟩) (Kd.R_far (p := ⟨gb183, 0, none⟩) (Kd.R_types HO169.out BK183.out (by decide)) (fun _ hk => hk.2) (.int .i64 t177)) (fun _ hk => hk.2) (.int .i64 t178)) (fun _ hk => hk.2) (.float .f64 t179)) (fun _ hk => hk.2) (.slice Ao161 t180.length co161)) (fun _ h_ => h_.1))) (Kd.R_base ho0) hb); have n1_ := Aside0.mk (ra4 (by (with_reducible repeat (first | apply ra1 | apply ra2 | apply ra3)); exact (Kd.R_mono (Kd.R_far (p := ⟨gb183, 3, none⟩) (Kd.R_far (p := ⟨gb183, 2, none⟩) (Kd.R_far (p := ⟨gb183, 1, none⟩) (Kd.R_far (p := ⟨gb183, 0, none⟩) (Kd.R_types HO175.out BK183.out (by decide)) (fun _ hk => hk.2) (.int .i64 t177)) (fun _ hk => hk.2) (.int .i64 t178)) (fun _ hk => hk.2) (.float .f64 t179)) (fun _ hk => hk.2) (.slice Ao161 t180.length co161)) (fun _ h_ => h_.1))) (Kd.R_base ho0) hb); have n2_ := Aside0.mk (ra4 (by (with_reducible repeat (first | apply ra1 | apply ra2 | apply ra3)); exact (Kd.R_mono (Kd.R_far (p := ⟨gb183, 3, none⟩) (Kd.R_far (p := ⟨gb183, 2, none⟩) (Kd.R_far (p := ⟨gb183, 1, none⟩) (Kd.R_far (p := ⟨gb183, 0, none⟩) (Kd.R_types HO182.out BK183.out (by decide)) (fun _ hk => hk.2) (.int .i64 t177)) (fun _ hk => hk.2) (.int .i64 t178)) (fun _ hk => hk.2) (.float .f64 t179)) (fun _ hk => hk.2) (.slice Ao161 t180.length co161)) (fun _ h_ => h_.1))) (Kd.R_base ho0) hb); have n3_ := Aside0.mk (Kd.R_lower (Kd.R_new' (Kd.R_new' (Kd.R_new' ho0 (Kd.R_lt (by (with_reducible repeat (first | apply ra1 | apply ra2 | apply ra3)); exact (Kd.R_mono (Kd.R_far (p := ⟨gb183, 3, none⟩) (Kd.R_far (p := ⟨gb183, 2, none⟩) (Kd.R_far (p := ⟨gb183, 1, none⟩) (Kd.R_far (p := ⟨gb183, 0, none⟩) (Kd.R_types HO169.out BK183.out (by decide)) (fun _ hk => hk.2) (.int .i64 t177)) (fun _ hk => hk.2) (.int .i64 t178)) (fun _ hk => hk.2) (.float .f64 t179)) (fun _ hk => hk.2) (.slice Ao161 t180.length co161)) (fun _ h_ => h_.1))))) (Kd.R_lt (by (with_reducible repeat (first | apply ra1 | apply ra2 | apply ra3)); exact (Kd.R_mono (Kd.R_far (p := ⟨gb183, 3, none⟩) (Kd.R_far (p := ⟨gb183, 2, none⟩) (Kd.R_far (p := ⟨gb183, 1, none⟩) (Kd.R_far (p := ⟨gb183, 0, none⟩) (Kd.R_types HO175.out BK183.out (by decide)) (fun _ hk => hk.2) (.int .i64 t177)) (fun _ hk => hk.2) (.int .i64 t178)) (fun _ hk => hk.2) (.float .f64 t179)) (fun _ hk => hk.2) (.slice Ao161 t180.length co161)) (fun _ h_ => h_.1))))) (Kd.R_lt (by (with_reducible repeat (first | apply ra1 | apply ra2 | apply ra3)); exact (Kd.R_mono (Kd.R_far (p := ⟨gb183, 3, none⟩) (Kd.R_far (p := ⟨gb183, 2, none⟩) (Kd.R_far (p := ⟨gb183, 1, none⟩) (Kd.R_far (p := ⟨gb183, 0, none⟩) (Kd.R_types HO182.out BK183.out (by decide)) (fun _ hk => hk.2) (.int .i64 t177)) (fun _ hk => hk.2) (.int .i64 t178)) (fun _ hk => hk.2) (.float .f64 t179)) (fun _ hk => hk.2) (.slice Ao161 t180.length co161)) (fun _ h_ => h_.1))))) (below_size (by repeat (first | (with_reducible first | exact HB.out | apply below_alloc | apply rb4 | apply below_drew1 | refine below_set ?_ GE160.out | refine below_set ?_ GE161.out | refine below_set ?_ GE183.out) | exact HB.out)))); have n4_ := Aside0.mk (blk_below (g := gb160) (o := .cells #[.int .i64 a0_0, .int .i64 a0_1, .float .f64 a0_2, .slice A0_3 l0_3.length c0_3] 25 (0, 0)) (by (with_reducible repeat (first | refine rb1 ?_ _ | refine rb2 ?_ | refine rb3 ?_ _)); refine blk_far ?_ NB160_183.out _; (with_reducible repeat (first | refine rb1 ?_ _ | refine rb2 ?_ | refine rb3 ?_ _)); refine blk_far ?_ NB160_183.out _; (with_reducible repeat (first | refine rb1 ?_ _ | refine rb2 ?_ | refine rb3 ?_ _)); refine blk_far ?_ NB160_183.out _; (with_reducible repeat (first | refine rb1 ?_ _ | refine rb2 ?_ | refine rb3 ?_ _)); refine blk_far ?_ NB160_183.out _; (with_reducible repeat (first | refine rb1 ?_ _ | refine rb2 ?_ | refine rb3 ?_ _)); exact BK160.out) hb); have n5_ := Aside0.mk (blk_below (g := gb161) (o := .cells #[.int .i64 a1_0, .int .i64 a1_1, .float .f64 a1_2, .slice A1_3 l1_3.length c1_3] 25 (0, 0)) (by (with_reducible repeat (first | refine rb1 ?_ _ | refine rb2 ?_ | refine rb3 ?_ _)); refine blk_far ?_ NB161_183.out _; (with_reducible repeat (first | refine rb1 ?_ _ | refine rb2 ?_ | refine rb3 ?_ _)); refine blk_far ?_ NB161_183.out _; (with_reducible repeat (first | refine rb1 ?_ _ | refine rb2 ?_ | refine rb3 ?_ _)); refine blk_far ?_ NB161_183.out _; (with_reducible repeat (first | refine rb1 ?_ _ | refine rb2 ?_ | refine rb3 ?_ _)); refine blk_far ?_ NB161_183.out _; (with_reducible repeat (first | refine rb1 ?_ _ | refine rb2 ?_ | refine rb3 ?_ _)); exact BK161.out) hb); have n6_ := Aside0.mk (blk_below (g := gb183) (o := .cells #[.int .i64 t177, .int .i64 t178, .float .f64 t179, .slice Ao161 t180.length co161] 28 (0, 0)) (by (with_reducible repeat (first | refine rb1 ?_ _ | refine rb2 ?_ | refine rb3 ?_ _)); refine blk_put (cs := #[.int .i64 t177, .int .i64 t178, .float .f64 t179, .slice none 0 0]) ?_ 3 _ rfl; (with_reducible repeat (first | refine rb1 ?_ _ | refine rb2 ?_ | refine rb3 ?_ _)); refine blk_put (cs := #[.int .i64 t177, .int .i64 t178, .float .f64 0, .slice none 0 0]) ?_ 2 _ rfl; (with_reducible repeat (first | refine rb1 ?_ _ | refine rb2 ?_ | refine rb3 ?_ _)); refine blk_put (cs := #[.int .i64 t177, .int .i64 0, .float .f64 0, .slice none 0 0]) ?_ 1 _ rfl; (with_reducible repeat (first | refine rb1 ?_ _ | refine rb2 ?_ | refine rb3 ?_ _)); refine blk_put (cs := #[.int .i64 0, .int .i64 0, .float .f64 0, .slice none 0 0]) ?_ 0 _ rfl; (with_reducible repeat (first | refine rb1 ?_ _ | refine rb2 ?_ | refine rb3 ?_ _)); exact BK183.out) hb); have n7_ := Aside0.mk (below_step (by repeat (first | (with_reducible first | exact HB.out | apply below_alloc | apply rb4 | apply below_drew1 | refine below_set ?_ GE160.out | refine below_set ?_ GE161.out | refine below_set ?_ GE183.out) | exact HB.out)) hb); clear HO169; clear HO175; clear HO182; clear BK160; clear BK161; clear BK183; clear HB; have HO169 := n0_; have HO175 := n1_; have HO182 := n2_; have HO189 := n3_; have BK160 := n4_; have BK161 := n5_; have BK183 := n6_; have HB := n7_; clear n0_ n1_ n2_ n3_ n4_ n5_ n6_ n7_; (try clear hb); (try clear hb2); (try clear hk); (try clear hi); (try clear ho0)) | ((with_reducible refine gate_dst (N := 8) rfl ?_); refine box_event ?hg (N := 8) ?hd (cs := #[.int .i64 0, .int .i64 0, .float .f64 0, .slice none 0 0]) (t := 28) ?hr ?_; (case hd => rfl); (case hg => rfl); (case hr => first | (go_simp; done) | (go_simp; rfl)); intro gb190 hg w164 hbox hb; have n0_ := Aside0.mk (ra5 (by (with_reducible repeat (first | apply ra1 | apply ra2 | apply ra3)); exact HO169.out) hb); have n1_ := Aside0.mk (ra5 (by (with_reducible repeat (first | apply ra1 | apply ra2 | apply ra3)); exact HO175.out) hb); have n2_ := Aside0.mk (ra5 (by (with_reducible repeat (first | apply ra1 | apply ra2 | apply ra3)); exact HO182.out) hb); have n3_ := Aside0.mk (ra5 (by (with_reducible repeat (first | apply ra1 | apply ra2 | apply ra3)); exact HO189.out) hb); have n4_ := Aside0.mk (blk_below (g := gb160) (o := .cells #[.int .i64 a0_0, .int .i64 a0_1, .float .f64 a0_2, .slice A0_3 l0_3.length c0_3] 25 (0, 0)) (by (with_reducible repeat (first | refine rb1 ?_ _ | refine rb2 ?_ | refine rb3 ?_ _)); exact BK160.out) hb); have n5_ := Aside0.mk (blk_below (g := gb161) (o := .cells #[.int .i64 a1_0, .int .i64 a1_1, .float .f64 a1_2, .slice A1_3 l1_3.length c1_3] 25 (0, 0)) (by (with_reducible repeat (first | refine rb1 ?_ _ | refine rb2 ?_ | refine rb3 ?_ _)); exact BK161.out) hb); have n6_ := Aside0.mk (blk_below (g := gb183) (o := .cells #[.int .i64 t177, .int .i64 t178, .float .f64 t179, .slice Ao161 t180.length co161] 28 (0, 0)) (by (with_reducible repeat (first | refine rb1 ?_ _ | refine rb2 ?_ | refine rb3 ?_ _)); exact BK183.out) hb); have n7_ := Aside0.mk (below_step (by repeat (first | (with_reducible first | exact HB.out | apply below_alloc | apply rb4 | apply below_drew1 | refine below_set ?_ GE160.out | refine below_set ?_ GE161.out | refine below_set ?_ GE183.out) | exact HB.out)) hb); have n8_ := Aside0.mk (hbox); have n9_ := Aside0.mk ((by rw [hg]; exact (below_size (by repeat (first | (with_reducible first | exact HB.out | apply below_alloc | apply rb4 | apply below_drew1 | refine below_set ?_ GE160.out | refine below_set ?_ GE161.out | refine below_set ?_ GE183.out) | exact HB.out))) : w.heap.size ≤ gb190)); have n10_ := Aside0.mk ((by rw [hg]; exact (below_size (by repeat (first | (with_reducible first | exact HB.out | apply below_alloc | apply rb4 | apply below_drew1 | refine below_set ?_ GE160.out | refine below_set ?_ GE161.out | refine below_set ?_ GE183.out) | exact HB.out))) : w.heap.size ≤ gb190)); have n11_ := Aside0.mk ((by rw [hg]; exact Nat.ne_of_lt (blk_lt (g := gb160) (o := .cells #[.int .i64 a0_0, .int .i64 a0_1, .float .f64 a0_2, .slice A0_3 l0_3.length c0_3] 25 (0, 0)) (by (with_reducible repeat (first | refine rb1 ?_ _ | refine rb2 ?_ | refine rb3 ?_ _)); exact BK160.out)) : gb160 ≠ gb190)); have n12_ := Aside0.mk ((by rw [hg]; exact Nat.ne_of_gt (blk_lt (g := gb160) (o := .cells #[.int .i64 a0_0, .int .i64 a0_1, .float .f64 a0_2, .slice A0_3 l0_3.length c0_3] 25 (0, 0)) (by (with_reducible repeat (first | refine rb1 ?_ _ | refine rb2 ?_ | refine rb3 ?_ _)); exact BK160.out)) : gb190 ≠ gb160)); have n13_ := Aside0.mk ((by rw [hg]; exact Nat.ne_of_lt (blk_lt (g := gb161) (o := .cells #[.int .i64 a1_0, .int .i64 a1_1, .float .f64 a1_2, .slice A1_3 l1_3.length c1_3] 25 (0, 0)) (by (with_reducible repeat (first | refine rb1 ?_ _ | refine rb2 ?_ | refine rb3 ?_ _)); exact BK161.out)) : gb161 ≠ gb190)); have n14_ := Aside0.mk ((by rw [hg]; exact Nat.ne_of_gt (blk_lt (g := gb161) (o := .cells #[.int .i64 a1_0, .int .i64 a1_1, .float .f64 a1_2, .slice A1_3 l1_3.length c1_3] 25 (0, 0)) (by (with_reducible repeat (first | refine rb1 ?_ _ | refine rb2 ?_ | refine rb3 ?_ _)); exact BK161.out)) : gb190 ≠ gb161)); have n15_ := Aside0.mk ((by rw [hg]; exact Nat.ne_of_lt (blk_lt (g := gb183) (o := .cells #[.int .i64 t177, .int .i64 t178, .float .f64 t179, .slice Ao161 t180.length co161] 28 (0, 0)) (by (with_reducible repeat (first | refine rb1 ?_ _ | refine rb2 ?_ | refine rb3 ?_ _)); exact BK183.out)) : gb183 ≠ gb190)); have n16_ := Aside0.mk ((by rw [hg]; exact Nat.ne_of_gt (blk_lt (g := gb183) (o := .cells #[.int .i64 t177, .int .i64 t178, .float .f64 t179, .slice Ao161 t180.length co161] 28 (0, 0)) (by (with_reducible repeat (first | refine rb1 ?_ _ | refine rb2 ?_ | refine rb3 ?_ _)); exact BK183.out)) : gb190 ≠ gb183)); clear HO169; clear HO175; clear HO182; clear HO189; clear BK160; clear BK161; clear BK183; clear HB; have HO169 := n0_; have HO175 := n1_; have HO182 := n2_; have HO189 := n3_; have BK160 := n4_; have BK161 := n5_; have BK183 := n6_; have HB := n7_; have BK190 := n8_; have GW190 := n9_; have GE190 := n10_; have NB160_190 := n11_; have NB190_160 := n12_; have NB161_190 := n13_; have NB190_161 := n14_; have NB183_190 := n15_; have NB190_183 := n16_; clear n0_ n1_ n2_ n3_ n4_ n5_ n6_ n7_ n8_ n9_ n10_ n11_ n12_ n13_ n14_ n15_ n16_; clear hb hbox hg; have hnb165 := NB190_160.out; have hnc165 := NB160_190.out; have hnb166 := NB190_161.out; have hnc166 := NB161_190.out; have hnb167 := NB190_183.out; have hnc167 := NB183_190.out; have hcz168_0 : w164.cell? ⟨gb190, 0, none⟩ = some (.int .i64 0) := (blk_cell BK190.out 0).trans rfl; have hcz168_1 : w164.cell? ⟨gb190, 1, none⟩ = some (.int .i64 0) := (blk_cell BK190.out 1).trans rfl; have hcz168_2 : w164.cell? ⟨gb190, 2, none⟩ = some (.float .f64 0) := (blk_cell BK190.out 2).trans rfl; have hcz168_3 : w164.cell? ⟨gb190, 3, none⟩ = some (.slice none 0 0) := (blk_cell BK190.out 3).trans rfl; have hfz168_0 := blk_frozen BK190.out 0; have hfz168_1 := blk_frozen BK190.out 1; have hfz168_2 := blk_frozen BK190.out 2; have hfz168_3 := blk_frozen BK190.out 3; obtain ⟨Ao169, co169, eo169⟩ := Kd.R_slice HO189.out; subst eo169; have hcz170_0 : w164.cell? ⟨gb183, 0, none⟩ = some (.int .i64 t177) := (blk_cell BK183.out 0).trans rfl; have hcz170_1 : w164.cell? ⟨gb183, 1, none⟩ = some (.int .i64 t178) := (blk_cell BK183.out 1).trans rfl; have hcz170_2 : w164.cell? ⟨gb183, 2, none⟩ = some (.float .f64 t179) := (blk_cell BK183.out 2).trans rfl; have hcz170_3 : w164.cell? ⟨gb183, 3, none⟩ = some (.slice Ao161 t180.length co161) := (blk_cell BK183.out 3).trans rfl; have hfz170_0 := blk_frozen BK183.out 0; have hfz170_1 := blk_frozen BK183.out 1; have hfz170_2 := blk_frozen BK183.out 2; have hfz170_3 := blk_frozen BK183.out 3) | ((with_reducible refine gate_callee (f := 11) rfl ?_); refine goesL_ (some 31) rfl rfl Try.func11 (by kernel_rfl) rfl #[.agg #[.int .i64 t177, .int .i64 t178, .float .f64 t179, .slice Ao161 t180.length co161], .agg #[.int .i64 t184, .int .i64 t185, .float .f64 t186, .slice Ao169 t187.length co169]] rfl (by (try simp only [List.map_toArray, List.map_cons, List.map_nil]); first | done | rfl | (simp only [List.length_drop, List.length_take]; rfl)) ?_; (with_reducible refine (impl_ItemCompare.calls k t177 t178 t179 _ _ t180 t184 t185 t186 _ _ t187 t191 _ ?side1 ?side2 ?side3 ?side4 A24.out).mono ?_); (case side1 => refine (ra9 (e := 5) (base := w.heap.size) (ok := fun k_ => (((True ∧ some k_ ≠ (.slice Ao152 t167.length co152 : Value).ownBlock) ∧ some k_ ≠ (.slice Ao153 t173.length co153 : Value).ownBlock) ∧ some k_ ≠ (.slice Ao169 t187.length co169 : Value).ownBlock)) (n := t180.length) (c := co161) ?_).2.2; exact (by (with_reducible repeat (first | apply ra1 | apply ra2 | apply ra3)); exact (Kd.R_mono (Kd.R_far (p := ⟨gb190, 3, none⟩) (Kd.R_far (p := ⟨gb190, 2, none⟩) (Kd.R_far (p := ⟨gb190, 1, none⟩) (Kd.R_far (p := ⟨gb190, 0, none⟩) (Kd.R_types HO182.out BK190.out (by decide)) (fun _ hk => hk.2) (.int .i64 t184)) (fun _ hk => hk.2) (.int .i64 t185)) (fun _ hk => hk.2) (.float .f64 t186)) (fun _ hk => hk.2) (.slice Ao169 t187.length co169)) (fun _ h_ => h_.1)))); (case side2 => exact (ra9 HO182.out).2.1); (case side3 => refine (ra9 (e := 5) (base := w.heap.size) (ok := fun k_ => (((True ∧ some k_ ≠ (.slice Ao152 t167.length co152 : Value).ownBlock) ∧ some k_ ≠ (.slice Ao153 t173.length co153 : Value).ownBlock) ∧ some k_ ≠ (.slice Ao161 t180.length co161 : Value).ownBlock)) (n := t187.length) (c := co169) ?_).2.2; exact (by (with_reducible repeat (first | apply ra1 | apply ra2 | apply ra3)); exact (Kd.R_mono (Kd.R_far (p := ⟨gb190, 3, none⟩) (Kd.R_far (p := ⟨gb190, 2, none⟩) (Kd.R_far (p := ⟨gb190, 1, none⟩) (Kd.R_far (p := ⟨gb190, 0, none⟩) (Kd.R_types HO189.out BK190.out (by decide)) (fun _ hk => hk.2) (.int .i64 t184)) (fun _ hk => hk.2) (.int .i64 t185)) (fun _ hk => hk.2) (.float .f64 t186)) (fun _ hk => hk.2) (.slice Ao169 t187.length co169)) (fun _ h_ => h_.1)))); (case side4 => exact (ra9 HO189.out).2.1); rintro e w171 ⟨rfl, hb⟩; refine ⟨_, rfl, ?_⟩; have n0_ := Aside0.mk (ra5 (by (with_reducible repeat (first | apply ra1 | apply ra2 | apply ra3)); exact (Kd.R_mono (Kd.R_far (p := ⟨gb190, 3, none⟩) (Kd.R_far (p := ⟨gb190, 2, none⟩) (Kd.R_far (p := ⟨gb190, 1, none⟩) (Kd.R_far (p := ⟨gb190, 0, none⟩) (Kd.R_types HO169.out BK190.out (by decide)) (fun _ hk => hk.2) (.int .i64 t184)) (fun _ hk => hk.2) (.int .i64 t185)) (fun _ hk => hk.2) (.float .f64 t186)) (fun _ hk => hk.2) (.slice Ao169 t187.length co169)) (fun _ h_ => h_.1))) hb); have n1_ := Aside0.mk (ra5 (by (with_reducible repeat (first | apply ra1 | apply ra2 | apply ra3)); exact (Kd.R_mono (Kd.R_far (p := ⟨gb190, 3, none⟩) (Kd.R_far (p := ⟨gb190, 2, none⟩) (Kd.R_far (p := ⟨gb190, 1, none⟩) (Kd.R_far (p := ⟨gb190, 0, none⟩) (Kd.R_types HO175.out BK190.out (by decide)) (fun _ hk => hk.2) (.int .i64 t184)) (fun _ hk => hk.2) (.int .i64 t185)) (fun _ hk => hk.2) (.float .f64 t186)) (fun _ hk => hk.2) (.slice Ao169 t187.length co169)) (fun _ h_ => h_.1))) hb); have n2_ := Aside0.mk (ra5 (by (with_reducible repeat (first | apply ra1 | apply ra2 | apply ra3)); exact (Kd.R_mono (Kd.R_far (p := ⟨gb190, 3, none⟩) (Kd.R_far (p := ⟨gb190, 2, none⟩) (Kd.R_far (p := ⟨gb190, 1, none⟩) (Kd.R_far (p := ⟨gb190, 0, none⟩) (Kd.R_types HO182.out BK190.out (by decide)) (fun _ hk => hk.2) (.int .i64 t184)) (fun _ hk => hk.2) (.int .i64 t185)) (fun _ hk => hk.2) (.float .f64 t186)) (fun _ hk => hk.2) (.slice Ao169 t187.length co169)) (fun _ h_ => h_.1))) hb); have n3_ := Aside0.mk (ra5 (by (with_reducible repeat (first | apply ra1 | apply ra2 | apply ra3)); exact (Kd.R_mono (Kd.R_far (p := ⟨gb190, 3, none⟩) (Kd.R_far (p := ⟨gb190, 2, none⟩) (Kd.R_far (p := ⟨gb190, 1, none⟩) (Kd.R_far (p := ⟨gb190, 0, none⟩) (Kd.R_types HO189.out BK190.out (by decide)) (fun _ hk => hk.2) (.int .i64 t184)) (fun _ hk => hk.2) (.int .i64 t185)) (fun _ hk => hk.2) (.float .f64 t186)) (fun _ hk => hk.2) (.slice Ao169 t187.length co169)) (fun _ h_ => h_.1))) hb); have n4_ := Aside0.mk (blk_below (g := gb160) (o := .cells #[.int .i64 a0_0, .int .i64 a0_1, .float .f64 a0_2, .slice A0_3 l0_3.length c0_3] 25 (0, 0)) (by (with_reducible repeat (first | refine rb1 ?_ _ | refine rb2 ?_ | refine rb3 ?_ _)); refine blk_far ?_ NB160_190.out _; (with_reducible repeat (first | refine rb1 ?_ _ | refine rb2 ?_ | refine rb3 ?_ _)); refine blk_far ?_ NB160_190.out _; (with_reducible repeat (first | refine rb1 ?_ _ | refine rb2 ?_ | refine rb3 ?_ _)); refine blk_far ?_ NB160_190.out _; (with_reducible repeat (first | refine rb1 ?_ _ | refine rb2 ?_ | refine rb3 ?_ _)); refine blk_far ?_ NB160_190.out _; (with_reducible repeat (first | refine rb1 ?_ _ | refine rb2 ?_ | refine rb3 ?_ _)); exact BK160.out) hb); have n5_ := Aside0.mk (blk_below (g := gb161) (o := .cells #[.int .i64 a1_0, .int .i64 a1_1, .float .f64 a1_2, .slice A1_3 l1_3.length c1_3] 25 (0, 0)) (by (with_reducible repeat (first | refine rb1 ?_ _ | refine rb2 ?_ | refine rb3 ?_ _)); refine blk_far ?_ NB161_190.out _; (with_reducible repeat (first | refine rb1 ?_ _ | refine rb2 ?_ | refine rb3 ?_ _)); refine blk_far ?_ NB161_190.out _; (with_reducible repeat (first | refine rb1 ?_ _ | refine rb2 ?_ | refine rb3 ?_ _)); refine blk_far ?_ NB161_190.out _; (with_reducible repeat (first | refine rb1 ?_ _ | refine rb2 ?_ | refine rb3 ?_ _)); refine blk_far ?_ NB161_190.out _; (with_reducible repeat (first | refine rb1 ?_ _ | refine rb2 ?_ | refine rb3 ?_ _)); exact BK161.out) hb); have n6_ := Aside0.mk (blk_below (g := gb183) (o := .cells #[.int .i64 t177, .int .i64 t178, .float .f64 t179, .slice Ao161 t180.length co161] 28 (0, 0)) (by (with_reducible repeat (first | refine rb1 ?_ _ | refine rb2 ?_ | refine rb3 ?_ _)); refine blk_far ?_ NB183_190.out _; (with_reducible repeat (first | refine rb1 ?_ _ | refine rb2 ?_ | refine rb3 ?_ _)); refine blk_far ?_ NB183_190.out _; (with_reducible repeat (first | refine rb1 ?_ _ | refine rb2 ?_ | refine rb3 ?_ _)); refine blk_far ?_ NB183_190.out _; (with_reducible repeat (first | refine rb1 ?_ _ | refine rb2 ?_ | refine rb3 ?_ _)); refine blk_far ?_ NB183_190.out _; (with_reducible repeat (first | refine rb1 ?_ _ | refine rb2 ?_ | refine rb3 ?_ _)); exact BK183.out) hb); have n7_ := Aside0.mk (blk_below (g := gb190) (o := .cells #[.int .i64 t184, .int .i64 t185, .float .f64 t186, .slice Ao169 t187.length co169] 28 (0, 0)) (by (with_reducible repeat (first | refine rb1 ?_ _ | refine rb2 ?_ | refine rb3 ?_ _)); refine blk_put (cs := #[.int .i64 t184, .int .i64 t185, .float .f64 t186, .slice none 0 0]) ?_ 3 _ rfl; (with_reducible repeat (first | refine rb1 ?_ _ | refine rb2 ?_ | refine rb3 ?_ _)); refine blk_put (cs := #[.int .i64 t184, .int .i64 t185, .float .f64 0, .slice none 0 0]) ?_ 2 _ rfl; (with_reducible repeat (first | refine rb1 ?_ _ | refine rb2 ?_ | refine rb3 ?_ _)); refine blk_put (cs := #[.int .i64 t184, .int .i64 0, .float .f64 0, .slice none 0 0]) ?_ 1 _ rfl; (with_reducible repeat (first | refine rb1 ?_ _ | refine rb2 ?_ | refine rb3 ?_ _)); refine blk_put (cs := #[.int .i64 0, .int .i64 0, .float .f64 0, .slice none 0 0]) ?_ 0 _ rfl; (with_reducible repeat (first | refine rb1 ?_ _ | refine rb2 ?_ | refine rb3 ?_ _)); exact BK190.out) hb); have n8_ := Aside0.mk (below_step (by repeat (first | (with_reducible first | exact HB.out | apply below_alloc | apply rb4 | apply below_drew1 | refine below_set ?_ GE160.out | refine below_set ?_ GE161.out | refine below_set ?_ GE183.out | refine below_set ?_ GE190.out) | exact HB.out)) hb); clear HO169; clear HO175; clear HO182; clear HO189; clear BK160; clear BK161; clear BK183; clear BK190; clear HB; have HO169 := n0_; have HO175 := n1_; have HO182 := n2_; have HO189 := n3_; have BK160 := n4_; have BK161 := n5_; have BK183 := n6_; have BK190 := n7_; have HB := n8_; clear n0_ n1_ n2_ n3_ n4_ n5_ n6_ n7_ n8_; (try clear hb); (try clear hb2); (try clear hk); (try clear hi)))
    go_ret
    exact ⟨by first | rfl | (simp [errW_none, errW_some] <;> rfl) | (simp [*, errW_none, errW_some] <;> rfl), by repeat (first | (with_reducible first | exact HB.out | apply below_alloc | apply rb4 | apply below_drew1 | refine below_set ?_ GE160.out | refine below_set ?_ GE161.out | refine below_set ?_ GE183.out | refine below_set ?_ GE190.out) | exact HB.out)⟩

end Go.Proofs.Ytcjeokkhpjppaaa.PFnExactItemCompare
