-- By this session's own program (wip/xprint.py), over the kit's print.
import Derived.Test.YtjjkhlphdbmdfaaPFnExactValueReadx0
import Derived.Test.YtjjkhlphdbmdfaaPFnExactValueReadx1
import Derived.Test.YtjjkhlphdbmdfaaPFnExactValueReadx3
namespace Go.Proofs.Ytjjkhlphdbmdfaa.PFnExactValueRead
open Go.RowKit Go.Proofs.YtjjkhlphdbmdfaaW.PrintWords Go.Proofs.YtjjkhlphdbmdfaaW.PrintLast Go.Proofs.YtjjkhlphdbmdfaaW.PrintMore
attribute [local go_sem] max2_int min2_int max_two min_two max_three min_three max_four min_four   -- for this text's walks alone
attribute [local go_sem high] fl_eql fl_neq fl_lss fl_leq fl_gtr fl_geq fl_add fl_sub fl_mul fl_quo fl_neg fl_ofInt fl_toInt fl_store sub_sign ext_bits ext_from fl_nan_quo fl_nan_add fl_nan_mul fl_nan_sub
set_option linter.unusedVariables false
set_option linter.unusedSimpArgs false

/-! ### spec_ValueRead: function 9 -/
def spec_ValueRead.j0 : Nat → List Int → Bool → Int → Int → Nat → Option (Int × Int × Nat × List Int × Bool)
  | 0, _, _, _, _, _ => none
  | k + 1, x0, x12, x134000, x134001, x134002 => if x12 = true then (some (x134000, x134001, x134002, ([] : List Int), false)) else (if 0 < (x0.length : Int) then (if (wrap64 (rd x0 0)) = 1 then (if 1 ≤ (x0.length : Int) then ((spec_l3low.f k (x0.drop 1)).bind fun t136 => ((spec_ValueBytes.f k (wrap64 (rd x0 0)) (wrap64 (Go.bits .xor .u64 t136 9223372036854775808)) x134002 ([] : List Int)).bind fun t137 => (if (strOfNums t137).toList = (strOfNums x0).toList then (some (wrap64 (rd x0 0), wrap64 (Go.bits .xor .u64 t136 9223372036854775808), x134002, ([] : List Int), true)) else (some (0, 0, 0, ([] : List Int), false))))) else (none)) else (if (wrap64 (rd x0 0)) = 2 then (if 1 ≤ (x0.length : Int) then ((spec_l3low.f k (x0.drop 1)).bind fun t141 => ((spec_FloatOf.c k t141).bind fun t142 => ((spec_ValueBytes.f k (wrap64 (rd x0 0)) x134001 t142 ([] : List Int)).bind fun t143 => (if (strOfNums t143).toList = (strOfNums x0).toList then (some (wrap64 (rd x0 0), x134001, t142, ([] : List Int), true)) else (some (0, 0, 0, ([] : List Int), false)))))) else (none)) else (if (wrap64 (rd x0 0)) = 3 then ((some (([] : List Int) : List Int)).bind fun y146 => (if 1 ≤ (x0.length : Int) then (if y146.length + (x0.drop 1).length < 140737488355328 then ((some (y146 ++ (x0.drop 1) : List Int)).bind fun y150 => ((spec_ValueBytes.f k (wrap64 (rd x0 0)) x134001 x134002 y150).bind fun t153 => (if (strOfNums t153).toList = (strOfNums x0).toList then (some (wrap64 (rd x0 0), x134001, x134002, y150, true)) else (some (0, 0, 0, ([] : List Int), false))))) else (none)) else (none))) else ((spec_ValueBytes.f k (wrap64 (rd x0 0)) x134001 x134002 ([] : List Int)).bind fun t156 => (if (strOfNums t156).toList = (strOfNums x0).toList then (some (wrap64 (rd x0 0), x134001, x134002, ([] : List Int), true)) else (some (0, 0, 0, ([] : List Int), false))))))) else (none))
def spec_ValueRead.f (k : Nat) (l0 : List Int) : Option (Int × Int × Nat × List Int × Bool) := if (l0.length : Int) < 1 then (spec_ValueRead.j0 k l0 true 0 0 0) else (spec_ValueRead.j0 k l0 (decide ((l0.length : Int) > 41)) 0 0 0)
theorem spec_ValueRead.mono_l : ∀ k, (∀ y0 y1 y2 y3 y4, LeO (spec_ValueRead.j0 k y0 y1 y2 y3 y4) (spec_ValueRead.j0 (k + 1) y0 y1 y2 y3 y4))
  | 0 => fun _ _ _ _ _ r h => by simp [spec_ValueRead.j0] at h
  | k + 1 => by
    have ih0 := spec_ValueRead.mono_l k
    · intro y0 y1 y2 y3 y4
      unfold spec_ValueRead.j0
      repeat' first
      | (with_reducible exact ih0 _ _ _ _ _)
      | (with_reducible exact spec_FloatOf.monoC _ _)
      | (with_reducible exact spec_ValueBytes.mono _ _ _ _ _)
      | (with_reducible exact spec_l3low.mono _ _)
      | (with_reducible exact LeO.refl _)
      | (with_reducible exact LeO.none _)
      | (with_reducible refine LeO.ite ?_ ?_)
      | (with_reducible refine LeO.bind ?_ (fun _ => ?_))
      | exact ih0 _ _ _ _ _
      | exact spec_FloatOf.monoC _ _
      | exact spec_ValueBytes.mono _ _ _ _ _
      | exact spec_l3low.mono _ _
      | exact LeO.none _
      | refine LeO.ite ?_ ?_
      | refine LeO.bind ?_ (fun _ => ?_)
theorem spec_ValueRead.mono : ∀ a0 k, LeO (spec_ValueRead.f k a0) (spec_ValueRead.f (k + 1) a0) := by
  intro a0 k
  have ih0 := spec_ValueRead.mono_l k
  unfold spec_ValueRead.f
  repeat' first
      | (with_reducible exact ih0 _ _ _ _ _)
      | (with_reducible exact spec_FloatOf.monoC _ _)
      | (with_reducible exact spec_ValueBytes.mono _ _ _ _ _)
      | (with_reducible exact spec_l3low.mono _ _)
      | (with_reducible exact LeO.refl _)
      | (with_reducible exact LeO.none _)
      | (with_reducible refine LeO.ite ?_ ?_)
      | (with_reducible refine LeO.bind ?_ (fun _ => ?_))
      | exact ih0 _ _ _ _ _
      | exact spec_FloatOf.monoC _ _
      | exact spec_ValueBytes.mono _ _ _ _ _
      | exact spec_l3low.mono _ _
      | exact LeO.none _
      | refine LeO.ite ?_ ?_
      | refine LeO.bind ?_ (fun _ => ?_)
set_option maxHeartbeats 8000000 in
set_option maxRecDepth 100000 in
theorem spec_ValueRead.callsC (k : Nat) (A0 : Option Addr) (c0 : Nat) (l0 : List Int) (r1 : Int) (r2 : Int) (r3 : Nat) (r4 : List Int) (r5 : Bool) (w : World) (hr0 : Kd.C (Kd.int .u8) w A0 l0.length l0) (hc0 : l0.length ≤ c0) (h : spec_ValueRead.f k l0 = some (r1, r2, r3, r4, r5)) :
    Calls Try.prog 9 #[.slice A0 l0.length c0] w fun e w' => ∃ b1_ : Nat, ∃ v3_ : Value, e = .returned (.tuple #[.agg #[.int .i64 r1, .int .i64 r2, .float .f64 b1_, v3_], .bool r5]) ∧ Kd.R (Kd.int .u8) 5 w' w.heap.size (fun _ => True) v3_ r4 ∧ Below w.heap.size w w' ∧ Aside0 (cn b1_ = r3 ∧ b1_ < 2 ^ 64) := by
  have hu25 := Try.underlying25
  have HR0 := Aside0.mk hr0
  have HC0 := Aside0.mk hc0
  clear hr0 hc0
  have HB := Aside0.mk (Below.refl w.heap.size w)
  have H : (if (l0.length : Int) < 1 then (spec_ValueRead.j0 k l0 true 0 0 0) else (spec_ValueRead.j0 k l0 (decide ((l0.length : Int) > 41)) 0 0 0)) = some (r1, r2, r3, r4, r5) := h
  clear h
  have HC2 := Aside0.mk H
  clear H
  go_enter Try.func9, Try.ntmps9
  go_upto_region 2 with (first | ((with_reducible refine gate_dst (N := 2) rfl ?_); (try (refine gate_guard (by rfl) ?_; dsimp only)); refine box_event ?hg (N := 2) ?hd (cs := #[.int .i64 0, .int .i64 0, .float .f64 0, .slice none 0 0]) (t := 25) ?hr ?_; (case hd => rfl); (case hg => rfl); (case hr => first | (go_simp; done) | (go_simp; rfl)); intro gb132 hg w3 hbox hb; have n0_ := Aside0.mk (below_step (by repeat (first | (with_reducible first | exact HB.out | apply below_alloc | apply pw_below_drewN | apply below_drew1) | exact HB.out)) hb); have n1_ := Aside0.mk (hbox); have n2_ := Aside0.mk ((by rw [hg]; exact (below_size (by repeat (first | (with_reducible first | exact HB.out | apply below_alloc | apply pw_below_drewN | apply below_drew1) | exact HB.out))) : w.heap.size ≤ gb132)); have n3_ := Aside0.mk ((by rw [hg]; exact (below_size (by repeat (first | (with_reducible first | exact HB.out | apply below_alloc | apply pw_below_drewN | apply below_drew1) | exact HB.out))) : w.heap.size ≤ gb132)); clear HB; have HB := n0_; have BK132 := n1_; have GW132 := n2_; have GE132 := n3_; clear n0_ n1_ n2_ n3_; clear hb hbox hg) | ((with_reducible refine gate_dst (N := 4) rfl ?_); (try (refine gate_guard (by rfl) ?_; dsimp only)); refine box_event ?hg (N := 4) ?hd (cs := #[.int .i64 0, .int .i64 0, .float .f64 0, .slice none 0 0]) (t := 25) ?hr ?_; (case hd => rfl); (case hg => rfl); (case hr => first | (go_simp; done) | (go_simp; rfl)); intro gb133 hg w4 hbox hb; have n0_ := Aside0.mk (blk_below (g := gb132) (o := .cells #[.int .i64 0, .int .i64 0, .float .f64 0, .slice none 0 0] 25 (0, 0)) (by (with_reducible repeat (first | refine blk_drewN ?_ _ | refine blk_drew ?_ | refine blk_alloc ?_ _)); exact BK132.out) hb); have n1_ := Aside0.mk (below_step (by repeat (first | (with_reducible first | exact HB.out | apply below_alloc | apply pw_below_drewN | apply below_drew1 | refine below_set ?_ GE132.out) | exact HB.out)) hb); have n2_ := Aside0.mk (hbox); have n3_ := Aside0.mk ((by rw [hg]; exact (below_size (by repeat (first | (with_reducible first | exact HB.out | apply below_alloc | apply pw_below_drewN | apply below_drew1 | refine below_set ?_ GE132.out) | exact HB.out))) : w.heap.size ≤ gb133)); have n4_ := Aside0.mk ((by rw [hg]; exact (below_size (by repeat (first | (with_reducible first | exact HB.out | apply below_alloc | apply pw_below_drewN | apply below_drew1 | refine below_set ?_ GE132.out) | exact HB.out))) : w.heap.size ≤ gb133)); have n5_ := Aside0.mk ((by rw [hg]; exact Nat.ne_of_lt (blk_lt (g := gb132) (o := .cells #[.int .i64 0, .int .i64 0, .float .f64 0, .slice none 0 0] 25 (0, 0)) (by (with_reducible repeat (first | refine blk_drewN ?_ _ | refine blk_drew ?_ | refine blk_alloc ?_ _)); exact BK132.out)) : gb132 ≠ gb133)); have n6_ := Aside0.mk ((by rw [hg]; exact Nat.ne_of_gt (blk_lt (g := gb132) (o := .cells #[.int .i64 0, .int .i64 0, .float .f64 0, .slice none 0 0] 25 (0, 0)) (by (with_reducible repeat (first | refine blk_drewN ?_ _ | refine blk_drew ?_ | refine blk_alloc ?_ _)); exact BK132.out)) : gb133 ≠ gb132)); clear BK132; clear HB; have BK132 := n0_; have HB := n1_; have BK133 := n2_; have GW133 := n3_; have GE133 := n4_; have NB132_133 := n5_; have NB133_132 := n6_; clear n0_ n1_ n2_ n3_ n4_ n5_ n6_; clear hb hbox hg))
  (try simp only [Act.put, List.setIfInBounds_toArray, List.set_cons_zero, List.set_cons_succ])
  go_cut [12] (fun v12 wc => ∃ (kq : Nat) (x12_1 : Bool), v12 = .bool x12_1 ∧ Aside0 (spec_ValueRead.j0 kq l0 x12_1 0 0 0 = some (r1, r2, r3, r4, r5)) ∧ Aside0 (kq ≤ k) ∧ Aside0 (wc.heap[gb132]? = some (.cells #[.int .i64 0, .int .i64 0, .float .f64 0, (.slice none 0 0)] 25 (0, 0))) ∧ Aside0 (wc.heap[gb133]? = some (.cells #[.int .i64 0, .int .i64 0, .float .f64 0, (.slice none 0 0)] 25 (0, 0))) ∧ Aside0 (Below w.heap.size w wc))
  case first =>
    have H := HC2.out
    clear HC2
    by_cases c5 : (l0.length : Int) < 1
    · rw [if_pos c5] at H
      have c5b0 : decide ((l0.length : Int) < 1) = true := decide_eq_true c5
      have c5b1 : decide (l0.length < 1) = true := decide_eq_true (by omega)
      clear c5
      (first | rw [c5b0] | (simp only [i64_w, i32_w]; rw [c5b0]) | skip)
      have H' := Aside0.mk H
      clear H
      go_wp2
      go_meet
      case rel => exact ⟨_, (true), (by first | rfl | (simp; done) | (simp [*]; done)), H', ⟨by first | omega | exact Nat.le_refl _⟩, ⟨by (with_reducible repeat (first | refine blk_drewN ?_ _ | refine blk_drew ?_ | refine blk_alloc ?_ _)); exact BK132.out⟩, ⟨by (with_reducible repeat (first | refine blk_drewN ?_ _ | refine blk_drew ?_ | refine blk_alloc ?_ _)); exact BK133.out⟩, ⟨by repeat (first | (with_reducible first | exact HB.out | apply below_alloc | apply pw_below_drewN | apply below_drew1 | refine below_set ?_ GE132.out | refine below_set ?_ GE133.out) | exact HB.out)⟩⟩
    · rw [if_neg c5] at H
      have c5b0 : decide ((l0.length : Int) < 1) = false := decide_eq_false c5
      have c5b1 : decide (l0.length < 1) = false := decide_eq_false (by omega)
      clear c5
      (first | rw [c5b0] | (simp only [i64_w, i32_w]; rw [c5b0]) | skip)
      have H' := Aside0.mk H
      clear H
      go_wp2
      go_meet
      case rel => exact ⟨_, (decide ((l0.length : Int) > 41)), (by first | rfl | (simp; done) | (simp [*]; done)), H', ⟨by first | omega | exact Nat.le_refl _⟩, ⟨by (with_reducible repeat (first | refine blk_drewN ?_ _ | refine blk_drew ?_ | refine blk_alloc ?_ _)); exact BK132.out⟩, ⟨by (with_reducible repeat (first | refine blk_drewN ?_ _ | refine blk_drew ?_ | refine blk_alloc ?_ _)); exact BK133.out⟩, ⟨by repeat (first | (with_reducible first | exact HB.out | apply below_alloc | apply pw_below_drewN | apply below_drew1 | refine below_set ?_ GE132.out | refine below_set ?_ GE133.out) | exact HB.out)⟩⟩
  case rest =>
    clear HC2
    try clear p2
    try clear c5
    try clear c5b0
    try clear c5b1
    obtain ⟨kq, x12_1, rfl, HA, HJ1, BK132, BK133, HB⟩ := hcut
    cases kq with
    | zero => exact absurd HA.out (by simp [spec_ValueRead.j0])
    | succ kj1 =>
      have H := HA.out
      clear HA
      simp only [spec_ValueRead.j0] at H
      by_cases c6 : x12_1 = true
      · subst c6
        have H1 : (some (0, 0, 0, ([] : List Int), false)) = some (r1, r2, r3, r4, r5) := by rw [if_pos rfl] at H; exact H
        clear H
        have H := H1
        clear H1
        simp only [Option.some.injEq, Prod.mk.injEq] at H
        obtain ⟨rfl, rfl, rfl, rfl, rfl⟩ := H
        have hnb7 := NB133_132.out
        have hnc7 := NB132_133.out
        have hcz8_0 : wc.cell? ⟨gb133, 0, none⟩ = some (.int .i64 0) := (blk_cell BK133.out 0).trans rfl
        have hcz8_1 : wc.cell? ⟨gb133, 1, none⟩ = some (.int .i64 0) := (blk_cell BK133.out 1).trans rfl
        have hcz8_2 : wc.cell? ⟨gb133, 2, none⟩ = some (.float .f64 0) := (blk_cell BK133.out 2).trans rfl
        have hcz8_3 : wc.cell? ⟨gb133, 3, none⟩ = some (.slice none 0 0) := (blk_cell BK133.out 3).trans rfl
        have hfz8_0 := blk_frozen BK133.out 0
        have hfz8_1 := blk_frozen BK133.out 1
        have hfz8_2 := blk_frozen BK133.out 2
        have hfz8_3 := blk_frozen BK133.out 3
        have hcz9_0 : wc.cell? ⟨gb132, 0, none⟩ = some (.int .i64 0) := (blk_cell BK132.out 0).trans rfl
        have hcz9_1 : wc.cell? ⟨gb132, 1, none⟩ = some (.int .i64 0) := (blk_cell BK132.out 1).trans rfl
        have hcz9_2 : wc.cell? ⟨gb132, 2, none⟩ = some (.float .f64 0) := (blk_cell BK132.out 2).trans rfl
        have hcz9_3 : wc.cell? ⟨gb132, 3, none⟩ = some (.slice none 0 0) := (blk_cell BK132.out 3).trans rfl
        have hfz9_0 := blk_frozen BK132.out 0
        have hfz9_1 := blk_frozen BK132.out 1
        have hfz9_2 := blk_frozen BK132.out 2
        have hfz9_3 := blk_frozen BK132.out 3
        go_wp2
        refine bodyPost_ret (results_ct rfl _ _ gb132 25 #[.int .i64 0, .int .i64 0, .float .f64 0, .slice none 0 0] (0, 0) _ rfl (by (with_reducible repeat (first | refine blk_drewN ?_ _ | refine blk_drew ?_ | refine blk_alloc ?_ _)); refine blk_put (cs := #[.int .i64 0, .int .i64 0, .float .f64 0, .slice none 0 0]) ?_ 3 _ rfl; (with_reducible repeat (first | refine blk_drewN ?_ _ | refine blk_drew ?_ | refine blk_alloc ?_ _)); refine blk_put (cs := #[.int .i64 0, .int .i64 0, .float .f64 0, .slice none 0 0]) ?_ 2 _ rfl; (with_reducible repeat (first | refine blk_drewN ?_ _ | refine blk_drew ?_ | refine blk_alloc ?_ _)); refine blk_put (cs := #[.int .i64 0, .int .i64 0, .float .f64 0, .slice none 0 0]) ?_ 1 _ rfl; (with_reducible repeat (first | refine blk_drewN ?_ _ | refine blk_drew ?_ | refine blk_alloc ?_ _)); refine blk_put (cs := #[.int .i64 0, .int .i64 0, .float .f64 0, .slice none 0 0]) ?_ 0 _ rfl; (with_reducible repeat (first | refine blk_drewN ?_ _ | refine blk_drew ?_ | refine blk_alloc ?_ _)); exact BK132.out) Try.underlying25 rfl (by kernel_rfl)) rfl ?_
        exact ⟨_, _, by first | rfl | (simp [errW_none, errW_some] <;> rfl) | (simp [*, errW_none, errW_some] <;> rfl), by first | exact Kd.R_nil _ _ _ _ _ | exact Kd.N_nil _ _ _ _ _ | exact Kd.V_nil _ _ _ _ _ | exact Kd.Q_nil _ _ _ _ _ | exact Kd.S_nil _ _ _ _ _, by repeat (first | (with_reducible first | exact HB.out | apply below_alloc | apply pw_below_drewN | apply below_drew1 | refine below_set ?_ GE132.out | refine below_set ?_ GE133.out) | exact HB.out), (by first | exact ⟨⟨by first | rfl | decide, by decide⟩⟩)⟩
      · replace c6 := Bool.eq_false_iff.mpr c6
        subst c6
        have H1 : (if 0 < (l0.length : Int) then (if (wrap64 (rd l0 0)) = 1 then (if 1 ≤ (l0.length : Int) then ((spec_l3low.f kj1 (l0.drop 1)).bind fun t136 => ((spec_ValueBytes.f kj1 (wrap64 (rd l0 0)) (wrap64 (Go.bits .xor .u64 t136 9223372036854775808)) 0 ([] : List Int)).bind fun t137 => (if (strOfNums t137).toList = (strOfNums l0).toList then (some (wrap64 (rd l0 0), wrap64 (Go.bits .xor .u64 t136 9223372036854775808), 0, ([] : List Int), true)) else (some (0, 0, 0, ([] : List Int), false))))) else (none)) else (if (wrap64 (rd l0 0)) = 2 then (if 1 ≤ (l0.length : Int) then ((spec_l3low.f kj1 (l0.drop 1)).bind fun t141 => ((spec_FloatOf.c kj1 t141).bind fun t142 => ((spec_ValueBytes.f kj1 (wrap64 (rd l0 0)) 0 t142 ([] : List Int)).bind fun t143 => (if (strOfNums t143).toList = (strOfNums l0).toList then (some (wrap64 (rd l0 0), 0, t142, ([] : List Int), true)) else (some (0, 0, 0, ([] : List Int), false)))))) else (none)) else (if (wrap64 (rd l0 0)) = 3 then ((some (([] : List Int) : List Int)).bind fun y146 => (if 1 ≤ (l0.length : Int) then (if y146.length + (l0.drop 1).length < 140737488355328 then ((some (y146 ++ (l0.drop 1) : List Int)).bind fun y150 => ((spec_ValueBytes.f kj1 (wrap64 (rd l0 0)) 0 0 y150).bind fun t153 => (if (strOfNums t153).toList = (strOfNums l0).toList then (some (wrap64 (rd l0 0), 0, 0, y150, true)) else (some (0, 0, 0, ([] : List Int), false))))) else (none)) else (none))) else ((spec_ValueBytes.f kj1 (wrap64 (rd l0 0)) 0 0 ([] : List Int)).bind fun t156 => (if (strOfNums t156).toList = (strOfNums l0).toList then (some (wrap64 (rd l0 0), 0, 0, ([] : List Int), true)) else (some (0, 0, 0, ([] : List Int), false))))))) else (none)) = some (r1, r2, r3, r4, r5) := by rw [if_neg (show ¬ (false = true) by decide)] at H; exact H
        clear H
        have H := H1
        clear H1
        by_cases c10 : 0 < (l0.length : Int)
        · rw [if_pos c10] at H
          have c10b0 : decide (0 < (l0.length : Int)) = true := decide_eq_true c10
          have c10b1 : decide (0 < l0.length) = true := decide_eq_true (by omega)
          clear c10
          by_cases c11 : (wrap64 (rd l0 0)) = 1
          · rw [if_pos c11] at H
            have c11b0 : ((wrap64 (rd l0 0)) == 1) = true := beq_iff_eq.mpr c11
            have c11b1 : ((wrap64 (rd l0 0)) != 1) = false := bne_eq_false_iff_eq.mpr c11
            clear c11
            by_cases c12 : 1 ≤ (l0.length : Int)
            · rw [if_pos c12] at H
              have c12b0 := eq_true c12
              have c12b1 : decide (1 ≤ (l0.length : Int)) = true := decide_eq_true c12
              clear c12
              replace H := Option.bind_eq_some_iff.mp H
              obtain ⟨t136, A130, H⟩ := H
              replace H : ((spec_ValueBytes.f kj1 (wrap64 (rd l0 0)) (wrap64 (Go.bits .xor .u64 t136 9223372036854775808)) 0 ([] : List Int)).bind fun t137 => (if (strOfNums t137).toList = (strOfNums l0).toList then (some (wrap64 (rd l0 0), wrap64 (Go.bits .xor .u64 t136 9223372036854775808), 0, ([] : List Int), true)) else (some (0, 0, 0, ([] : List Int), false)))) = some (r1, r2, r3, r4, r5) := H
              have A13 := Aside0.mk A130
              clear A130
              replace H := Option.bind_eq_some_iff.mp H
              obtain ⟨t137, A140, H⟩ := H
              replace H : (if (strOfNums t137).toList = (strOfNums l0).toList then (some (wrap64 (rd l0 0), wrap64 (Go.bits .xor .u64 t136 9223372036854775808), 0, ([] : List Int), true)) else (some (0, 0, 0, ([] : List Int), false))) = some (r1, r2, r3, r4, r5) := H
              have A14 := Aside0.mk A140
              clear A140
              by_cases c15 : (strOfNums t137).toList = (strOfNums l0).toList
              · rw [if_pos c15] at H
                have c15b0 : ((strOfNums t137).toList == (strOfNums l0).toList) = true := beq_iff_eq.mpr c15
                have c15b1 : ((strOfNums t137).toList != (strOfNums l0).toList) = false := bne_eq_false_iff_eq.mpr c15
                clear c15
                simp only [Option.some.injEq, Prod.mk.injEq] at H
                obtain ⟨rfl, rfl, rfl, rfl, rfl⟩ := H
                have p134 : 0 ≤ (0 : Int) := (by omega)
                have q134 : 0 < (l0.length : Int) := of_decide_eq_true (by first | (with_reducible assumption) | assumption)
                obtain ⟨ad134, e134, hx134_0⟩ := Kd.at_int HR0.out 0 p134 q134
                cases e134
                have qi134 : (0 < l0.length) = True := eq_true (by omega)
                (try rw [show ((0 : Int)).toNat = 0 from rfl] at hx134_0)
                (try rw [Addr.add_zero'] at hx134_0)
                replace hx134_0 := (HB.out.cell (World.block_lt_of_cell? w _ hx134_0)).trans hx134_0
                replace p134 := eq_true p134
                replace q134 := eq_true q134
                have hnb16 := NB133_132.out
                have hnc16 := NB132_133.out
                have hcz17_0 : wc.cell? ⟨gb133, 0, none⟩ = some (.int .i64 0) := (blk_cell BK133.out 0).trans rfl
                have hcz17_1 : wc.cell? ⟨gb133, 1, none⟩ = some (.int .i64 0) := (blk_cell BK133.out 1).trans rfl
                have hcz17_2 : wc.cell? ⟨gb133, 2, none⟩ = some (.float .f64 0) := (blk_cell BK133.out 2).trans rfl
                have hcz17_3 : wc.cell? ⟨gb133, 3, none⟩ = some (.slice none 0 0) := (blk_cell BK133.out 3).trans rfl
                have hfz17_0 := blk_frozen BK133.out 0
                have hfz17_1 := blk_frozen BK133.out 1
                have hfz17_2 := blk_frozen BK133.out 2
                have hfz17_3 := blk_frozen BK133.out 3
                obtain ⟨i018, hi018, _, hsz18, _⟩ := info_parts info5
                obtain ⟨A18, hcut18, hA18, hC18⟩ := print_drop_of (P := Try.prog) (Value.int .u8) 0 22 5 .i64 Try.underlying22 hi018 hsz18 (some ad134) c0 l0 1 (by omega) (of_decide_eq_true (by first | (with_reducible assumption) | assumption)) HC0.out
                have HR135 := Aside0.mk (Kd.C_of_reads (h1 := fun _ => rfl) (hA18 _ (Kd.reads_of_C HR0.out)))
                have HC135 := Aside0.mk hC18
                clear hA18 hC18 hi018 hsz18
                try go_wp2_with (first | ((with_reducible refine gate_callee (f := 45) rfl ?_); refine goesL_ (some 25) rfl rfl Try.func45 (by kernel_rfl) rfl #[.slice A18 (l0.drop 1).length (c0 - 1)] rfl (by (try simp only [List.map_toArray, List.map_cons, List.map_nil]); first | done | (rw [show (l0.drop 1).length = (l0.length - 1) from List.length_drop] <;> rfl) | rfl | (simp only [List.length_drop, List.length_take]; rfl)) ?_; (with_reducible refine (spec_l3low.calls kj1 _ _ (l0.drop 1) t136 _ ?side1 ?side2 A13.out).mono ?_); (case side1 => exact Kd.C_below HR135.out (by repeat (first | (with_reducible first | exact HB.out | apply below_alloc | apply pw_below_drewN | apply below_drew1 | refine below_set ?_ GE132.out | refine below_set ?_ GE133.out) | exact HB.out))); (case side2 => exact HC135.out); rintro e w' ⟨rfl, ⟨nd, rfl⟩⟩; refine ⟨_, rfl, ?_⟩))
                (try rw [setCell_drewN])
                have n0_ : Aside0 (((wc.setCell ⟨gb133, 0, none⟩ (.int .i64 (wrap64 (rd l0 0)))).setCell ⟨gb133, 1, none⟩ (.int .i64 (wrap64 (Go.bits .xor .u64 t136 9223372036854775808)))).heap[gb132]? = some (.cells #[.int .i64 0, .int .i64 0, .float .f64 0, .slice none 0 0] 25 (0, 0))) := ⟨by (with_reducible repeat (first | refine blk_drewN ?_ _ | refine blk_drew ?_ | refine blk_alloc ?_ _)); refine blk_far ?_ NB132_133.out _; (with_reducible repeat (first | refine blk_drewN ?_ _ | refine blk_drew ?_ | refine blk_alloc ?_ _)); refine blk_far ?_ NB132_133.out _; (with_reducible repeat (first | refine blk_drewN ?_ _ | refine blk_drew ?_ | refine blk_alloc ?_ _)); exact BK132.out⟩
                have n1_ : Aside0 (((wc.setCell ⟨gb133, 0, none⟩ (.int .i64 (wrap64 (rd l0 0)))).setCell ⟨gb133, 1, none⟩ (.int .i64 (wrap64 (Go.bits .xor .u64 t136 9223372036854775808)))).heap[gb133]? = some (.cells #[.int .i64 (wrap64 (rd l0 0)), .int .i64 (wrap64 (Go.bits .xor .u64 t136 9223372036854775808)), .float .f64 0, .slice none 0 0] 25 (0, 0))) := ⟨by (with_reducible repeat (first | refine blk_drewN ?_ _ | refine blk_drew ?_ | refine blk_alloc ?_ _)); refine blk_put (cs := #[.int .i64 (wrap64 (rd l0 0)), .int .i64 0, .float .f64 0, .slice none 0 0]) ?_ 1 _ rfl; (with_reducible repeat (first | refine blk_drewN ?_ _ | refine blk_drew ?_ | refine blk_alloc ?_ _)); refine blk_put (cs := #[.int .i64 0, .int .i64 0, .float .f64 0, .slice none 0 0]) ?_ 0 _ rfl; (with_reducible repeat (first | refine blk_drewN ?_ _ | refine blk_drew ?_ | refine blk_alloc ?_ _)); exact BK133.out⟩
                have n2_ : Aside0 (Below w.heap.size w ((wc.setCell ⟨gb133, 0, none⟩ (.int .i64 (wrap64 (rd l0 0)))).setCell ⟨gb133, 1, none⟩ (.int .i64 (wrap64 (Go.bits .xor .u64 t136 9223372036854775808))))) := ⟨by repeat (first | (with_reducible first | exact HB.out | apply below_alloc | apply pw_below_drewN | apply below_drew1 | refine below_set ?_ GE132.out | refine below_set ?_ GE133.out) | exact HB.out)⟩
                (try clear BK132)
                (try clear BK133)
                (try clear HB)
                generalize ((wc.setCell ⟨gb133, 0, none⟩ (.int .i64 (wrap64 (rd l0 0)))).setCell ⟨gb133, 1, none⟩ (.int .i64 (wrap64 (Go.bits .xor .u64 t136 9223372036854775808)))) = w19 at n0_ n1_ n2_ ⊢
                have BK132 := n0_
                have BK133 := n1_
                have HB := n2_
                clear n0_ n1_ n2_
                (try (rw [drewN_self w19]; generalize hq_ : World.drewN w19 _ = w19; have n0_ : Aside0 (w19.heap[gb132]? = some (.cells #[.int .i64 0, .int .i64 0, .float .f64 0, .slice none 0 0] 25 (0, 0))) := ⟨by rw [← hq_]; exact (by (with_reducible repeat (first | refine blk_drewN ?_ _ | refine blk_drew ?_ | refine blk_alloc ?_ _)); exact BK132.out)⟩; have n1_ : Aside0 (w19.heap[gb133]? = some (.cells #[.int .i64 (wrap64 (rd l0 0)), .int .i64 (wrap64 (Go.bits .xor .u64 t136 9223372036854775808)), .float .f64 0, .slice none 0 0] 25 (0, 0))) := ⟨by rw [← hq_]; exact (by (with_reducible repeat (first | refine blk_drewN ?_ _ | refine blk_drew ?_ | refine blk_alloc ?_ _)); exact BK133.out)⟩; have n2_ : Aside0 (Below w.heap.size w w19) := ⟨by rw [← hq_]; exact (by repeat (first | (with_reducible first | exact HB.out | apply below_alloc | apply pw_below_drewN | apply below_drew1 | refine below_set ?_ GE132.out | refine below_set ?_ GE133.out) | exact HB.out))⟩; clear BK132 BK133 HB hq_; have BK132 := n0_; have BK133 := n1_; have HB := n2_; clear n0_ n1_ n2_))
                have n0_ := Aside0.mk (blk_drew BK132.out)
                have n1_ := Aside0.mk (blk_drew BK133.out)
                have n2_ := Aside0.mk (below_drew1 HB.out)
                clear BK132
                clear BK133
                clear HB
                have BK132 := n0_
                have BK133 := n1_
                have HB := n2_
                clear n0_ n1_ n2_
                refine start_ (n := 6) (S := fun w' => w'.cell? ⟨gb133, 0, none⟩ = some (.int .i64 (wrap64 (rd l0 0))) ∧ w'.cell? ⟨gb133, 1, none⟩ = some (.int .i64 (wrap64 (Go.bits .xor .u64 t136 9223372036854775808))) ∧ w'.cell? ⟨gb133, 2, none⟩ = some (.float .f64 0) ∧ w'.cell? ⟨gb133, 3, none⟩ = some (.slice none 0 0) ∧ Kd.C (Kd.int .u8) w' (some ad134) l0.length l0) (ds := []) #[false, false, false, false, false, false] (by kernel_rfl) rfl rfl ⟨(blk_cell BK133.out 0).trans rfl, (blk_cell BK133.out 1).trans rfl, (blk_cell BK133.out 2).trans rfl, (blk_cell BK133.out 3).trans rfl, (Kd.C_below HR0.out HB.out)⟩ (fun hHeld => ?_)
                generalize w19.drew = w20 at BK132 BK133 HB hHeld ⊢
                refine pure_ (i := 3) (N := some 46) (v := ?_) (a' := ?_) #[false, false, false, true, false, false] rfl rfl (by kernel_rfl) (fun _ _ _ h => h) (Or.inl ⟨by rfl, ?_⟩) ?_ ?_
                rotate_left
                · intro w'
                  go_simp
                  with_reducible rfl
                rotate_left
                · simp only [Act.put, List.setIfInBounds_toArray, List.set_cons_zero, List.set_cons_succ, i64_w, i32_w]
                  rfl
                refine take_ (i := 4) (N := some 47) (v := ?_) (a' := ?_) #[false, false, false, true, true, false] rfl rfl (by kernel_rfl) (fun _ _ _ h => h) (Or.inl ⟨by rfl, ?_⟩) hHeld ?_ ?_
                rotate_left
                · rintro w' ⟨s0, s1, s2, s3, sC⟩
                  have hcv_ := Kd.C_string (P := Try.prog) (A := (some ad134)) (c := c0) Try.underlying22 Try.underlying5 Try.underlying9 sC
                  go_simp
                  with_reducible rfl
                rotate_left
                · simp only [Act.put, List.setIfInBounds_toArray, List.set_cons_zero, List.set_cons_succ, i64_w, i32_w]
                  rfl
                refine take_ (i := 0) (N := some 43) (v := ?_) (a' := ?_) #[true, false, false, true, true, false] rfl rfl (by kernel_rfl) (fun _ _ _ h => h) (Or.inl ⟨by rfl, ?_⟩) hHeld ?_ ?_
                rotate_left
                · rintro w' ⟨s0, s1, s2, s3, sC⟩
                  go_simp
                  with_reducible rfl
                rotate_left
                · simp only [Act.put, List.setIfInBounds_toArray, List.set_cons_zero, List.set_cons_succ, i64_w, i32_w]
                  rfl
                refine one_ (i := 1) (N := some 44) #[true, true, false, true, true, false] rfl rfl (by kernel_rfl) (by decide) (fun K hK => ?_)
                refine goes_ Try.func47 (by kernel_rfl) rfl #[.agg #[.int .i64 (wrap64 (rd l0 0)), .int .i64 (wrap64 (Go.bits .xor .u64 t136 9223372036854775808)), .float .f64 0, .slice none 0 0]] (by rfl) rfl rfl (by (try simp only [List.map_toArray, List.map_cons, List.map_nil]); first | done | rfl | (simp only [List.length_drop, List.length_take]; rfl)) ?_
                refine (spec_ValueBytes.calls kj1 (wrap64 (rd l0 0)) (wrap64 (Go.bits .xor .u64 t136 9223372036854775808)) 0 _ _ ([] : List Int) t137 _ ?side1 ?side2 A14.out).mono ?_
                (case side1 => exact Kd.C_nil _ _)
                (case side2 => exact Nat.le_refl _)
                rintro e w21 ⟨v138, rfl, ho0, hb⟩
                refine ⟨_, rfl, ?_⟩
                have n0_ := Aside0.mk (Kd.R_lower ho0 (below_size (by repeat (first | (with_reducible first | exact HB.out | apply below_alloc | apply pw_below_drewN | apply below_drew1 | refine below_set ?_ GE132.out | refine below_set ?_ GE133.out) | exact HB.out))))
                have n1_ := Aside0.mk (blk_below (g := gb132) (o := .cells #[.int .i64 0, .int .i64 0, .float .f64 0, .slice none 0 0] 25 (0, 0)) (by (with_reducible repeat (first | refine blk_drewN ?_ _ | refine blk_drew ?_ | refine blk_alloc ?_ _)); exact BK132.out) hb)
                have n2_ := Aside0.mk (blk_below (g := gb133) (o := .cells #[.int .i64 (wrap64 (rd l0 0)), .int .i64 (wrap64 (Go.bits .xor .u64 t136 9223372036854775808)), .float .f64 0, .slice none 0 0] 25 (0, 0)) (by (with_reducible repeat (first | refine blk_drewN ?_ _ | refine blk_drew ?_ | refine blk_alloc ?_ _)); exact BK133.out) hb)
                have n3_ := Aside0.mk (below_step (by repeat (first | (with_reducible first | exact HB.out | apply below_alloc | apply pw_below_drewN | apply below_drew1 | refine below_set ?_ GE132.out | refine below_set ?_ GE133.out) | exact HB.out)) hb)
                clear BK132
                clear BK133
                clear HB
                have HO139 := n0_
                have BK132 := n1_
                have BK133 := n2_
                have HB := n3_
                clear n0_ n1_ n2_ n3_
                (try clear hb)
                (try clear hb2)
                (try clear hk)
                (try clear hi)
                (try clear ho0)
                have hcv23 := Kd.C_string (P := Try.prog) (A := (some ad134)) (c := c0) Try.underlying22 Try.underlying5 Try.underlying9 (Kd.C_below HR0.out HB.out)
                refine hK.out _ _ ⟨(blk_cell BK133.out 0).trans rfl, (blk_cell BK133.out 1).trans rfl, (blk_cell BK133.out 2).trans rfl, (blk_cell BK133.out 3).trans rfl, (Kd.C_below HR0.out HB.out)⟩ (fun hHeld => ?_)
                clear hK K
                refine norm_ (a' := ?_) ?_ ?_
                rotate_left
                · show Act.put _ (some 44) _ = _
                  simp only [Act.put, List.setIfInBounds_toArray, List.set_cons_zero, List.set_cons_succ, i64_w, i32_w]
                  rfl
                refine one_ (i := 2) (N := some 45) #[true, true, true, true, true, false] rfl rfl (by kernel_rfl) (by decide) (fun K hK => ?_)
                have hcv22 := own_string (P := Try.prog) Try.underlying22 Try.underlying5 Try.underlying9 (Kd.own_of_R HO139.out)
                refine value_ (w1 := ?_) (v := ?_) (by rfl) rfl ?_ ?_
                rotate_left 2
                · go_simp
                  constructor
                  · rfl
                  · rfl
                clear hcv22
                refine hK.out _ _ ⟨(blk_cell BK133.out 0).trans rfl, (blk_cell BK133.out 1).trans rfl, (blk_cell BK133.out 2).trans rfl, (blk_cell BK133.out 3).trans rfl, (Kd.C_below HR0.out HB.out)⟩ (fun hHeld => ?_)
                clear hK K
                refine norm_ (a' := ?_) ?_ ?_
                rotate_left
                · show Act.put _ (some 45) _ = _
                  simp only [Act.put, List.setIfInBounds_toArray, List.set_cons_zero, List.set_cons_succ, i64_w, i32_w]
                  rfl
                refine pure_ (i := 5) (N := some 48) (v := ?_) (a' := ?_) #[true, true, true, true, true, true] rfl rfl (by kernel_rfl) (fun _ _ _ h => h) (Or.inl ⟨by rfl, ?_⟩) ?_ ?_
                rotate_left
                · intro w'
                  go_simp
                  with_reducible rfl
                rotate_left
                · simp only [Act.put, List.setIfInBounds_toArray, List.set_cons_zero, List.set_cons_succ, i64_w, i32_w]
                  rfl
                refine done_ (by kernel_rfl) ?_
                have hcz25_0 : w21.cell? ⟨gb133, 0, none⟩ = some (.int .i64 (wrap64 (rd l0 0))) := (blk_cell BK133.out 0).trans rfl
                have hcz25_1 : w21.cell? ⟨gb133, 1, none⟩ = some (.int .i64 (wrap64 (Go.bits .xor .u64 t136 9223372036854775808))) := (blk_cell BK133.out 1).trans rfl
                have hcz25_2 : w21.cell? ⟨gb133, 2, none⟩ = some (.float .f64 0) := (blk_cell BK133.out 2).trans rfl
                have hcz25_3 : w21.cell? ⟨gb133, 3, none⟩ = some (.slice none 0 0) := (blk_cell BK133.out 3).trans rfl
                have hfz25_0 := blk_frozen BK133.out 0
                have hfz25_1 := blk_frozen BK133.out 1
                have hfz25_2 := blk_frozen BK133.out 2
                have hfz25_3 := blk_frozen BK133.out 3
                have hcz26_0 : w21.cell? ⟨gb132, 0, none⟩ = some (.int .i64 0) := (blk_cell BK132.out 0).trans rfl
                have hcz26_1 : w21.cell? ⟨gb132, 1, none⟩ = some (.int .i64 0) := (blk_cell BK132.out 1).trans rfl
                have hcz26_2 : w21.cell? ⟨gb132, 2, none⟩ = some (.float .f64 0) := (blk_cell BK132.out 2).trans rfl
                have hcz26_3 : w21.cell? ⟨gb132, 3, none⟩ = some (.slice none 0 0) := (blk_cell BK132.out 3).trans rfl
                have hfz26_0 := blk_frozen BK132.out 0
                have hfz26_1 := blk_frozen BK132.out 1
                have hfz26_2 := blk_frozen BK132.out 2
                have hfz26_3 := blk_frozen BK132.out 3
                try go_wp2
                refine bodyPost_ret (results_ct rfl _ _ gb132 25 #[.int .i64 (wrap64 (rd l0 0)), .int .i64 (wrap64 (Go.bits .xor .u64 t136 9223372036854775808)), .float .f64 0, .slice none 0 0] (0, 0) _ rfl (by (with_reducible repeat (first | refine blk_drewN ?_ _ | refine blk_drew ?_ | refine blk_alloc ?_ _)); refine blk_put (cs := #[.int .i64 (wrap64 (rd l0 0)), .int .i64 (wrap64 (Go.bits .xor .u64 t136 9223372036854775808)), .float .f64 0, .slice none 0 0]) ?_ 3 _ rfl; (with_reducible repeat (first | refine blk_drewN ?_ _ | refine blk_drew ?_ | refine blk_alloc ?_ _)); refine blk_put (cs := #[.int .i64 (wrap64 (rd l0 0)), .int .i64 (wrap64 (Go.bits .xor .u64 t136 9223372036854775808)), .float .f64 0, .slice none 0 0]) ?_ 2 _ rfl; (with_reducible repeat (first | refine blk_drewN ?_ _ | refine blk_drew ?_ | refine blk_alloc ?_ _)); refine blk_put (cs := #[.int .i64 (wrap64 (rd l0 0)), .int .i64 0, .float .f64 0, .slice none 0 0]) ?_ 1 _ rfl; (with_reducible repeat (first | refine blk_drewN ?_ _ | refine blk_drew ?_ | refine blk_alloc ?_ _)); refine blk_put (cs := #[.int .i64 0, .int .i64 0, .float .f64 0, .slice none 0 0]) ?_ 0 _ rfl; (with_reducible repeat (first | refine blk_drewN ?_ _ | refine blk_drew ?_ | refine blk_alloc ?_ _)); exact BK132.out) Try.underlying25 rfl (by kernel_rfl)) rfl ?_
                exact ⟨_, _, by first | rfl | (simp [errW_none, errW_some] <;> rfl) | (simp [*, errW_none, errW_some] <;> rfl), by first | exact Kd.R_nil _ _ _ _ _ | exact Kd.N_nil _ _ _ _ _ | exact Kd.V_nil _ _ _ _ _ | exact Kd.Q_nil _ _ _ _ _ | exact Kd.S_nil _ _ _ _ _, by repeat (first | (with_reducible first | exact HB.out | apply below_alloc | apply pw_below_drewN | apply below_drew1 | refine below_set ?_ GE132.out | refine below_set ?_ GE133.out) | exact HB.out), (by first | exact ⟨⟨by first | rfl | decide, by decide⟩⟩)⟩
              · rw [if_neg c15] at H
                have c15b0 : ((strOfNums t137).toList == (strOfNums l0).toList) = false := beq_eq_false_iff_ne.mpr c15
                have c15b1 : ((strOfNums t137).toList != (strOfNums l0).toList) = true := bne_iff_ne.mpr c15
                simp only [Option.some.injEq, Prod.mk.injEq] at H
                obtain ⟨rfl, rfl, rfl, rfl, rfl⟩ := H
                have p134 : 0 ≤ (0 : Int) := (by omega)
                have q134 : 0 < (l0.length : Int) := of_decide_eq_true (by first | (with_reducible assumption) | assumption)
                obtain ⟨ad134, e134, hx134_0⟩ := Kd.at_int HR0.out 0 p134 q134
                cases e134
                have qi134 : (0 < l0.length) = True := eq_true (by omega)
                (try rw [show ((0 : Int)).toNat = 0 from rfl] at hx134_0)
                (try rw [Addr.add_zero'] at hx134_0)
                replace hx134_0 := (HB.out.cell (World.block_lt_of_cell? w _ hx134_0)).trans hx134_0
                replace p134 := eq_true p134
                replace q134 := eq_true q134
                have hnb27 := NB133_132.out
                have hnc27 := NB132_133.out
                have hcz28_0 : wc.cell? ⟨gb133, 0, none⟩ = some (.int .i64 0) := (blk_cell BK133.out 0).trans rfl
                have hcz28_1 : wc.cell? ⟨gb133, 1, none⟩ = some (.int .i64 0) := (blk_cell BK133.out 1).trans rfl
                have hcz28_2 : wc.cell? ⟨gb133, 2, none⟩ = some (.float .f64 0) := (blk_cell BK133.out 2).trans rfl
                have hcz28_3 : wc.cell? ⟨gb133, 3, none⟩ = some (.slice none 0 0) := (blk_cell BK133.out 3).trans rfl
                have hfz28_0 := blk_frozen BK133.out 0
                have hfz28_1 := blk_frozen BK133.out 1
                have hfz28_2 := blk_frozen BK133.out 2
                have hfz28_3 := blk_frozen BK133.out 3
                obtain ⟨i029, hi029, _, hsz29, _⟩ := info_parts info5
                obtain ⟨A29, hcut29, hA29, hC29⟩ := print_drop_of (P := Try.prog) (Value.int .u8) 0 22 5 .i64 Try.underlying22 hi029 hsz29 (some ad134) c0 l0 1 (by omega) (of_decide_eq_true (by first | (with_reducible assumption) | assumption)) HC0.out
                have HR135 := Aside0.mk (Kd.C_of_reads (h1 := fun _ => rfl) (hA29 _ (Kd.reads_of_C HR0.out)))
                have HC135 := Aside0.mk hC29
                clear hA29 hC29 hi029 hsz29
                try go_wp2_with (first | ((with_reducible refine gate_callee (f := 45) rfl ?_); refine goesL_ (some 25) rfl rfl Try.func45 (by kernel_rfl) rfl #[.slice A29 (l0.drop 1).length (c0 - 1)] rfl (by (try simp only [List.map_toArray, List.map_cons, List.map_nil]); first | done | (rw [show (l0.drop 1).length = (l0.length - 1) from List.length_drop] <;> rfl) | rfl | (simp only [List.length_drop, List.length_take]; rfl)) ?_; (with_reducible refine (spec_l3low.calls kj1 _ _ (l0.drop 1) t136 _ ?side1 ?side2 A13.out).mono ?_); (case side1 => exact Kd.C_below HR135.out (by repeat (first | (with_reducible first | exact HB.out | apply below_alloc | apply pw_below_drewN | apply below_drew1 | refine below_set ?_ GE132.out | refine below_set ?_ GE133.out) | exact HB.out))); (case side2 => exact HC135.out); rintro e w' ⟨rfl, ⟨nd, rfl⟩⟩; refine ⟨_, rfl, ?_⟩))
                (try rw [setCell_drewN])
                have n0_ : Aside0 (((wc.setCell ⟨gb133, 0, none⟩ (.int .i64 (wrap64 (rd l0 0)))).setCell ⟨gb133, 1, none⟩ (.int .i64 (wrap64 (Go.bits .xor .u64 t136 9223372036854775808)))).heap[gb132]? = some (.cells #[.int .i64 0, .int .i64 0, .float .f64 0, .slice none 0 0] 25 (0, 0))) := ⟨by (with_reducible repeat (first | refine blk_drewN ?_ _ | refine blk_drew ?_ | refine blk_alloc ?_ _)); refine blk_far ?_ NB132_133.out _; (with_reducible repeat (first | refine blk_drewN ?_ _ | refine blk_drew ?_ | refine blk_alloc ?_ _)); refine blk_far ?_ NB132_133.out _; (with_reducible repeat (first | refine blk_drewN ?_ _ | refine blk_drew ?_ | refine blk_alloc ?_ _)); exact BK132.out⟩
                have n1_ : Aside0 (((wc.setCell ⟨gb133, 0, none⟩ (.int .i64 (wrap64 (rd l0 0)))).setCell ⟨gb133, 1, none⟩ (.int .i64 (wrap64 (Go.bits .xor .u64 t136 9223372036854775808)))).heap[gb133]? = some (.cells #[.int .i64 (wrap64 (rd l0 0)), .int .i64 (wrap64 (Go.bits .xor .u64 t136 9223372036854775808)), .float .f64 0, .slice none 0 0] 25 (0, 0))) := ⟨by (with_reducible repeat (first | refine blk_drewN ?_ _ | refine blk_drew ?_ | refine blk_alloc ?_ _)); refine blk_put (cs := #[.int .i64 (wrap64 (rd l0 0)), .int .i64 0, .float .f64 0, .slice none 0 0]) ?_ 1 _ rfl; (with_reducible repeat (first | refine blk_drewN ?_ _ | refine blk_drew ?_ | refine blk_alloc ?_ _)); refine blk_put (cs := #[.int .i64 0, .int .i64 0, .float .f64 0, .slice none 0 0]) ?_ 0 _ rfl; (with_reducible repeat (first | refine blk_drewN ?_ _ | refine blk_drew ?_ | refine blk_alloc ?_ _)); exact BK133.out⟩
                have n2_ : Aside0 (Below w.heap.size w ((wc.setCell ⟨gb133, 0, none⟩ (.int .i64 (wrap64 (rd l0 0)))).setCell ⟨gb133, 1, none⟩ (.int .i64 (wrap64 (Go.bits .xor .u64 t136 9223372036854775808))))) := ⟨by repeat (first | (with_reducible first | exact HB.out | apply below_alloc | apply pw_below_drewN | apply below_drew1 | refine below_set ?_ GE132.out | refine below_set ?_ GE133.out) | exact HB.out)⟩
                (try clear BK132)
                (try clear BK133)
                (try clear HB)
                generalize ((wc.setCell ⟨gb133, 0, none⟩ (.int .i64 (wrap64 (rd l0 0)))).setCell ⟨gb133, 1, none⟩ (.int .i64 (wrap64 (Go.bits .xor .u64 t136 9223372036854775808)))) = w30 at n0_ n1_ n2_ ⊢
                have BK132 := n0_
                have BK133 := n1_
                have HB := n2_
                clear n0_ n1_ n2_
                (try (rw [drewN_self w30]; generalize hq_ : World.drewN w30 _ = w30; have n0_ : Aside0 (w30.heap[gb132]? = some (.cells #[.int .i64 0, .int .i64 0, .float .f64 0, .slice none 0 0] 25 (0, 0))) := ⟨by rw [← hq_]; exact (by (with_reducible repeat (first | refine blk_drewN ?_ _ | refine blk_drew ?_ | refine blk_alloc ?_ _)); exact BK132.out)⟩; have n1_ : Aside0 (w30.heap[gb133]? = some (.cells #[.int .i64 (wrap64 (rd l0 0)), .int .i64 (wrap64 (Go.bits .xor .u64 t136 9223372036854775808)), .float .f64 0, .slice none 0 0] 25 (0, 0))) := ⟨by rw [← hq_]; exact (by (with_reducible repeat (first | refine blk_drewN ?_ _ | refine blk_drew ?_ | refine blk_alloc ?_ _)); exact BK133.out)⟩; have n2_ : Aside0 (Below w.heap.size w w30) := ⟨by rw [← hq_]; exact (by repeat (first | (with_reducible first | exact HB.out | apply below_alloc | apply pw_below_drewN | apply below_drew1 | refine below_set ?_ GE132.out | refine below_set ?_ GE133.out) | exact HB.out))⟩; clear BK132 BK133 HB hq_; have BK132 := n0_; have BK133 := n1_; have HB := n2_; clear n0_ n1_ n2_))
                have n0_ := Aside0.mk (blk_drew BK132.out)
                have n1_ := Aside0.mk (blk_drew BK133.out)
                have n2_ := Aside0.mk (below_drew1 HB.out)
                clear BK132
                clear BK133
                clear HB
                have BK132 := n0_
                have BK133 := n1_
                have HB := n2_
                clear n0_ n1_ n2_
                refine start_ (n := 6) (S := fun w' => w'.cell? ⟨gb133, 0, none⟩ = some (.int .i64 (wrap64 (rd l0 0))) ∧ w'.cell? ⟨gb133, 1, none⟩ = some (.int .i64 (wrap64 (Go.bits .xor .u64 t136 9223372036854775808))) ∧ w'.cell? ⟨gb133, 2, none⟩ = some (.float .f64 0) ∧ w'.cell? ⟨gb133, 3, none⟩ = some (.slice none 0 0) ∧ Kd.C (Kd.int .u8) w' (some ad134) l0.length l0) (ds := []) #[false, false, false, false, false, false] (by kernel_rfl) rfl rfl ⟨(blk_cell BK133.out 0).trans rfl, (blk_cell BK133.out 1).trans rfl, (blk_cell BK133.out 2).trans rfl, (blk_cell BK133.out 3).trans rfl, (Kd.C_below HR0.out HB.out)⟩ (fun hHeld => ?_)
                generalize w30.drew = w31 at BK132 BK133 HB hHeld ⊢
                refine pure_ (i := 3) (N := some 46) (v := ?_) (a' := ?_) #[false, false, false, true, false, false] rfl rfl (by kernel_rfl) (fun _ _ _ h => h) (Or.inl ⟨by rfl, ?_⟩) ?_ ?_
                rotate_left
                · intro w'
                  go_simp
                  with_reducible rfl
                rotate_left
                · simp only [Act.put, List.setIfInBounds_toArray, List.set_cons_zero, List.set_cons_succ, i64_w, i32_w]
                  rfl
                refine take_ (i := 4) (N := some 47) (v := ?_) (a' := ?_) #[false, false, false, true, true, false] rfl rfl (by kernel_rfl) (fun _ _ _ h => h) (Or.inl ⟨by rfl, ?_⟩) hHeld ?_ ?_
                rotate_left
                · rintro w' ⟨s0, s1, s2, s3, sC⟩
                  have hcv_ := Kd.C_string (P := Try.prog) (A := (some ad134)) (c := c0) Try.underlying22 Try.underlying5 Try.underlying9 sC
                  go_simp
                  with_reducible rfl
                rotate_left
                · simp only [Act.put, List.setIfInBounds_toArray, List.set_cons_zero, List.set_cons_succ, i64_w, i32_w]
                  rfl
                refine take_ (i := 0) (N := some 43) (v := ?_) (a' := ?_) #[true, false, false, true, true, false] rfl rfl (by kernel_rfl) (fun _ _ _ h => h) (Or.inl ⟨by rfl, ?_⟩) hHeld ?_ ?_
                rotate_left
                · rintro w' ⟨s0, s1, s2, s3, sC⟩
                  go_simp
                  with_reducible rfl
                rotate_left
                · simp only [Act.put, List.setIfInBounds_toArray, List.set_cons_zero, List.set_cons_succ, i64_w, i32_w]
                  rfl
                refine one_ (i := 1) (N := some 44) #[true, true, false, true, true, false] rfl rfl (by kernel_rfl) (by decide) (fun K hK => ?_)
                refine goes_ Try.func47 (by kernel_rfl) rfl #[.agg #[.int .i64 (wrap64 (rd l0 0)), .int .i64 (wrap64 (Go.bits .xor .u64 t136 9223372036854775808)), .float .f64 0, .slice none 0 0]] (by rfl) rfl rfl (by (try simp only [List.map_toArray, List.map_cons, List.map_nil]); first | done | rfl | (simp only [List.length_drop, List.length_take]; rfl)) ?_
                refine (spec_ValueBytes.calls kj1 (wrap64 (rd l0 0)) (wrap64 (Go.bits .xor .u64 t136 9223372036854775808)) 0 _ _ ([] : List Int) t137 _ ?side1 ?side2 A14.out).mono ?_
                (case side1 => exact Kd.C_nil _ _)
                (case side2 => exact Nat.le_refl _)
                rintro e w32 ⟨v138, rfl, ho0, hb⟩
                refine ⟨_, rfl, ?_⟩
                have n0_ := Aside0.mk (Kd.R_lower ho0 (below_size (by repeat (first | (with_reducible first | exact HB.out | apply below_alloc | apply pw_below_drewN | apply below_drew1 | refine below_set ?_ GE132.out | refine below_set ?_ GE133.out) | exact HB.out))))
                have n1_ := Aside0.mk (blk_below (g := gb132) (o := .cells #[.int .i64 0, .int .i64 0, .float .f64 0, .slice none 0 0] 25 (0, 0)) (by (with_reducible repeat (first | refine blk_drewN ?_ _ | refine blk_drew ?_ | refine blk_alloc ?_ _)); exact BK132.out) hb)
                have n2_ := Aside0.mk (blk_below (g := gb133) (o := .cells #[.int .i64 (wrap64 (rd l0 0)), .int .i64 (wrap64 (Go.bits .xor .u64 t136 9223372036854775808)), .float .f64 0, .slice none 0 0] 25 (0, 0)) (by (with_reducible repeat (first | refine blk_drewN ?_ _ | refine blk_drew ?_ | refine blk_alloc ?_ _)); exact BK133.out) hb)
                have n3_ := Aside0.mk (below_step (by repeat (first | (with_reducible first | exact HB.out | apply below_alloc | apply pw_below_drewN | apply below_drew1 | refine below_set ?_ GE132.out | refine below_set ?_ GE133.out) | exact HB.out)) hb)
                clear BK132
                clear BK133
                clear HB
                have HO139 := n0_
                have BK132 := n1_
                have BK133 := n2_
                have HB := n3_
                clear n0_ n1_ n2_ n3_
                (try clear hb)
                (try clear hb2)
                (try clear hk)
                (try clear hi)
                (try clear ho0)
                have hcv34 := Kd.C_string (P := Try.prog) (A := (some ad134)) (c := c0) Try.underlying22 Try.underlying5 Try.underlying9 (Kd.C_below HR0.out HB.out)
                refine hK.out _ _ ⟨(blk_cell BK133.out 0).trans rfl, (blk_cell BK133.out 1).trans rfl, (blk_cell BK133.out 2).trans rfl, (blk_cell BK133.out 3).trans rfl, (Kd.C_below HR0.out HB.out)⟩ (fun hHeld => ?_)
                clear hK K
                refine norm_ (a' := ?_) ?_ ?_
                rotate_left
                · show Act.put _ (some 44) _ = _
                  simp only [Act.put, List.setIfInBounds_toArray, List.set_cons_zero, List.set_cons_succ, i64_w, i32_w]
                  rfl
                refine one_ (i := 2) (N := some 45) #[true, true, true, true, true, false] rfl rfl (by kernel_rfl) (by decide) (fun K hK => ?_)
                have hcv33 := own_string (P := Try.prog) Try.underlying22 Try.underlying5 Try.underlying9 (Kd.own_of_R HO139.out)
                refine value_ (w1 := ?_) (v := ?_) (by rfl) rfl ?_ ?_
                rotate_left 2
                · go_simp
                  constructor
                  · rfl
                  · rfl
                clear hcv33
                refine hK.out _ _ ⟨(blk_cell BK133.out 0).trans rfl, (blk_cell BK133.out 1).trans rfl, (blk_cell BK133.out 2).trans rfl, (blk_cell BK133.out 3).trans rfl, (Kd.C_below HR0.out HB.out)⟩ (fun hHeld => ?_)
                clear hK K
                refine norm_ (a' := ?_) ?_ ?_
                rotate_left
                · show Act.put _ (some 45) _ = _
                  simp only [Act.put, List.setIfInBounds_toArray, List.set_cons_zero, List.set_cons_succ, i64_w, i32_w]
                  rfl
                refine pure_ (i := 5) (N := some 48) (v := ?_) (a' := ?_) #[true, true, true, true, true, true] rfl rfl (by kernel_rfl) (fun _ _ _ h => h) (Or.inl ⟨by rfl, ?_⟩) ?_ ?_
                rotate_left
                · intro w'
                  go_simp
                  with_reducible rfl
                rotate_left
                · simp only [Act.put, List.setIfInBounds_toArray, List.set_cons_zero, List.set_cons_succ, i64_w, i32_w]
                  rfl
                refine done_ (by kernel_rfl) ?_
                have hcz36_0 : w32.cell? ⟨gb132, 0, none⟩ = some (.int .i64 0) := (blk_cell BK132.out 0).trans rfl
                have hcz36_1 : w32.cell? ⟨gb132, 1, none⟩ = some (.int .i64 0) := (blk_cell BK132.out 1).trans rfl
                have hcz36_2 : w32.cell? ⟨gb132, 2, none⟩ = some (.float .f64 0) := (blk_cell BK132.out 2).trans rfl
                have hcz36_3 : w32.cell? ⟨gb132, 3, none⟩ = some (.slice none 0 0) := (blk_cell BK132.out 3).trans rfl
                have hfz36_0 := blk_frozen BK132.out 0
                have hfz36_1 := blk_frozen BK132.out 1
                have hfz36_2 := blk_frozen BK132.out 2
                have hfz36_3 := blk_frozen BK132.out 3
                try go_wp2
                refine bodyPost_ret (results_ct rfl _ _ gb132 25 #[.int .i64 0, .int .i64 0, .float .f64 0, .slice none 0 0] (0, 0) _ rfl (by (with_reducible repeat (first | refine blk_drewN ?_ _ | refine blk_drew ?_ | refine blk_alloc ?_ _)); refine blk_put (cs := #[.int .i64 0, .int .i64 0, .float .f64 0, .slice none 0 0]) ?_ 3 _ rfl; (with_reducible repeat (first | refine blk_drewN ?_ _ | refine blk_drew ?_ | refine blk_alloc ?_ _)); refine blk_put (cs := #[.int .i64 0, .int .i64 0, .float .f64 0, .slice none 0 0]) ?_ 2 _ rfl; (with_reducible repeat (first | refine blk_drewN ?_ _ | refine blk_drew ?_ | refine blk_alloc ?_ _)); refine blk_put (cs := #[.int .i64 0, .int .i64 0, .float .f64 0, .slice none 0 0]) ?_ 1 _ rfl; (with_reducible repeat (first | refine blk_drewN ?_ _ | refine blk_drew ?_ | refine blk_alloc ?_ _)); refine blk_put (cs := #[.int .i64 0, .int .i64 0, .float .f64 0, .slice none 0 0]) ?_ 0 _ rfl; (with_reducible repeat (first | refine blk_drewN ?_ _ | refine blk_drew ?_ | refine blk_alloc ?_ _)); exact BK132.out) Try.underlying25 rfl (by kernel_rfl)) rfl ?_
                exact ⟨_, _, by first | rfl | (simp [errW_none, errW_some] <;> rfl) | (simp [*, errW_none, errW_some] <;> rfl), by first | exact Kd.R_nil _ _ _ _ _ | exact Kd.N_nil _ _ _ _ _ | exact Kd.V_nil _ _ _ _ _ | exact Kd.Q_nil _ _ _ _ _ | exact Kd.S_nil _ _ _ _ _, by repeat (first | (with_reducible first | exact HB.out | apply below_alloc | apply pw_below_drewN | apply below_drew1 | refine below_set ?_ GE132.out | refine below_set ?_ GE133.out) | exact HB.out), (by first | exact ⟨⟨by first | rfl | decide, by decide⟩⟩)⟩
            · rw [if_neg c12] at H
              exact absurd H (by simp)
          · rw [if_neg c11] at H
            have c11b0 : ((wrap64 (rd l0 0)) == 1) = false := beq_eq_false_iff_ne.mpr c11
            have c11b1 : ((wrap64 (rd l0 0)) != 1) = true := bne_iff_ne.mpr c11
            by_cases c37 : (wrap64 (rd l0 0)) = 2
            · rw [if_pos c37] at H
              have c37b0 : ((wrap64 (rd l0 0)) == 2) = true := beq_iff_eq.mpr c37
              have c37b1 : ((wrap64 (rd l0 0)) != 2) = false := bne_eq_false_iff_eq.mpr c37
              clear c37
              by_cases c38 : 1 ≤ (l0.length : Int)
              · rw [if_pos c38] at H
                have c38b0 := eq_true c38
                have c38b1 : decide (1 ≤ (l0.length : Int)) = true := decide_eq_true c38
                clear c38
                replace H := Option.bind_eq_some_iff.mp H
                obtain ⟨t141, A390, H⟩ := H
                replace H : ((spec_FloatOf.c kj1 t141).bind fun t142 => ((spec_ValueBytes.f kj1 (wrap64 (rd l0 0)) 0 t142 ([] : List Int)).bind fun t143 => (if (strOfNums t143).toList = (strOfNums l0).toList then (some (wrap64 (rd l0 0), 0, t142, ([] : List Int), true)) else (some (0, 0, 0, ([] : List Int), false))))) = some (r1, r2, r3, r4, r5) := H
                have A39 := Aside0.mk A390
                clear A390
                replace H := Option.bind_eq_some_iff.mp H
                obtain ⟨t142, A400, H⟩ := H
                replace H : ((spec_ValueBytes.f kj1 (wrap64 (rd l0 0)) 0 t142 ([] : List Int)).bind fun t143 => (if (strOfNums t143).toList = (strOfNums l0).toList then (some (wrap64 (rd l0 0), 0, t142, ([] : List Int), true)) else (some (0, 0, 0, ([] : List Int), false)))) = some (r1, r2, r3, r4, r5) := H
                have A40 := Aside0.mk A400
                clear A400
                replace H := Option.bind_eq_some_iff.mp H
                obtain ⟨t143, A410, H⟩ := H
                replace H : (if (strOfNums t143).toList = (strOfNums l0).toList then (some (wrap64 (rd l0 0), 0, t142, ([] : List Int), true)) else (some (0, 0, 0, ([] : List Int), false))) = some (r1, r2, r3, r4, r5) := H
                have A41 := Aside0.mk A410
                clear A410
                by_cases c42 : (strOfNums t143).toList = (strOfNums l0).toList
                · rw [if_pos c42] at H
                  have c42b0 : ((strOfNums t143).toList == (strOfNums l0).toList) = true := beq_iff_eq.mpr c42
                  have c42b1 : ((strOfNums t143).toList != (strOfNums l0).toList) = false := bne_eq_false_iff_eq.mpr c42
                  clear c42
                  simp only [Option.some.injEq, Prod.mk.injEq] at H
                  obtain ⟨rfl, rfl, rfl, rfl, rfl⟩ := H
                  have p134 : 0 ≤ (0 : Int) := (by omega)
                  have q134 : 0 < (l0.length : Int) := of_decide_eq_true (by first | (with_reducible assumption) | assumption)
                  obtain ⟨ad134, e134, hx134_0⟩ := Kd.at_int HR0.out 0 p134 q134
                  cases e134
                  have qi134 : (0 < l0.length) = True := eq_true (by omega)
                  (try rw [show ((0 : Int)).toNat = 0 from rfl] at hx134_0)
                  (try rw [Addr.add_zero'] at hx134_0)
                  replace hx134_0 := (HB.out.cell (World.block_lt_of_cell? w _ hx134_0)).trans hx134_0
                  replace p134 := eq_true p134
                  replace q134 := eq_true q134
                  have hnb43 := NB133_132.out
                  have hnc43 := NB132_133.out
                  have hcz44_0 : wc.cell? ⟨gb133, 0, none⟩ = some (.int .i64 0) := (blk_cell BK133.out 0).trans rfl
                  have hcz44_1 : wc.cell? ⟨gb133, 1, none⟩ = some (.int .i64 0) := (blk_cell BK133.out 1).trans rfl
                  have hcz44_2 : wc.cell? ⟨gb133, 2, none⟩ = some (.float .f64 0) := (blk_cell BK133.out 2).trans rfl
                  have hcz44_3 : wc.cell? ⟨gb133, 3, none⟩ = some (.slice none 0 0) := (blk_cell BK133.out 3).trans rfl
                  have hfz44_0 := blk_frozen BK133.out 0
                  have hfz44_1 := blk_frozen BK133.out 1
                  have hfz44_2 := blk_frozen BK133.out 2
                  have hfz44_3 := blk_frozen BK133.out 3
                  obtain ⟨i045, hi045, _, hsz45, _⟩ := info_parts info5
                  obtain ⟨A45, hcut45, hA45, hC45⟩ := print_drop_of (P := Try.prog) (Value.int .u8) 0 22 5 .i64 Try.underlying22 hi045 hsz45 (some ad134) c0 l0 1 (by omega) (of_decide_eq_true (by first | (with_reducible assumption) | assumption)) HC0.out
                  have HR140 := Aside0.mk (Kd.C_of_reads (h1 := fun _ => rfl) (hA45 _ (Kd.reads_of_C HR0.out)))
                  have HC140 := Aside0.mk hC45
                  clear hA45 hC45 hi045 hsz45
                  try go_wp2_with (first | ((with_reducible refine gate_callee (f := 45) rfl ?_); refine goesL_ (some 33) rfl rfl Try.func45 (by kernel_rfl) rfl #[.slice A45 (l0.drop 1).length (c0 - 1)] rfl (by (try simp only [List.map_toArray, List.map_cons, List.map_nil]); first | done | (rw [show (l0.drop 1).length = (l0.length - 1) from List.length_drop] <;> rfl) | rfl | (simp only [List.length_drop, List.length_take]; rfl)) ?_; (with_reducible refine (spec_l3low.calls kj1 _ _ (l0.drop 1) t141 _ ?side1 ?side2 A39.out).mono ?_); (case side1 => exact Kd.C_below HR140.out (by repeat (first | (with_reducible first | exact HB.out | apply below_alloc | apply pw_below_drewN | apply below_drew1 | refine below_set ?_ GE132.out | refine below_set ?_ GE133.out) | exact HB.out))); (case side2 => exact HC140.out); rintro e w' ⟨rfl, ⟨nd, rfl⟩⟩; refine ⟨_, rfl, ?_⟩) | ((with_reducible refine gate_callee (f := 46) rfl ?_); refine goesL_ (some 34) rfl rfl Try.func46 (by kernel_rfl) rfl #[.int .u64 t141] rfl (by (try simp only [List.map_toArray, List.map_cons, List.map_nil]); first | done | rfl | (simp only [List.length_drop, List.length_take]; rfl)) ?_; (with_reducible refine (spec_FloatOf.callsC kj1 t141 t142 _ A40.out).mono ?_); rintro e w' ⟨b142, rfl, ⟨nd, rfl⟩, ⟨⟨hcnb142, hltb142⟩⟩⟩; refine ⟨_, rfl, ?_⟩; have LTb142 := Aside0.mk hltb142; clear hltb142; subst hcnb142))
                  (try rw [setCell_drewN])
                  have n0_ : Aside0 (((wc.setCell ⟨gb133, 0, none⟩ (.int .i64 (wrap64 (rd l0 0)))).setCell ⟨gb133, 2, none⟩ (.float .f64 b142)).heap[gb132]? = some (.cells #[.int .i64 0, .int .i64 0, .float .f64 0, .slice none 0 0] 25 (0, 0))) := ⟨by (with_reducible repeat (first | refine blk_drewN ?_ _ | refine blk_drew ?_ | refine blk_alloc ?_ _)); refine blk_far ?_ NB132_133.out _; (with_reducible repeat (first | refine blk_drewN ?_ _ | refine blk_drew ?_ | refine blk_alloc ?_ _)); refine blk_far ?_ NB132_133.out _; (with_reducible repeat (first | refine blk_drewN ?_ _ | refine blk_drew ?_ | refine blk_alloc ?_ _)); exact BK132.out⟩
                  have n1_ : Aside0 (((wc.setCell ⟨gb133, 0, none⟩ (.int .i64 (wrap64 (rd l0 0)))).setCell ⟨gb133, 2, none⟩ (.float .f64 b142)).heap[gb133]? = some (.cells #[.int .i64 (wrap64 (rd l0 0)), .int .i64 0, .float .f64 b142, .slice none 0 0] 25 (0, 0))) := ⟨by (with_reducible repeat (first | refine blk_drewN ?_ _ | refine blk_drew ?_ | refine blk_alloc ?_ _)); refine blk_put (cs := #[.int .i64 (wrap64 (rd l0 0)), .int .i64 0, .float .f64 0, .slice none 0 0]) ?_ 2 _ rfl; (with_reducible repeat (first | refine blk_drewN ?_ _ | refine blk_drew ?_ | refine blk_alloc ?_ _)); refine blk_put (cs := #[.int .i64 0, .int .i64 0, .float .f64 0, .slice none 0 0]) ?_ 0 _ rfl; (with_reducible repeat (first | refine blk_drewN ?_ _ | refine blk_drew ?_ | refine blk_alloc ?_ _)); exact BK133.out⟩
                  have n2_ : Aside0 (Below w.heap.size w ((wc.setCell ⟨gb133, 0, none⟩ (.int .i64 (wrap64 (rd l0 0)))).setCell ⟨gb133, 2, none⟩ (.float .f64 b142))) := ⟨by repeat (first | (with_reducible first | exact HB.out | apply below_alloc | apply pw_below_drewN | apply below_drew1 | refine below_set ?_ GE132.out | refine below_set ?_ GE133.out) | exact HB.out)⟩
                  (try clear BK132)
                  (try clear BK133)
                  (try clear HB)
                  generalize ((wc.setCell ⟨gb133, 0, none⟩ (.int .i64 (wrap64 (rd l0 0)))).setCell ⟨gb133, 2, none⟩ (.float .f64 b142)) = w46 at n0_ n1_ n2_ ⊢
                  have BK132 := n0_
                  have BK133 := n1_
                  have HB := n2_
                  clear n0_ n1_ n2_
                  (try (rw [drewN_self w46]; generalize hq_ : World.drewN w46 _ = w46; have n0_ : Aside0 (w46.heap[gb132]? = some (.cells #[.int .i64 0, .int .i64 0, .float .f64 0, .slice none 0 0] 25 (0, 0))) := ⟨by rw [← hq_]; exact (by (with_reducible repeat (first | refine blk_drewN ?_ _ | refine blk_drew ?_ | refine blk_alloc ?_ _)); exact BK132.out)⟩; have n1_ : Aside0 (w46.heap[gb133]? = some (.cells #[.int .i64 (wrap64 (rd l0 0)), .int .i64 0, .float .f64 b142, .slice none 0 0] 25 (0, 0))) := ⟨by rw [← hq_]; exact (by (with_reducible repeat (first | refine blk_drewN ?_ _ | refine blk_drew ?_ | refine blk_alloc ?_ _)); exact BK133.out)⟩; have n2_ : Aside0 (Below w.heap.size w w46) := ⟨by rw [← hq_]; exact (by repeat (first | (with_reducible first | exact HB.out | apply below_alloc | apply pw_below_drewN | apply below_drew1 | refine below_set ?_ GE132.out | refine below_set ?_ GE133.out) | exact HB.out))⟩; clear BK132 BK133 HB hq_; have BK132 := n0_; have BK133 := n1_; have HB := n2_; clear n0_ n1_ n2_))
                  have n0_ := Aside0.mk (blk_drew BK132.out)
                  have n1_ := Aside0.mk (blk_drew BK133.out)
                  have n2_ := Aside0.mk (below_drew1 HB.out)
                  clear BK132
                  clear BK133
                  clear HB
                  have BK132 := n0_
                  have BK133 := n1_
                  have HB := n2_
                  clear n0_ n1_ n2_
                  refine start_ (n := 6) (S := fun w' => w'.cell? ⟨gb133, 0, none⟩ = some (.int .i64 (wrap64 (rd l0 0))) ∧ w'.cell? ⟨gb133, 1, none⟩ = some (.int .i64 0) ∧ w'.cell? ⟨gb133, 2, none⟩ = some (.float .f64 b142) ∧ w'.cell? ⟨gb133, 3, none⟩ = some (.slice none 0 0) ∧ Kd.C (Kd.int .u8) w' (some ad134) l0.length l0) (ds := []) #[false, false, false, false, false, false] (by kernel_rfl) rfl rfl ⟨(blk_cell BK133.out 0).trans rfl, (blk_cell BK133.out 1).trans rfl, (blk_cell BK133.out 2).trans rfl, (blk_cell BK133.out 3).trans rfl, (Kd.C_below HR0.out HB.out)⟩ (fun hHeld => ?_)
                  generalize w46.drew = w47 at BK132 BK133 HB hHeld ⊢
                  refine pure_ (i := 3) (N := some 46) (v := ?_) (a' := ?_) #[false, false, false, true, false, false] rfl rfl (by kernel_rfl) (fun _ _ _ h => h) (Or.inl ⟨by rfl, ?_⟩) ?_ ?_
                  rotate_left
                  · intro w'
                    go_simp
                    with_reducible rfl
                  rotate_left
                  · simp only [Act.put, List.setIfInBounds_toArray, List.set_cons_zero, List.set_cons_succ, i64_w, i32_w]
                    rfl
                  refine take_ (i := 4) (N := some 47) (v := ?_) (a' := ?_) #[false, false, false, true, true, false] rfl rfl (by kernel_rfl) (fun _ _ _ h => h) (Or.inl ⟨by rfl, ?_⟩) hHeld ?_ ?_
                  rotate_left
                  · rintro w' ⟨s0, s1, s2, s3, sC⟩
                    have hcv_ := Kd.C_string (P := Try.prog) (A := (some ad134)) (c := c0) Try.underlying22 Try.underlying5 Try.underlying9 sC
                    go_simp
                    with_reducible rfl
                  rotate_left
                  · simp only [Act.put, List.setIfInBounds_toArray, List.set_cons_zero, List.set_cons_succ, i64_w, i32_w]
                    rfl
                  refine take_ (i := 0) (N := some 43) (v := ?_) (a' := ?_) #[true, false, false, true, true, false] rfl rfl (by kernel_rfl) (fun _ _ _ h => h) (Or.inl ⟨by rfl, ?_⟩) hHeld ?_ ?_
                  rotate_left
                  · rintro w' ⟨s0, s1, s2, s3, sC⟩
                    go_simp
                    with_reducible rfl
                  rotate_left
                  · simp only [Act.put, List.setIfInBounds_toArray, List.set_cons_zero, List.set_cons_succ, i64_w, i32_w]
                    rfl
                  refine one_ (i := 1) (N := some 44) #[true, true, false, true, true, false] rfl rfl (by kernel_rfl) (by decide) (fun K hK => ?_)
                  refine goes_ Try.func47 (by kernel_rfl) rfl #[.agg #[.int .i64 (wrap64 (rd l0 0)), .int .i64 0, .float .f64 b142, .slice none 0 0]] (by rfl) rfl rfl (by (try simp only [List.map_toArray, List.map_cons, List.map_nil]); first | done | rfl | (simp only [List.length_drop, List.length_take]; rfl)) ?_
                  refine (spec_ValueBytes.calls kj1 (wrap64 (rd l0 0)) 0 b142 _ _ ([] : List Int) t143 _ ?side1 ?side2 ((spec_ValueBytes.inv0 _ _ _ _ _).symm.trans A41.out)).mono ?_
                  (case side1 => exact Kd.C_nil _ _)
                  (case side2 => exact Nat.le_refl _)
                  rintro e w48 ⟨v144, rfl, ho0, hb⟩
                  refine ⟨_, rfl, ?_⟩
                  have n0_ := Aside0.mk (Kd.R_lower ho0 (below_size (by repeat (first | (with_reducible first | exact HB.out | apply below_alloc | apply pw_below_drewN | apply below_drew1 | refine below_set ?_ GE132.out | refine below_set ?_ GE133.out) | exact HB.out))))
                  have n1_ := Aside0.mk (blk_below (g := gb132) (o := .cells #[.int .i64 0, .int .i64 0, .float .f64 0, .slice none 0 0] 25 (0, 0)) (by (with_reducible repeat (first | refine blk_drewN ?_ _ | refine blk_drew ?_ | refine blk_alloc ?_ _)); exact BK132.out) hb)
                  have n2_ := Aside0.mk (blk_below (g := gb133) (o := .cells #[.int .i64 (wrap64 (rd l0 0)), .int .i64 0, .float .f64 b142, .slice none 0 0] 25 (0, 0)) (by (with_reducible repeat (first | refine blk_drewN ?_ _ | refine blk_drew ?_ | refine blk_alloc ?_ _)); exact BK133.out) hb)
                  have n3_ := Aside0.mk (below_step (by repeat (first | (with_reducible first | exact HB.out | apply below_alloc | apply pw_below_drewN | apply below_drew1 | refine below_set ?_ GE132.out | refine below_set ?_ GE133.out) | exact HB.out)) hb)
                  clear BK132
                  clear BK133
                  clear HB
                  have HO145 := n0_
                  have BK132 := n1_
                  have BK133 := n2_
                  have HB := n3_
                  clear n0_ n1_ n2_ n3_
                  (try clear hb)
                  (try clear hb2)
                  (try clear hk)
                  (try clear hi)
                  (try clear ho0)
                  have hcv50 := Kd.C_string (P := Try.prog) (A := (some ad134)) (c := c0) Try.underlying22 Try.underlying5 Try.underlying9 (Kd.C_below HR0.out HB.out)
                  refine hK.out _ _ ⟨(blk_cell BK133.out 0).trans rfl, (blk_cell BK133.out 1).trans rfl, (blk_cell BK133.out 2).trans rfl, (blk_cell BK133.out 3).trans rfl, (Kd.C_below HR0.out HB.out)⟩ (fun hHeld => ?_)
                  clear hK K
                  refine norm_ (a' := ?_) ?_ ?_
                  rotate_left
                  · show Act.put _ (some 44) _ = _
                    simp only [Act.put, List.setIfInBounds_toArray, List.set_cons_zero, List.set_cons_succ, i64_w, i32_w]
                    rfl
                  refine one_ (i := 2) (N := some 45) #[true, true, true, true, true, false] rfl rfl (by kernel_rfl) (by decide) (fun K hK => ?_)
                  have hcv49 := own_string (P := Try.prog) Try.underlying22 Try.underlying5 Try.underlying9 (Kd.own_of_R HO145.out)
                  refine value_ (w1 := ?_) (v := ?_) (by rfl) rfl ?_ ?_
                  rotate_left 2
                  · go_simp
                    constructor
                    · rfl
                    · rfl
                  clear hcv49
                  refine hK.out _ _ ⟨(blk_cell BK133.out 0).trans rfl, (blk_cell BK133.out 1).trans rfl, (blk_cell BK133.out 2).trans rfl, (blk_cell BK133.out 3).trans rfl, (Kd.C_below HR0.out HB.out)⟩ (fun hHeld => ?_)
                  clear hK K
                  refine norm_ (a' := ?_) ?_ ?_
                  rotate_left
                  · show Act.put _ (some 45) _ = _
                    simp only [Act.put, List.setIfInBounds_toArray, List.set_cons_zero, List.set_cons_succ, i64_w, i32_w]
                    rfl
                  refine pure_ (i := 5) (N := some 48) (v := ?_) (a' := ?_) #[true, true, true, true, true, true] rfl rfl (by kernel_rfl) (fun _ _ _ h => h) (Or.inl ⟨by rfl, ?_⟩) ?_ ?_
                  rotate_left
                  · intro w'
                    go_simp
                    with_reducible rfl
                  rotate_left
                  · simp only [Act.put, List.setIfInBounds_toArray, List.set_cons_zero, List.set_cons_succ, i64_w, i32_w]
                    rfl
                  refine done_ (by kernel_rfl) ?_
                  have hcz52_0 : w48.cell? ⟨gb133, 0, none⟩ = some (.int .i64 (wrap64 (rd l0 0))) := (blk_cell BK133.out 0).trans rfl
                  have hcz52_1 : w48.cell? ⟨gb133, 1, none⟩ = some (.int .i64 0) := (blk_cell BK133.out 1).trans rfl
                  have hcz52_2 : w48.cell? ⟨gb133, 2, none⟩ = some (.float .f64 b142) := (blk_cell BK133.out 2).trans rfl
                  have hcz52_3 : w48.cell? ⟨gb133, 3, none⟩ = some (.slice none 0 0) := (blk_cell BK133.out 3).trans rfl
                  have hfz52_0 := blk_frozen BK133.out 0
                  have hfz52_1 := blk_frozen BK133.out 1
                  have hfz52_2 := blk_frozen BK133.out 2
                  have hfz52_3 := blk_frozen BK133.out 3
                  have hcz53_0 : w48.cell? ⟨gb132, 0, none⟩ = some (.int .i64 0) := (blk_cell BK132.out 0).trans rfl
                  have hcz53_1 : w48.cell? ⟨gb132, 1, none⟩ = some (.int .i64 0) := (blk_cell BK132.out 1).trans rfl
                  have hcz53_2 : w48.cell? ⟨gb132, 2, none⟩ = some (.float .f64 0) := (blk_cell BK132.out 2).trans rfl
                  have hcz53_3 : w48.cell? ⟨gb132, 3, none⟩ = some (.slice none 0 0) := (blk_cell BK132.out 3).trans rfl
                  have hfz53_0 := blk_frozen BK132.out 0
                  have hfz53_1 := blk_frozen BK132.out 1
                  have hfz53_2 := blk_frozen BK132.out 2
                  have hfz53_3 := blk_frozen BK132.out 3
                  try go_wp2
                  refine bodyPost_ret (results_ct rfl _ _ gb132 25 #[.int .i64 (wrap64 (rd l0 0)), .int .i64 0, .float .f64 b142, .slice none 0 0] (0, 0) _ rfl (by (with_reducible repeat (first | refine blk_drewN ?_ _ | refine blk_drew ?_ | refine blk_alloc ?_ _)); refine blk_put (cs := #[.int .i64 (wrap64 (rd l0 0)), .int .i64 0, .float .f64 b142, .slice none 0 0]) ?_ 3 _ rfl; (with_reducible repeat (first | refine blk_drewN ?_ _ | refine blk_drew ?_ | refine blk_alloc ?_ _)); refine blk_put (cs := #[.int .i64 (wrap64 (rd l0 0)), .int .i64 0, .float .f64 0, .slice none 0 0]) ?_ 2 _ rfl; (with_reducible repeat (first | refine blk_drewN ?_ _ | refine blk_drew ?_ | refine blk_alloc ?_ _)); refine blk_put (cs := #[.int .i64 (wrap64 (rd l0 0)), .int .i64 0, .float .f64 0, .slice none 0 0]) ?_ 1 _ rfl; (with_reducible repeat (first | refine blk_drewN ?_ _ | refine blk_drew ?_ | refine blk_alloc ?_ _)); refine blk_put (cs := #[.int .i64 0, .int .i64 0, .float .f64 0, .slice none 0 0]) ?_ 0 _ rfl; (with_reducible repeat (first | refine blk_drewN ?_ _ | refine blk_drew ?_ | refine blk_alloc ?_ _)); exact BK132.out) Try.underlying25 rfl (by kernel_rfl)) rfl ?_
                  exact ⟨_, _, by first | rfl | (simp [errW_none, errW_some] <;> rfl) | (simp [*, errW_none, errW_some] <;> rfl), by first | exact Kd.R_nil _ _ _ _ _ | exact Kd.N_nil _ _ _ _ _ | exact Kd.V_nil _ _ _ _ _ | exact Kd.Q_nil _ _ _ _ _ | exact Kd.S_nil _ _ _ _ _, by repeat (first | (with_reducible first | exact HB.out | apply below_alloc | apply pw_below_drewN | apply below_drew1 | refine below_set ?_ GE132.out | refine below_set ?_ GE133.out) | exact HB.out), (by first | exact ⟨⟨rfl, LTb142.out⟩⟩ | exact ⟨⟨by first | rfl | decide, by decide⟩⟩)⟩
                · rw [if_neg c42] at H
                  have c42b0 : ((strOfNums t143).toList == (strOfNums l0).toList) = false := beq_eq_false_iff_ne.mpr c42
                  have c42b1 : ((strOfNums t143).toList != (strOfNums l0).toList) = true := bne_iff_ne.mpr c42
                  simp only [Option.some.injEq, Prod.mk.injEq] at H
                  obtain ⟨rfl, rfl, rfl, rfl, rfl⟩ := H
                  have p134 : 0 ≤ (0 : Int) := (by omega)
                  have q134 : 0 < (l0.length : Int) := of_decide_eq_true (by first | (with_reducible assumption) | assumption)
                  obtain ⟨ad134, e134, hx134_0⟩ := Kd.at_int HR0.out 0 p134 q134
                  cases e134
                  have qi134 : (0 < l0.length) = True := eq_true (by omega)
                  (try rw [show ((0 : Int)).toNat = 0 from rfl] at hx134_0)
                  (try rw [Addr.add_zero'] at hx134_0)
                  replace hx134_0 := (HB.out.cell (World.block_lt_of_cell? w _ hx134_0)).trans hx134_0
                  replace p134 := eq_true p134
                  replace q134 := eq_true q134
                  have hnb54 := NB133_132.out
                  have hnc54 := NB132_133.out
                  have hcz55_0 : wc.cell? ⟨gb133, 0, none⟩ = some (.int .i64 0) := (blk_cell BK133.out 0).trans rfl
                  have hcz55_1 : wc.cell? ⟨gb133, 1, none⟩ = some (.int .i64 0) := (blk_cell BK133.out 1).trans rfl
                  have hcz55_2 : wc.cell? ⟨gb133, 2, none⟩ = some (.float .f64 0) := (blk_cell BK133.out 2).trans rfl
                  have hcz55_3 : wc.cell? ⟨gb133, 3, none⟩ = some (.slice none 0 0) := (blk_cell BK133.out 3).trans rfl
                  have hfz55_0 := blk_frozen BK133.out 0
                  have hfz55_1 := blk_frozen BK133.out 1
                  have hfz55_2 := blk_frozen BK133.out 2
                  have hfz55_3 := blk_frozen BK133.out 3
                  obtain ⟨i056, hi056, _, hsz56, _⟩ := info_parts info5
                  obtain ⟨A56, hcut56, hA56, hC56⟩ := print_drop_of (P := Try.prog) (Value.int .u8) 0 22 5 .i64 Try.underlying22 hi056 hsz56 (some ad134) c0 l0 1 (by omega) (of_decide_eq_true (by first | (with_reducible assumption) | assumption)) HC0.out
                  have HR140 := Aside0.mk (Kd.C_of_reads (h1 := fun _ => rfl) (hA56 _ (Kd.reads_of_C HR0.out)))
                  have HC140 := Aside0.mk hC56
                  clear hA56 hC56 hi056 hsz56
                  try go_wp2_with (first | ((with_reducible refine gate_callee (f := 45) rfl ?_); refine goesL_ (some 33) rfl rfl Try.func45 (by kernel_rfl) rfl #[.slice A56 (l0.drop 1).length (c0 - 1)] rfl (by (try simp only [List.map_toArray, List.map_cons, List.map_nil]); first | done | (rw [show (l0.drop 1).length = (l0.length - 1) from List.length_drop] <;> rfl) | rfl | (simp only [List.length_drop, List.length_take]; rfl)) ?_; (with_reducible refine (spec_l3low.calls kj1 _ _ (l0.drop 1) t141 _ ?side1 ?side2 A39.out).mono ?_); (case side1 => exact Kd.C_below HR140.out (by repeat (first | (with_reducible first | exact HB.out | apply below_alloc | apply pw_below_drewN | apply below_drew1 | refine below_set ?_ GE132.out | refine below_set ?_ GE133.out) | exact HB.out))); (case side2 => exact HC140.out); rintro e w' ⟨rfl, ⟨nd, rfl⟩⟩; refine ⟨_, rfl, ?_⟩) | ((with_reducible refine gate_callee (f := 46) rfl ?_); refine goesL_ (some 34) rfl rfl Try.func46 (by kernel_rfl) rfl #[.int .u64 t141] rfl (by (try simp only [List.map_toArray, List.map_cons, List.map_nil]); first | done | rfl | (simp only [List.length_drop, List.length_take]; rfl)) ?_; (with_reducible refine (spec_FloatOf.callsC kj1 t141 t142 _ A40.out).mono ?_); rintro e w' ⟨b142, rfl, ⟨nd, rfl⟩, ⟨⟨hcnb142, hltb142⟩⟩⟩; refine ⟨_, rfl, ?_⟩; have LTb142 := Aside0.mk hltb142; clear hltb142; subst hcnb142))
                  (try rw [setCell_drewN])
                  have n0_ : Aside0 (((wc.setCell ⟨gb133, 0, none⟩ (.int .i64 (wrap64 (rd l0 0)))).setCell ⟨gb133, 2, none⟩ (.float .f64 b142)).heap[gb132]? = some (.cells #[.int .i64 0, .int .i64 0, .float .f64 0, .slice none 0 0] 25 (0, 0))) := ⟨by (with_reducible repeat (first | refine blk_drewN ?_ _ | refine blk_drew ?_ | refine blk_alloc ?_ _)); refine blk_far ?_ NB132_133.out _; (with_reducible repeat (first | refine blk_drewN ?_ _ | refine blk_drew ?_ | refine blk_alloc ?_ _)); refine blk_far ?_ NB132_133.out _; (with_reducible repeat (first | refine blk_drewN ?_ _ | refine blk_drew ?_ | refine blk_alloc ?_ _)); exact BK132.out⟩
                  have n1_ : Aside0 (((wc.setCell ⟨gb133, 0, none⟩ (.int .i64 (wrap64 (rd l0 0)))).setCell ⟨gb133, 2, none⟩ (.float .f64 b142)).heap[gb133]? = some (.cells #[.int .i64 (wrap64 (rd l0 0)), .int .i64 0, .float .f64 b142, .slice none 0 0] 25 (0, 0))) := ⟨by (with_reducible repeat (first | refine blk_drewN ?_ _ | refine blk_drew ?_ | refine blk_alloc ?_ _)); refine blk_put (cs := #[.int .i64 (wrap64 (rd l0 0)), .int .i64 0, .float .f64 0, .slice none 0 0]) ?_ 2 _ rfl; (with_reducible repeat (first | refine blk_drewN ?_ _ | refine blk_drew ?_ | refine blk_alloc ?_ _)); refine blk_put (cs := #[.int .i64 0, .int .i64 0, .float .f64 0, .slice none 0 0]) ?_ 0 _ rfl; (with_reducible repeat (first | refine blk_drewN ?_ _ | refine blk_drew ?_ | refine blk_alloc ?_ _)); exact BK133.out⟩
                  have n2_ : Aside0 (Below w.heap.size w ((wc.setCell ⟨gb133, 0, none⟩ (.int .i64 (wrap64 (rd l0 0)))).setCell ⟨gb133, 2, none⟩ (.float .f64 b142))) := ⟨by repeat (first | (with_reducible first | exact HB.out | apply below_alloc | apply pw_below_drewN | apply below_drew1 | refine below_set ?_ GE132.out | refine below_set ?_ GE133.out) | exact HB.out)⟩
                  (try clear BK132)
                  (try clear BK133)
                  (try clear HB)
                  generalize ((wc.setCell ⟨gb133, 0, none⟩ (.int .i64 (wrap64 (rd l0 0)))).setCell ⟨gb133, 2, none⟩ (.float .f64 b142)) = w57 at n0_ n1_ n2_ ⊢
                  have BK132 := n0_
                  have BK133 := n1_
                  have HB := n2_
                  clear n0_ n1_ n2_
                  (try (rw [drewN_self w57]; generalize hq_ : World.drewN w57 _ = w57; have n0_ : Aside0 (w57.heap[gb132]? = some (.cells #[.int .i64 0, .int .i64 0, .float .f64 0, .slice none 0 0] 25 (0, 0))) := ⟨by rw [← hq_]; exact (by (with_reducible repeat (first | refine blk_drewN ?_ _ | refine blk_drew ?_ | refine blk_alloc ?_ _)); exact BK132.out)⟩; have n1_ : Aside0 (w57.heap[gb133]? = some (.cells #[.int .i64 (wrap64 (rd l0 0)), .int .i64 0, .float .f64 b142, .slice none 0 0] 25 (0, 0))) := ⟨by rw [← hq_]; exact (by (with_reducible repeat (first | refine blk_drewN ?_ _ | refine blk_drew ?_ | refine blk_alloc ?_ _)); exact BK133.out)⟩; have n2_ : Aside0 (Below w.heap.size w w57) := ⟨by rw [← hq_]; exact (by repeat (first | (with_reducible first | exact HB.out | apply below_alloc | apply pw_below_drewN | apply below_drew1 | refine below_set ?_ GE132.out | refine below_set ?_ GE133.out) | exact HB.out))⟩; clear BK132 BK133 HB hq_; have BK132 := n0_; have BK133 := n1_; have HB := n2_; clear n0_ n1_ n2_))
                  have n0_ := Aside0.mk (blk_drew BK132.out)
                  have n1_ := Aside0.mk (blk_drew BK133.out)
                  have n2_ := Aside0.mk (below_drew1 HB.out)
                  clear BK132
                  clear BK133
                  clear HB
                  have BK132 := n0_
                  have BK133 := n1_
                  have HB := n2_
                  clear n0_ n1_ n2_
                  refine start_ (n := 6) (S := fun w' => w'.cell? ⟨gb133, 0, none⟩ = some (.int .i64 (wrap64 (rd l0 0))) ∧ w'.cell? ⟨gb133, 1, none⟩ = some (.int .i64 0) ∧ w'.cell? ⟨gb133, 2, none⟩ = some (.float .f64 b142) ∧ w'.cell? ⟨gb133, 3, none⟩ = some (.slice none 0 0) ∧ Kd.C (Kd.int .u8) w' (some ad134) l0.length l0) (ds := []) #[false, false, false, false, false, false] (by kernel_rfl) rfl rfl ⟨(blk_cell BK133.out 0).trans rfl, (blk_cell BK133.out 1).trans rfl, (blk_cell BK133.out 2).trans rfl, (blk_cell BK133.out 3).trans rfl, (Kd.C_below HR0.out HB.out)⟩ (fun hHeld => ?_)
                  generalize w57.drew = w58 at BK132 BK133 HB hHeld ⊢
                  refine pure_ (i := 3) (N := some 46) (v := ?_) (a' := ?_) #[false, false, false, true, false, false] rfl rfl (by kernel_rfl) (fun _ _ _ h => h) (Or.inl ⟨by rfl, ?_⟩) ?_ ?_
                  rotate_left
                  · intro w'
                    go_simp
                    with_reducible rfl
                  rotate_left
                  · simp only [Act.put, List.setIfInBounds_toArray, List.set_cons_zero, List.set_cons_succ, i64_w, i32_w]
                    rfl
                  refine take_ (i := 4) (N := some 47) (v := ?_) (a' := ?_) #[false, false, false, true, true, false] rfl rfl (by kernel_rfl) (fun _ _ _ h => h) (Or.inl ⟨by rfl, ?_⟩) hHeld ?_ ?_
                  rotate_left
                  · rintro w' ⟨s0, s1, s2, s3, sC⟩
                    have hcv_ := Kd.C_string (P := Try.prog) (A := (some ad134)) (c := c0) Try.underlying22 Try.underlying5 Try.underlying9 sC
                    go_simp
                    with_reducible rfl
                  rotate_left
                  · simp only [Act.put, List.setIfInBounds_toArray, List.set_cons_zero, List.set_cons_succ, i64_w, i32_w]
                    rfl
                  refine take_ (i := 0) (N := some 43) (v := ?_) (a' := ?_) #[true, false, false, true, true, false] rfl rfl (by kernel_rfl) (fun _ _ _ h => h) (Or.inl ⟨by rfl, ?_⟩) hHeld ?_ ?_
                  rotate_left
                  · rintro w' ⟨s0, s1, s2, s3, sC⟩
                    go_simp
                    with_reducible rfl
                  rotate_left
                  · simp only [Act.put, List.setIfInBounds_toArray, List.set_cons_zero, List.set_cons_succ, i64_w, i32_w]
                    rfl
                  refine one_ (i := 1) (N := some 44) #[true, true, false, true, true, false] rfl rfl (by kernel_rfl) (by decide) (fun K hK => ?_)
                  refine goes_ Try.func47 (by kernel_rfl) rfl #[.agg #[.int .i64 (wrap64 (rd l0 0)), .int .i64 0, .float .f64 b142, .slice none 0 0]] (by rfl) rfl rfl (by (try simp only [List.map_toArray, List.map_cons, List.map_nil]); first | done | rfl | (simp only [List.length_drop, List.length_take]; rfl)) ?_
                  refine (spec_ValueBytes.calls kj1 (wrap64 (rd l0 0)) 0 b142 _ _ ([] : List Int) t143 _ ?side1 ?side2 ((spec_ValueBytes.inv0 _ _ _ _ _).symm.trans A41.out)).mono ?_
                  (case side1 => exact Kd.C_nil _ _)
                  (case side2 => exact Nat.le_refl _)
                  rintro e w59 ⟨v144, rfl, ho0, hb⟩
                  refine ⟨_, rfl, ?_⟩
                  have n0_ := Aside0.mk (Kd.R_lower ho0 (below_size (by repeat (first | (with_reducible first | exact HB.out | apply below_alloc | apply pw_below_drewN | apply below_drew1 | refine below_set ?_ GE132.out | refine below_set ?_ GE133.out) | exact HB.out))))
                  have n1_ := Aside0.mk (blk_below (g := gb132) (o := .cells #[.int .i64 0, .int .i64 0, .float .f64 0, .slice none 0 0] 25 (0, 0)) (by (with_reducible repeat (first | refine blk_drewN ?_ _ | refine blk_drew ?_ | refine blk_alloc ?_ _)); exact BK132.out) hb)
                  have n2_ := Aside0.mk (blk_below (g := gb133) (o := .cells #[.int .i64 (wrap64 (rd l0 0)), .int .i64 0, .float .f64 b142, .slice none 0 0] 25 (0, 0)) (by (with_reducible repeat (first | refine blk_drewN ?_ _ | refine blk_drew ?_ | refine blk_alloc ?_ _)); exact BK133.out) hb)
                  have n3_ := Aside0.mk (below_step (by repeat (first | (with_reducible first | exact HB.out | apply below_alloc | apply pw_below_drewN | apply below_drew1 | refine below_set ?_ GE132.out | refine below_set ?_ GE133.out) | exact HB.out)) hb)
                  clear BK132
                  clear BK133
                  clear HB
                  have HO145 := n0_
                  have BK132 := n1_
                  have BK133 := n2_
                  have HB := n3_
                  clear n0_ n1_ n2_ n3_
                  (try clear hb)
                  (try clear hb2)
                  (try clear hk)
                  (try clear hi)
                  (try clear ho0)
                  have hcv61 := Kd.C_string (P := Try.prog) (A := (some ad134)) (c := c0) Try.underlying22 Try.underlying5 Try.underlying9 (Kd.C_below HR0.out HB.out)
                  refine hK.out _ _ ⟨(blk_cell BK133.out 0).trans rfl, (blk_cell BK133.out 1).trans rfl, (blk_cell BK133.out 2).trans rfl, (blk_cell BK133.out 3).trans rfl, (Kd.C_below HR0.out HB.out)⟩ (fun hHeld => ?_)
                  clear hK K
                  refine norm_ (a' := ?_) ?_ ?_
                  rotate_left
                  · show Act.put _ (some 44) _ = _
                    simp only [Act.put, List.setIfInBounds_toArray, List.set_cons_zero, List.set_cons_succ, i64_w, i32_w]
                    rfl
                  refine one_ (i := 2) (N := some 45) #[true, true, true, true, true, false] rfl rfl (by kernel_rfl) (by decide) (fun K hK => ?_)
                  have hcv60 := own_string (P := Try.prog) Try.underlying22 Try.underlying5 Try.underlying9 (Kd.own_of_R HO145.out)
                  refine value_ (w1 := ?_) (v := ?_) (by rfl) rfl ?_ ?_
                  rotate_left 2
                  · go_simp
                    constructor
                    · rfl
                    · rfl
                  clear hcv60
                  refine hK.out _ _ ⟨(blk_cell BK133.out 0).trans rfl, (blk_cell BK133.out 1).trans rfl, (blk_cell BK133.out 2).trans rfl, (blk_cell BK133.out 3).trans rfl, (Kd.C_below HR0.out HB.out)⟩ (fun hHeld => ?_)
                  clear hK K
                  refine norm_ (a' := ?_) ?_ ?_
                  rotate_left
                  · show Act.put _ (some 45) _ = _
                    simp only [Act.put, List.setIfInBounds_toArray, List.set_cons_zero, List.set_cons_succ, i64_w, i32_w]
                    rfl
                  refine pure_ (i := 5) (N := some 48) (v := ?_) (a' := ?_) #[true, true, true, true, true, true] rfl rfl (by kernel_rfl) (fun _ _ _ h => h) (Or.inl ⟨by rfl, ?_⟩) ?_ ?_
                  rotate_left
                  · intro w'
                    go_simp
                    with_reducible rfl
                  rotate_left
                  · simp only [Act.put, List.setIfInBounds_toArray, List.set_cons_zero, List.set_cons_succ, i64_w, i32_w]
                    rfl
                  refine done_ (by kernel_rfl) ?_
                  have hcz63_0 : w59.cell? ⟨gb132, 0, none⟩ = some (.int .i64 0) := (blk_cell BK132.out 0).trans rfl
                  have hcz63_1 : w59.cell? ⟨gb132, 1, none⟩ = some (.int .i64 0) := (blk_cell BK132.out 1).trans rfl
                  have hcz63_2 : w59.cell? ⟨gb132, 2, none⟩ = some (.float .f64 0) := (blk_cell BK132.out 2).trans rfl
                  have hcz63_3 : w59.cell? ⟨gb132, 3, none⟩ = some (.slice none 0 0) := (blk_cell BK132.out 3).trans rfl
                  have hfz63_0 := blk_frozen BK132.out 0
                  have hfz63_1 := blk_frozen BK132.out 1
                  have hfz63_2 := blk_frozen BK132.out 2
                  have hfz63_3 := blk_frozen BK132.out 3
                  try go_wp2
                  refine bodyPost_ret (results_ct rfl _ _ gb132 25 #[.int .i64 0, .int .i64 0, .float .f64 0, .slice none 0 0] (0, 0) _ rfl (by (with_reducible repeat (first | refine blk_drewN ?_ _ | refine blk_drew ?_ | refine blk_alloc ?_ _)); refine blk_put (cs := #[.int .i64 0, .int .i64 0, .float .f64 0, .slice none 0 0]) ?_ 3 _ rfl; (with_reducible repeat (first | refine blk_drewN ?_ _ | refine blk_drew ?_ | refine blk_alloc ?_ _)); refine blk_put (cs := #[.int .i64 0, .int .i64 0, .float .f64 0, .slice none 0 0]) ?_ 2 _ rfl; (with_reducible repeat (first | refine blk_drewN ?_ _ | refine blk_drew ?_ | refine blk_alloc ?_ _)); refine blk_put (cs := #[.int .i64 0, .int .i64 0, .float .f64 0, .slice none 0 0]) ?_ 1 _ rfl; (with_reducible repeat (first | refine blk_drewN ?_ _ | refine blk_drew ?_ | refine blk_alloc ?_ _)); refine blk_put (cs := #[.int .i64 0, .int .i64 0, .float .f64 0, .slice none 0 0]) ?_ 0 _ rfl; (with_reducible repeat (first | refine blk_drewN ?_ _ | refine blk_drew ?_ | refine blk_alloc ?_ _)); exact BK132.out) Try.underlying25 rfl (by kernel_rfl)) rfl ?_
                  exact ⟨_, _, by first | rfl | (simp [errW_none, errW_some] <;> rfl) | (simp [*, errW_none, errW_some] <;> rfl), by first | exact Kd.R_nil _ _ _ _ _ | exact Kd.N_nil _ _ _ _ _ | exact Kd.V_nil _ _ _ _ _ | exact Kd.Q_nil _ _ _ _ _ | exact Kd.S_nil _ _ _ _ _, by repeat (first | (with_reducible first | exact HB.out | apply below_alloc | apply pw_below_drewN | apply below_drew1 | refine below_set ?_ GE132.out | refine below_set ?_ GE133.out) | exact HB.out), (by first | exact ⟨⟨rfl, LTb142.out⟩⟩ | exact ⟨⟨by first | rfl | decide, by decide⟩⟩)⟩
              · rw [if_neg c38] at H
                exact absurd H (by simp)
            · rw [if_neg c37] at H
              have c37b0 : ((wrap64 (rd l0 0)) == 2) = false := beq_eq_false_iff_ne.mpr c37
              have c37b1 : ((wrap64 (rd l0 0)) != 2) = true := bne_iff_ne.mpr c37
              by_cases c64 : (wrap64 (rd l0 0)) = 3
              · rw [if_pos c64] at H
                have c64b0 : ((wrap64 (rd l0 0)) == 3) = true := beq_iff_eq.mpr c64
                have c64b1 : ((wrap64 (rd l0 0)) != 3) = false := bne_eq_false_iff_eq.mpr c64
                clear c64
                obtain ⟨y146, hy146⟩ : ∃ y_ : List Int, y_ = (([] : List Int)) := ⟨_, rfl⟩
                replace H : (if 1 ≤ (l0.length : Int) then (if y146.length + (l0.drop 1).length < 140737488355328 then ((some (y146 ++ (l0.drop 1) : List Int)).bind fun y150 => ((spec_ValueBytes.f kj1 (wrap64 (rd l0 0)) 0 0 y150).bind fun t153 => (if (strOfNums t153).toList = (strOfNums l0).toList then (some (wrap64 (rd l0 0), 0, 0, y150, true)) else (some (0, 0, 0, ([] : List Int), false))))) else (none)) else (none)) = some (r1, r2, r3, r4, r5) := by first | (rw [hy146]; with_reducible exact H) | (have H2_ := (Option.bind_some _ _).symm.trans H; rw [hy146]; with_reducible exact H2_) | (have H2_ := (Option.bind_some _ _).symm.trans H; with_reducible exact H2_) | with_reducible exact H | (rw [hy146]; exact H) | exact H
                have Ny146 := Aside0.mk hy146
                clear hy146
                by_cases c65 : 1 ≤ (l0.length : Int)
                · rw [if_pos c65] at H
                  have c65b0 := eq_true c65
                  have c65b1 : decide (1 ≤ (l0.length : Int)) = true := decide_eq_true c65
                  clear c65
                  by_cases c66 : y146.length + (l0.drop 1).length < 140737488355328
                  · rw [if_pos c66] at H
                    have LMc66 := Aside0.mk c66
                    clear c66
                    obtain ⟨y150, hy150⟩ : ∃ y_ : List Int, y_ = (y146 ++ (l0.drop 1)) := ⟨_, rfl⟩
                    replace H : ((spec_ValueBytes.f kj1 (wrap64 (rd l0 0)) 0 0 y150).bind fun t153 => (if (strOfNums t153).toList = (strOfNums l0).toList then (some (wrap64 (rd l0 0), 0, 0, y150, true)) else (some (0, 0, 0, ([] : List Int), false)))) = some (r1, r2, r3, r4, r5) := by first | (rw [hy150]; with_reducible exact H) | (have H2_ := (Option.bind_some _ _).symm.trans H; rw [hy150]; with_reducible exact H2_) | (have H2_ := (Option.bind_some _ _).symm.trans H; with_reducible exact H2_) | with_reducible exact H | (rw [hy150]; exact H) | exact H
                    have Ny150 := Aside0.mk hy150
                    clear hy150
                    replace H := Option.bind_eq_some_iff.mp H
                    obtain ⟨t153, A670, H⟩ := H
                    replace H : (if (strOfNums t153).toList = (strOfNums l0).toList then (some (wrap64 (rd l0 0), 0, 0, y150, true)) else (some (0, 0, 0, ([] : List Int), false))) = some (r1, r2, r3, r4, r5) := H
                    have A67 := Aside0.mk A670
                    clear A670
                    by_cases c68 : (strOfNums t153).toList = (strOfNums l0).toList
                    · rw [if_pos c68] at H
                      have c68b0 : ((strOfNums t153).toList == (strOfNums l0).toList) = true := beq_iff_eq.mpr c68
                      have c68b1 : ((strOfNums t153).toList != (strOfNums l0).toList) = false := bne_eq_false_iff_eq.mpr c68
                      clear c68
                      simp only [Option.some.injEq, Prod.mk.injEq] at H
                      obtain ⟨rfl, rfl, rfl, rfl, rfl⟩ := H
                      have p134 : 0 ≤ (0 : Int) := (by omega)
                      have q134 : 0 < (l0.length : Int) := of_decide_eq_true (by first | (with_reducible assumption) | assumption)
                      obtain ⟨ad134, e134, hx134_0⟩ := Kd.at_int HR0.out 0 p134 q134
                      cases e134
                      have qi134 : (0 < l0.length) = True := eq_true (by omega)
                      (try rw [show ((0 : Int)).toNat = 0 from rfl] at hx134_0)
                      (try rw [Addr.add_zero'] at hx134_0)
                      replace hx134_0 := (HB.out.cell (World.block_lt_of_cell? w _ hx134_0)).trans hx134_0
                      replace p134 := eq_true p134
                      replace q134 := eq_true q134
                      have hnb69 := NB133_132.out
                      have hnc69 := NB132_133.out
                      have hcz70_0 : wc.cell? ⟨gb133, 0, none⟩ = some (.int .i64 0) := (blk_cell BK133.out 0).trans rfl
                      have hcz70_1 : wc.cell? ⟨gb133, 1, none⟩ = some (.int .i64 0) := (blk_cell BK133.out 1).trans rfl
                      have hcz70_2 : wc.cell? ⟨gb133, 2, none⟩ = some (.float .f64 0) := (blk_cell BK133.out 2).trans rfl
                      have hcz70_3 : wc.cell? ⟨gb133, 3, none⟩ = some (.slice none 0 0) := (blk_cell BK133.out 3).trans rfl
                      have hfz70_0 := blk_frozen BK133.out 0
                      have hfz70_1 := blk_frozen BK133.out 1
                      have hfz70_2 := blk_frozen BK133.out 2
                      have hfz70_3 := blk_frozen BK133.out 3
                      try go_wp2_with (first | ((with_reducible refine gate_dst (N := 38) rfl ?_); (try (refine gate_guard (by rfl) ?_; dsimp only)); refine Kd.R_lit (Kd.int .u8) _ 5 ?hg (N := 38) ?hd (xs := ([] : List Int)) (inner := []) (ok := fun _ => True) (okp := fun _ => True) ?hr ?hp (fun _ hk => hk) trivial (Below.refl _ _) (Nat.le_refl _) (by simp) ?_; (case hd => rfl); (case hg => rfl); (case hr => first | (go_simp; done) | (go_simp; rfl)); (case hp => exact (Reps.none _ _)); intro v147 w71 ho72 hb hg_ hnew_; clear hg_ hnew_; (first | rw [← Ny146.out] at ho72 | (simp only [Int.reduceToNat] at ho72; rw [← Ny146.out] at ho72)); have n0_ := Aside0.mk (Kd.R_lower ho72 (below_size (by repeat (first | (with_reducible first | exact HB.out | apply below_alloc | apply pw_below_drewN | apply below_drew1 | refine below_set ?_ GE132.out | refine below_set ?_ GE133.out) | exact HB.out)))); have n1_ := Aside0.mk (blk_below (g := gb132) (o := .cells #[.int .i64 0, .int .i64 0, .float .f64 0, .slice none 0 0] 25 (0, 0)) (by (with_reducible repeat (first | refine blk_drewN ?_ _ | refine blk_drew ?_ | refine blk_alloc ?_ _)); refine blk_far ?_ NB132_133.out _; (with_reducible repeat (first | refine blk_drewN ?_ _ | refine blk_drew ?_ | refine blk_alloc ?_ _)); exact BK132.out) hb); have n2_ := Aside0.mk (blk_below (g := gb133) (o := .cells #[.int .i64 (wrap64 (rd l0 0)), .int .i64 0, .float .f64 0, .slice none 0 0] 25 (0, 0)) (by (with_reducible repeat (first | refine blk_drewN ?_ _ | refine blk_drew ?_ | refine blk_alloc ?_ _)); refine blk_put (cs := #[.int .i64 0, .int .i64 0, .float .f64 0, .slice none 0 0]) ?_ 0 _ rfl; (with_reducible repeat (first | refine blk_drewN ?_ _ | refine blk_drew ?_ | refine blk_alloc ?_ _)); exact BK133.out) hb); have n3_ := Aside0.mk (below_step (by repeat (first | (with_reducible first | exact HB.out | apply below_alloc | apply pw_below_drewN | apply below_drew1 | refine below_set ?_ GE132.out | refine below_set ?_ GE133.out) | exact HB.out)) hb); clear BK132; clear BK133; clear HB; have HO148 := n0_; have BK132 := n1_; have BK133 := n2_; have HB := n3_; clear n0_ n1_ n2_ n3_; clear hb ho72; obtain ⟨i073, hi073, _, hsz73, _⟩ := info_parts info5; obtain ⟨A73, hcut73, hA73, hC73⟩ := print_drop_of (P := Try.prog) (Value.int .u8) 0 22 5 .i64 Try.underlying22 hi073 hsz73 (some ad134) c0 l0 1 (by omega) (of_decide_eq_true (by first | (with_reducible assumption) | assumption)) HC0.out; have HR149 := Aside0.mk (Kd.C_of_reads (h1 := fun _ => rfl) (hA73 _ (Kd.reads_of_C HR0.out))); have HC149 := Aside0.mk hC73; clear hA73 hC73 hi073 hsz73) | ((with_reducible refine gate_builtin (b := .append) (xs := #[.tmp 38, .tmp 40]) rfl ?_); (try (refine gate_guard (by rfl) ?_; dsimp only)); at_builtin; refine Kd.R_append_rows (Kd.int .u8) (w0 := w) w.heap.size rfl (.tmp 38) (.tmp 40) 22 5 (.int .u8 0) 1 rfl Try.underlying22 info5 rfl (by decide) (by omega) v147 y146 (l0.drop 1) _ _ _ (fun _ => True) (fun _ => False) rfl rfl ?aO ?aR (fun _ _ h => h) (fun _ h => h.elim) ?aF ?aB ?aS ?aL ?_; (case aR => first | (rw [← show (l0.drop 1).length = (l0.length - 1) from List.length_drop]; repeat (first | exact (Kd.C_below HR149.out HB.out) | (with_reducible refine Kd.C_alloc ?_ _) | (with_reducible refine Kd.C_drewN ?_ _) | (with_reducible refine Kd.C_drew ?_))) | (repeat (first | exact (Kd.C_below HR149.out HB.out) | (with_reducible refine Kd.C_alloc ?_ _) | (with_reducible refine Kd.C_drewN ?_ _) | (with_reducible refine Kd.C_drew ?_)))); (case aB => exact (by repeat (first | (with_reducible first | exact HB.out | apply below_alloc | apply pw_below_drewN | apply below_drew1 | refine below_set ?_ GE132.out | refine below_set ?_ GE133.out) | exact HB.out))); (case aF => exact (fun _ _ => trivial)); (case aO => exact (by (with_reducible repeat (first | apply Kd.R_alloc | apply Kd.R_drewN | apply Kd.R_drew)); exact HO148.out)); (case aS => exact (below_size (by repeat (first | (with_reducible first | exact HB.out | apply below_alloc | apply pw_below_drewN | apply below_drew1 | refine below_set ?_ GE132.out | refine below_set ?_ GE133.out) | exact HB.out)))); (case aL => have := LMc66.out; have hlx_ := (show (l0.drop 1).length = (l0.length - 1) from List.length_drop); omega); intro v151 w74 ho hb hg hat; rw [← Ny150.out] at ho; have n0_ := Aside0.mk (blk_grown (g := gb132) (o := .cells #[.int .i64 0, .int .i64 0, .float .f64 0, .slice none 0 0] 25 (0, 0)) (by (with_reducible repeat (first | refine blk_drewN ?_ _ | refine blk_drew ?_ | refine blk_alloc ?_ _)); exact BK132.out) hg (Kd.R_ne HO148.out BK132.out (by decide))); have n1_ := Aside0.mk (blk_grown (g := gb133) (o := .cells #[.int .i64 (wrap64 (rd l0 0)), .int .i64 0, .float .f64 0, .slice none 0 0] 25 (0, 0)) (by (with_reducible repeat (first | refine blk_drewN ?_ _ | refine blk_drew ?_ | refine blk_alloc ?_ _)); exact BK133.out) hg (Kd.R_ne HO148.out BK133.out (by decide))); have n2_ := Aside0.mk (hb); have n3_ := Aside0.mk (ho); clear BK132; clear BK133; clear HB; clear HO148; have BK132 := n0_; have BK133 := n1_; have HB := n2_; have HO152 := n3_; clear n0_ n1_ n2_ n3_; clear ho hb hg hat; obtain ⟨Ao75, co75, eo75⟩ := Kd.R_slice HO152.out; subst eo75; have hcz76_0 : w74.cell? ⟨gb133, 0, none⟩ = some (.int .i64 (wrap64 (rd l0 0))) := (blk_cell BK133.out 0).trans rfl; have hcz76_1 : w74.cell? ⟨gb133, 1, none⟩ = some (.int .i64 0) := (blk_cell BK133.out 1).trans rfl; have hcz76_2 : w74.cell? ⟨gb133, 2, none⟩ = some (.float .f64 0) := (blk_cell BK133.out 2).trans rfl; have hcz76_3 : w74.cell? ⟨gb133, 3, none⟩ = some (.slice none 0 0) := (blk_cell BK133.out 3).trans rfl; have hfz76_0 := blk_frozen BK133.out 0; have hfz76_1 := blk_frozen BK133.out 1; have hfz76_2 := blk_frozen BK133.out 2; have hfz76_3 := blk_frozen BK133.out 3))
                      have n0_ : Aside0 (Kd.R (Kd.int .u8) 5 (w74.setCell ⟨gb133, 3, none⟩ (.slice Ao75 y150.length co75)) w.heap.size (fun _ => True) (.slice Ao75 y150.length co75) y150) := ⟨by (with_reducible repeat (first | apply Kd.R_alloc | apply Kd.R_drewN | apply Kd.R_drew)); exact Kd.R_mono (Kd.R_far (p := ⟨gb133, 3, none⟩) (Kd.R_types HO152.out BK133.out (by decide)) (fun _ hk => hk.2) (.slice Ao75 y150.length co75)) (fun _ hk => trivial)⟩
                      have n1_ : Aside0 ((w74.setCell ⟨gb133, 3, none⟩ (.slice Ao75 y150.length co75)).heap[gb132]? = some (.cells #[.int .i64 0, .int .i64 0, .float .f64 0, .slice none 0 0] 25 (0, 0))) := ⟨by (with_reducible repeat (first | refine blk_drewN ?_ _ | refine blk_drew ?_ | refine blk_alloc ?_ _)); refine blk_far ?_ NB132_133.out _; (with_reducible repeat (first | refine blk_drewN ?_ _ | refine blk_drew ?_ | refine blk_alloc ?_ _)); exact BK132.out⟩
                      have n2_ : Aside0 ((w74.setCell ⟨gb133, 3, none⟩ (.slice Ao75 y150.length co75)).heap[gb133]? = some (.cells #[.int .i64 (wrap64 (rd l0 0)), .int .i64 0, .float .f64 0, .slice Ao75 y150.length co75] 25 (0, 0))) := ⟨by (with_reducible repeat (first | refine blk_drewN ?_ _ | refine blk_drew ?_ | refine blk_alloc ?_ _)); refine blk_put (cs := #[.int .i64 (wrap64 (rd l0 0)), .int .i64 0, .float .f64 0, .slice none 0 0]) ?_ 3 _ rfl; (with_reducible repeat (first | refine blk_drewN ?_ _ | refine blk_drew ?_ | refine blk_alloc ?_ _)); exact BK133.out⟩
                      have n3_ : Aside0 (Below w.heap.size w (w74.setCell ⟨gb133, 3, none⟩ (.slice Ao75 y150.length co75))) := ⟨by repeat (first | (with_reducible first | exact HB.out | apply below_alloc | apply pw_below_drewN | apply below_drew1 | refine below_set ?_ GE132.out | refine below_set ?_ GE133.out) | exact HB.out)⟩
                      (try clear HO152)
                      (try clear BK132)
                      (try clear BK133)
                      (try clear HB)
                      generalize (w74.setCell ⟨gb133, 3, none⟩ (.slice Ao75 y150.length co75)) = w77 at n0_ n1_ n2_ n3_ ⊢
                      have HO152 := n0_
                      have BK132 := n1_
                      have BK133 := n2_
                      have HB := n3_
                      clear n0_ n1_ n2_ n3_
                      have n0_ := Aside0.mk (Kd.R_drew HO152.out)
                      have n1_ := Aside0.mk (blk_drew BK132.out)
                      have n2_ := Aside0.mk (blk_drew BK133.out)
                      have n3_ := Aside0.mk (below_drew1 HB.out)
                      clear HO152
                      clear BK132
                      clear BK133
                      clear HB
                      have HO152 := n0_
                      have BK132 := n1_
                      have BK133 := n2_
                      have HB := n3_
                      clear n0_ n1_ n2_ n3_
                      refine start_ (n := 6) (S := fun w' => w'.cell? ⟨gb133, 0, none⟩ = some (.int .i64 (wrap64 (rd l0 0))) ∧ w'.cell? ⟨gb133, 1, none⟩ = some (.int .i64 0) ∧ w'.cell? ⟨gb133, 2, none⟩ = some (.float .f64 0) ∧ w'.cell? ⟨gb133, 3, none⟩ = some (.slice Ao75 y150.length co75) ∧ Kd.C (Kd.int .u8) w' (some ad134) l0.length l0) (ds := []) #[false, false, false, false, false, false] (by kernel_rfl) rfl rfl ⟨(blk_cell BK133.out 0).trans rfl, (blk_cell BK133.out 1).trans rfl, (blk_cell BK133.out 2).trans rfl, (blk_cell BK133.out 3).trans rfl, (Kd.C_below HR0.out HB.out)⟩ (fun hHeld => ?_)
                      generalize w77.drew = w78 at HO152 BK132 BK133 HB hHeld ⊢
                      refine pure_ (i := 3) (N := some 46) (v := ?_) (a' := ?_) #[false, false, false, true, false, false] rfl rfl (by kernel_rfl) (fun _ _ _ h => h) (Or.inl ⟨by rfl, ?_⟩) ?_ ?_
                      rotate_left
                      · intro w'
                        go_simp
                        with_reducible rfl
                      rotate_left
                      · simp only [Act.put, List.setIfInBounds_toArray, List.set_cons_zero, List.set_cons_succ, i64_w, i32_w]
                        rfl
                      refine take_ (i := 4) (N := some 47) (v := ?_) (a' := ?_) #[false, false, false, true, true, false] rfl rfl (by kernel_rfl) (fun _ _ _ h => h) (Or.inl ⟨by rfl, ?_⟩) hHeld ?_ ?_
                      rotate_left
                      · rintro w' ⟨s0, s1, s2, s3, sC⟩
                        have hcv_ := Kd.C_string (P := Try.prog) (A := (some ad134)) (c := c0) Try.underlying22 Try.underlying5 Try.underlying9 sC
                        go_simp
                        with_reducible rfl
                      rotate_left
                      · simp only [Act.put, List.setIfInBounds_toArray, List.set_cons_zero, List.set_cons_succ, i64_w, i32_w]
                        rfl
                      refine take_ (i := 0) (N := some 43) (v := ?_) (a' := ?_) #[true, false, false, true, true, false] rfl rfl (by kernel_rfl) (fun _ _ _ h => h) (Or.inl ⟨by rfl, ?_⟩) hHeld ?_ ?_
                      rotate_left
                      · rintro w' ⟨s0, s1, s2, s3, sC⟩
                        go_simp
                        with_reducible rfl
                      rotate_left
                      · simp only [Act.put, List.setIfInBounds_toArray, List.set_cons_zero, List.set_cons_succ, i64_w, i32_w]
                        rfl
                      refine one_ (i := 1) (N := some 44) #[true, true, false, true, true, false] rfl rfl (by kernel_rfl) (by decide) (fun K hK => ?_)
                      refine goes_ Try.func47 (by kernel_rfl) rfl #[.agg #[.int .i64 (wrap64 (rd l0 0)), .int .i64 0, .float .f64 0, .slice Ao75 y150.length co75]] (by rfl) rfl rfl (by (try simp only [List.map_toArray, List.map_cons, List.map_nil]); first | done | rfl | (simp only [List.length_drop, List.length_take]; rfl)) ?_
                      with_reducible refine (spec_ValueBytes.calls kj1 (wrap64 (rd l0 0)) 0 0 _ _ y150 t153 _ ?side1 ?side2 A67.out).mono ?_
                      (case side1 => repeat (first | exact (Kd.R_reads' HO152.out).2.2 | (with_reducible refine Kd.C_alloc ?_ _) | (with_reducible refine Kd.C_drewN ?_ _) | (with_reducible refine Kd.C_drew ?_)))
                      (case side2 => exact (Kd.R_reads' HO152.out).2.1)
                      rintro e w79 ⟨v154, rfl, ho0, hb⟩
                      refine ⟨_, rfl, ?_⟩
                      have n0_ := Aside0.mk (Kd.R_elder' (by (with_reducible repeat (first | apply Kd.R_alloc | apply Kd.R_drewN | apply Kd.R_drew)); exact HO152.out) (Kd.R_base ho0) hb)
                      have n1_ := Aside0.mk (Kd.R_lower (Kd.R_new' ho0 (Kd.R_lt (by (with_reducible repeat (first | apply Kd.R_alloc | apply Kd.R_drewN | apply Kd.R_drew)); exact HO152.out))) (below_size (by repeat (first | (with_reducible first | exact HB.out | apply below_alloc | apply pw_below_drewN | apply below_drew1 | refine below_set ?_ GE132.out | refine below_set ?_ GE133.out) | exact HB.out))))
                      have n2_ := Aside0.mk (blk_below (g := gb132) (o := .cells #[.int .i64 0, .int .i64 0, .float .f64 0, .slice none 0 0] 25 (0, 0)) (by (with_reducible repeat (first | refine blk_drewN ?_ _ | refine blk_drew ?_ | refine blk_alloc ?_ _)); exact BK132.out) hb)
                      have n3_ := Aside0.mk (blk_below (g := gb133) (o := .cells #[.int .i64 (wrap64 (rd l0 0)), .int .i64 0, .float .f64 0, .slice Ao75 y150.length co75] 25 (0, 0)) (by (with_reducible repeat (first | refine blk_drewN ?_ _ | refine blk_drew ?_ | refine blk_alloc ?_ _)); exact BK133.out) hb)
                      have n4_ := Aside0.mk (below_step (by repeat (first | (with_reducible first | exact HB.out | apply below_alloc | apply pw_below_drewN | apply below_drew1 | refine below_set ?_ GE132.out | refine below_set ?_ GE133.out) | exact HB.out)) hb)
                      clear HO152
                      clear BK132
                      clear BK133
                      clear HB
                      have HO152 := n0_
                      have HO155 := n1_
                      have BK132 := n2_
                      have BK133 := n3_
                      have HB := n4_
                      clear n0_ n1_ n2_ n3_ n4_
                      (try clear hb)
                      (try clear hb2)
                      (try clear hk)
                      (try clear hi)
                      (try clear ho0)
                      have hcv81 := Kd.C_string (P := Try.prog) (A := (some ad134)) (c := c0) Try.underlying22 Try.underlying5 Try.underlying9 (Kd.C_below HR0.out HB.out)
                      refine hK.out _ _ ⟨(blk_cell BK133.out 0).trans rfl, (blk_cell BK133.out 1).trans rfl, (blk_cell BK133.out 2).trans rfl, (blk_cell BK133.out 3).trans rfl, (Kd.C_below HR0.out HB.out)⟩ (fun hHeld => ?_)
                      clear hK K
                      refine norm_ (a' := ?_) ?_ ?_
                      rotate_left
                      · show Act.put _ (some 44) _ = _
                        simp only [Act.put, List.setIfInBounds_toArray, List.set_cons_zero, List.set_cons_succ, i64_w, i32_w]
                        rfl
                      refine one_ (i := 2) (N := some 45) #[true, true, true, true, true, false] rfl rfl (by kernel_rfl) (by decide) (fun K hK => ?_)
                      have hcv80 := own_string (P := Try.prog) Try.underlying22 Try.underlying5 Try.underlying9 (Kd.own_of_R HO155.out)
                      refine value_ (w1 := ?_) (v := ?_) (by rfl) rfl ?_ ?_
                      rotate_left 2
                      · go_simp
                        constructor
                        · rfl
                        · rfl
                      clear hcv80
                      refine hK.out _ _ ⟨(blk_cell BK133.out 0).trans rfl, (blk_cell BK133.out 1).trans rfl, (blk_cell BK133.out 2).trans rfl, (blk_cell BK133.out 3).trans rfl, (Kd.C_below HR0.out HB.out)⟩ (fun hHeld => ?_)
                      clear hK K
                      refine norm_ (a' := ?_) ?_ ?_
                      rotate_left
                      · show Act.put _ (some 45) _ = _
                        simp only [Act.put, List.setIfInBounds_toArray, List.set_cons_zero, List.set_cons_succ, i64_w, i32_w]
                        rfl
                      refine pure_ (i := 5) (N := some 48) (v := ?_) (a' := ?_) #[true, true, true, true, true, true] rfl rfl (by kernel_rfl) (fun _ _ _ h => h) (Or.inl ⟨by rfl, ?_⟩) ?_ ?_
                      rotate_left
                      · intro w'
                        go_simp
                        with_reducible rfl
                      rotate_left
                      · simp only [Act.put, List.setIfInBounds_toArray, List.set_cons_zero, List.set_cons_succ, i64_w, i32_w]
                        rfl
                      refine done_ (by kernel_rfl) ?_
                      have hcz83_0 : w79.cell? ⟨gb133, 0, none⟩ = some (.int .i64 (wrap64 (rd l0 0))) := (blk_cell BK133.out 0).trans rfl
                      have hcz83_1 : w79.cell? ⟨gb133, 1, none⟩ = some (.int .i64 0) := (blk_cell BK133.out 1).trans rfl
                      have hcz83_2 : w79.cell? ⟨gb133, 2, none⟩ = some (.float .f64 0) := (blk_cell BK133.out 2).trans rfl
                      have hcz83_3 : w79.cell? ⟨gb133, 3, none⟩ = some (.slice Ao75 y150.length co75) := (blk_cell BK133.out 3).trans rfl
                      have hfz83_0 := blk_frozen BK133.out 0
                      have hfz83_1 := blk_frozen BK133.out 1
                      have hfz83_2 := blk_frozen BK133.out 2
                      have hfz83_3 := blk_frozen BK133.out 3
                      have hcz84_0 : w79.cell? ⟨gb132, 0, none⟩ = some (.int .i64 0) := (blk_cell BK132.out 0).trans rfl
                      have hcz84_1 : w79.cell? ⟨gb132, 1, none⟩ = some (.int .i64 0) := (blk_cell BK132.out 1).trans rfl
                      have hcz84_2 : w79.cell? ⟨gb132, 2, none⟩ = some (.float .f64 0) := (blk_cell BK132.out 2).trans rfl
                      have hcz84_3 : w79.cell? ⟨gb132, 3, none⟩ = some (.slice none 0 0) := (blk_cell BK132.out 3).trans rfl
                      have hfz84_0 := blk_frozen BK132.out 0
                      have hfz84_1 := blk_frozen BK132.out 1
                      have hfz84_2 := blk_frozen BK132.out 2
                      have hfz84_3 := blk_frozen BK132.out 3
                      try go_wp2
                      refine bodyPost_ret (results_ct rfl _ _ gb132 25 #[.int .i64 (wrap64 (rd l0 0)), .int .i64 0, .float .f64 0, .slice Ao75 y150.length co75] (0, 0) _ rfl (by (with_reducible repeat (first | refine blk_drewN ?_ _ | refine blk_drew ?_ | refine blk_alloc ?_ _)); refine blk_put (cs := #[.int .i64 (wrap64 (rd l0 0)), .int .i64 0, .float .f64 0, .slice none 0 0]) ?_ 3 _ rfl; (with_reducible repeat (first | refine blk_drewN ?_ _ | refine blk_drew ?_ | refine blk_alloc ?_ _)); refine blk_put (cs := #[.int .i64 (wrap64 (rd l0 0)), .int .i64 0, .float .f64 0, .slice none 0 0]) ?_ 2 _ rfl; (with_reducible repeat (first | refine blk_drewN ?_ _ | refine blk_drew ?_ | refine blk_alloc ?_ _)); refine blk_put (cs := #[.int .i64 (wrap64 (rd l0 0)), .int .i64 0, .float .f64 0, .slice none 0 0]) ?_ 1 _ rfl; (with_reducible repeat (first | refine blk_drewN ?_ _ | refine blk_drew ?_ | refine blk_alloc ?_ _)); refine blk_put (cs := #[.int .i64 0, .int .i64 0, .float .f64 0, .slice none 0 0]) ?_ 0 _ rfl; (with_reducible repeat (first | refine blk_drewN ?_ _ | refine blk_drew ?_ | refine blk_alloc ?_ _)); exact BK132.out) Try.underlying25 rfl (by kernel_rfl)) rfl ?_
                      exact ⟨_, _, by first | rfl | (simp [errW_none, errW_some] <;> rfl) | (simp [*, errW_none, errW_some] <;> rfl), by (with_reducible repeat (first | apply Kd.R_alloc | apply Kd.R_drewN | apply Kd.R_drew)); exact Kd.R_mono (Kd.R_far (p := ⟨gb132, 3, none⟩) (Kd.R_far (p := ⟨gb132, 2, none⟩) (Kd.R_far (p := ⟨gb132, 1, none⟩) (Kd.R_far (p := ⟨gb132, 0, none⟩) (Kd.R_types HO152.out BK132.out (by decide)) (fun _ hk => hk.2) (.int .i64 (wrap64 (rd l0 0)))) (fun _ hk => hk.2) (.int .i64 0)) (fun _ hk => hk.2) (.float .f64 0)) (fun _ hk => hk.2) (.slice Ao75 y150.length co75)) (fun _ hk => trivial), by repeat (first | (with_reducible first | exact HB.out | apply below_alloc | apply pw_below_drewN | apply below_drew1 | refine below_set ?_ GE132.out | refine below_set ?_ GE133.out) | exact HB.out), (by first | exact ⟨⟨by first | rfl | decide, by decide⟩⟩)⟩
                    · rw [if_neg c68] at H
                      have c68b0 : ((strOfNums t153).toList == (strOfNums l0).toList) = false := beq_eq_false_iff_ne.mpr c68
                      have c68b1 : ((strOfNums t153).toList != (strOfNums l0).toList) = true := bne_iff_ne.mpr c68
                      simp only [Option.some.injEq, Prod.mk.injEq] at H
                      obtain ⟨rfl, rfl, rfl, rfl, rfl⟩ := H
                      have p134 : 0 ≤ (0 : Int) := (by omega)
                      have q134 : 0 < (l0.length : Int) := of_decide_eq_true (by first | (with_reducible assumption) | assumption)
                      obtain ⟨ad134, e134, hx134_0⟩ := Kd.at_int HR0.out 0 p134 q134
                      cases e134
                      have qi134 : (0 < l0.length) = True := eq_true (by omega)
                      (try rw [show ((0 : Int)).toNat = 0 from rfl] at hx134_0)
                      (try rw [Addr.add_zero'] at hx134_0)
                      replace hx134_0 := (HB.out.cell (World.block_lt_of_cell? w _ hx134_0)).trans hx134_0
                      replace p134 := eq_true p134
                      replace q134 := eq_true q134
                      have hnb85 := NB133_132.out
                      have hnc85 := NB132_133.out
                      have hcz86_0 : wc.cell? ⟨gb133, 0, none⟩ = some (.int .i64 0) := (blk_cell BK133.out 0).trans rfl
                      have hcz86_1 : wc.cell? ⟨gb133, 1, none⟩ = some (.int .i64 0) := (blk_cell BK133.out 1).trans rfl
                      have hcz86_2 : wc.cell? ⟨gb133, 2, none⟩ = some (.float .f64 0) := (blk_cell BK133.out 2).trans rfl
                      have hcz86_3 : wc.cell? ⟨gb133, 3, none⟩ = some (.slice none 0 0) := (blk_cell BK133.out 3).trans rfl
                      have hfz86_0 := blk_frozen BK133.out 0
                      have hfz86_1 := blk_frozen BK133.out 1
                      have hfz86_2 := blk_frozen BK133.out 2
                      have hfz86_3 := blk_frozen BK133.out 3
                      try go_wp2_with (first | ((with_reducible refine gate_dst (N := 38) rfl ?_); (try (refine gate_guard (by rfl) ?_; dsimp only)); refine Kd.R_lit (Kd.int .u8) _ 5 ?hg (N := 38) ?hd (xs := ([] : List Int)) (inner := []) (ok := fun _ => True) (okp := fun _ => True) ?hr ?hp (fun _ hk => hk) trivial (Below.refl _ _) (Nat.le_refl _) (by simp) ?_; (case hd => rfl); (case hg => rfl); (case hr => first | (go_simp; done) | (go_simp; rfl)); (case hp => exact (Reps.none _ _)); intro v147 w87 ho88 hb hg_ hnew_; clear hg_ hnew_; (first | rw [← Ny146.out] at ho88 | (simp only [Int.reduceToNat] at ho88; rw [← Ny146.out] at ho88)); have n0_ := Aside0.mk (Kd.R_lower ho88 (below_size (by repeat (first | (with_reducible first | exact HB.out | apply below_alloc | apply pw_below_drewN | apply below_drew1 | refine below_set ?_ GE132.out | refine below_set ?_ GE133.out) | exact HB.out)))); have n1_ := Aside0.mk (blk_below (g := gb132) (o := .cells #[.int .i64 0, .int .i64 0, .float .f64 0, .slice none 0 0] 25 (0, 0)) (by (with_reducible repeat (first | refine blk_drewN ?_ _ | refine blk_drew ?_ | refine blk_alloc ?_ _)); refine blk_far ?_ NB132_133.out _; (with_reducible repeat (first | refine blk_drewN ?_ _ | refine blk_drew ?_ | refine blk_alloc ?_ _)); exact BK132.out) hb); have n2_ := Aside0.mk (blk_below (g := gb133) (o := .cells #[.int .i64 (wrap64 (rd l0 0)), .int .i64 0, .float .f64 0, .slice none 0 0] 25 (0, 0)) (by (with_reducible repeat (first | refine blk_drewN ?_ _ | refine blk_drew ?_ | refine blk_alloc ?_ _)); refine blk_put (cs := #[.int .i64 0, .int .i64 0, .float .f64 0, .slice none 0 0]) ?_ 0 _ rfl; (with_reducible repeat (first | refine blk_drewN ?_ _ | refine blk_drew ?_ | refine blk_alloc ?_ _)); exact BK133.out) hb); have n3_ := Aside0.mk (below_step (by repeat (first | (with_reducible first | exact HB.out | apply below_alloc | apply pw_below_drewN | apply below_drew1 | refine below_set ?_ GE132.out | refine below_set ?_ GE133.out) | exact HB.out)) hb); clear BK132; clear BK133; clear HB; have HO148 := n0_; have BK132 := n1_; have BK133 := n2_; have HB := n3_; clear n0_ n1_ n2_ n3_; clear hb ho88; obtain ⟨i089, hi089, _, hsz89, _⟩ := info_parts info5; obtain ⟨A89, hcut89, hA89, hC89⟩ := print_drop_of (P := Try.prog) (Value.int .u8) 0 22 5 .i64 Try.underlying22 hi089 hsz89 (some ad134) c0 l0 1 (by omega) (of_decide_eq_true (by first | (with_reducible assumption) | assumption)) HC0.out; have HR149 := Aside0.mk (Kd.C_of_reads (h1 := fun _ => rfl) (hA89 _ (Kd.reads_of_C HR0.out))); have HC149 := Aside0.mk hC89; clear hA89 hC89 hi089 hsz89) | ((with_reducible refine gate_builtin (b := .append) (xs := #[.tmp 38, .tmp 40]) rfl ?_); (try (refine gate_guard (by rfl) ?_; dsimp only)); at_builtin; refine Kd.R_append_rows (Kd.int .u8) (w0 := w) w.heap.size rfl (.tmp 38) (.tmp 40) 22 5 (.int .u8 0) 1 rfl Try.underlying22 info5 rfl (by decide) (by omega) v147 y146 (l0.drop 1) _ _ _ (fun _ => True) (fun _ => False) rfl rfl ?aO ?aR (fun _ _ h => h) (fun _ h => h.elim) ?aF ?aB ?aS ?aL ?_; (case aR => first | (rw [← show (l0.drop 1).length = (l0.length - 1) from List.length_drop]; repeat (first | exact (Kd.C_below HR149.out HB.out) | (with_reducible refine Kd.C_alloc ?_ _) | (with_reducible refine Kd.C_drewN ?_ _) | (with_reducible refine Kd.C_drew ?_))) | (repeat (first | exact (Kd.C_below HR149.out HB.out) | (with_reducible refine Kd.C_alloc ?_ _) | (with_reducible refine Kd.C_drewN ?_ _) | (with_reducible refine Kd.C_drew ?_)))); (case aB => exact (by repeat (first | (with_reducible first | exact HB.out | apply below_alloc | apply pw_below_drewN | apply below_drew1 | refine below_set ?_ GE132.out | refine below_set ?_ GE133.out) | exact HB.out))); (case aF => exact (fun _ _ => trivial)); (case aO => exact (by (with_reducible repeat (first | apply Kd.R_alloc | apply Kd.R_drewN | apply Kd.R_drew)); exact HO148.out)); (case aS => exact (below_size (by repeat (first | (with_reducible first | exact HB.out | apply below_alloc | apply pw_below_drewN | apply below_drew1 | refine below_set ?_ GE132.out | refine below_set ?_ GE133.out) | exact HB.out)))); (case aL => have := LMc66.out; have hlx_ := (show (l0.drop 1).length = (l0.length - 1) from List.length_drop); omega); intro v151 w90 ho hb hg hat; rw [← Ny150.out] at ho; have n0_ := Aside0.mk (blk_grown (g := gb132) (o := .cells #[.int .i64 0, .int .i64 0, .float .f64 0, .slice none 0 0] 25 (0, 0)) (by (with_reducible repeat (first | refine blk_drewN ?_ _ | refine blk_drew ?_ | refine blk_alloc ?_ _)); exact BK132.out) hg (Kd.R_ne HO148.out BK132.out (by decide))); have n1_ := Aside0.mk (blk_grown (g := gb133) (o := .cells #[.int .i64 (wrap64 (rd l0 0)), .int .i64 0, .float .f64 0, .slice none 0 0] 25 (0, 0)) (by (with_reducible repeat (first | refine blk_drewN ?_ _ | refine blk_drew ?_ | refine blk_alloc ?_ _)); exact BK133.out) hg (Kd.R_ne HO148.out BK133.out (by decide))); have n2_ := Aside0.mk (hb); have n3_ := Aside0.mk (ho); clear BK132; clear BK133; clear HB; clear HO148; have BK132 := n0_; have BK133 := n1_; have HB := n2_; have HO152 := n3_; clear n0_ n1_ n2_ n3_; clear ho hb hg hat; obtain ⟨Ao91, co91, eo91⟩ := Kd.R_slice HO152.out; subst eo91; have hcz92_0 : w90.cell? ⟨gb133, 0, none⟩ = some (.int .i64 (wrap64 (rd l0 0))) := (blk_cell BK133.out 0).trans rfl; have hcz92_1 : w90.cell? ⟨gb133, 1, none⟩ = some (.int .i64 0) := (blk_cell BK133.out 1).trans rfl; have hcz92_2 : w90.cell? ⟨gb133, 2, none⟩ = some (.float .f64 0) := (blk_cell BK133.out 2).trans rfl; have hcz92_3 : w90.cell? ⟨gb133, 3, none⟩ = some (.slice none 0 0) := (blk_cell BK133.out 3).trans rfl; have hfz92_0 := blk_frozen BK133.out 0; have hfz92_1 := blk_frozen BK133.out 1; have hfz92_2 := blk_frozen BK133.out 2; have hfz92_3 := blk_frozen BK133.out 3))
                      have n0_ : Aside0 (Kd.R (Kd.int .u8) 5 (w90.setCell ⟨gb133, 3, none⟩ (.slice Ao91 y150.length co91)) w.heap.size (fun _ => True) (.slice Ao91 y150.length co91) y150) := ⟨by (with_reducible repeat (first | apply Kd.R_alloc | apply Kd.R_drewN | apply Kd.R_drew)); exact Kd.R_mono (Kd.R_far (p := ⟨gb133, 3, none⟩) (Kd.R_types HO152.out BK133.out (by decide)) (fun _ hk => hk.2) (.slice Ao91 y150.length co91)) (fun _ hk => trivial)⟩
                      have n1_ : Aside0 ((w90.setCell ⟨gb133, 3, none⟩ (.slice Ao91 y150.length co91)).heap[gb132]? = some (.cells #[.int .i64 0, .int .i64 0, .float .f64 0, .slice none 0 0] 25 (0, 0))) := ⟨by (with_reducible repeat (first | refine blk_drewN ?_ _ | refine blk_drew ?_ | refine blk_alloc ?_ _)); refine blk_far ?_ NB132_133.out _; (with_reducible repeat (first | refine blk_drewN ?_ _ | refine blk_drew ?_ | refine blk_alloc ?_ _)); exact BK132.out⟩
                      have n2_ : Aside0 ((w90.setCell ⟨gb133, 3, none⟩ (.slice Ao91 y150.length co91)).heap[gb133]? = some (.cells #[.int .i64 (wrap64 (rd l0 0)), .int .i64 0, .float .f64 0, .slice Ao91 y150.length co91] 25 (0, 0))) := ⟨by (with_reducible repeat (first | refine blk_drewN ?_ _ | refine blk_drew ?_ | refine blk_alloc ?_ _)); refine blk_put (cs := #[.int .i64 (wrap64 (rd l0 0)), .int .i64 0, .float .f64 0, .slice none 0 0]) ?_ 3 _ rfl; (with_reducible repeat (first | refine blk_drewN ?_ _ | refine blk_drew ?_ | refine blk_alloc ?_ _)); exact BK133.out⟩
                      have n3_ : Aside0 (Below w.heap.size w (w90.setCell ⟨gb133, 3, none⟩ (.slice Ao91 y150.length co91))) := ⟨by repeat (first | (with_reducible first | exact HB.out | apply below_alloc | apply pw_below_drewN | apply below_drew1 | refine below_set ?_ GE132.out | refine below_set ?_ GE133.out) | exact HB.out)⟩
                      (try clear HO152)
                      (try clear BK132)
                      (try clear BK133)
                      (try clear HB)
                      generalize (w90.setCell ⟨gb133, 3, none⟩ (.slice Ao91 y150.length co91)) = w93 at n0_ n1_ n2_ n3_ ⊢
                      have HO152 := n0_
                      have BK132 := n1_
                      have BK133 := n2_
                      have HB := n3_
                      clear n0_ n1_ n2_ n3_
                      have n0_ := Aside0.mk (Kd.R_drew HO152.out)
                      have n1_ := Aside0.mk (blk_drew BK132.out)
                      have n2_ := Aside0.mk (blk_drew BK133.out)
                      have n3_ := Aside0.mk (below_drew1 HB.out)
                      clear HO152
                      clear BK132
                      clear BK133
                      clear HB
                      have HO152 := n0_
                      have BK132 := n1_
                      have BK133 := n2_
                      have HB := n3_
                      clear n0_ n1_ n2_ n3_
                      refine start_ (n := 6) (S := fun w' => w'.cell? ⟨gb133, 0, none⟩ = some (.int .i64 (wrap64 (rd l0 0))) ∧ w'.cell? ⟨gb133, 1, none⟩ = some (.int .i64 0) ∧ w'.cell? ⟨gb133, 2, none⟩ = some (.float .f64 0) ∧ w'.cell? ⟨gb133, 3, none⟩ = some (.slice Ao91 y150.length co91) ∧ Kd.C (Kd.int .u8) w' (some ad134) l0.length l0) (ds := []) #[false, false, false, false, false, false] (by kernel_rfl) rfl rfl ⟨(blk_cell BK133.out 0).trans rfl, (blk_cell BK133.out 1).trans rfl, (blk_cell BK133.out 2).trans rfl, (blk_cell BK133.out 3).trans rfl, (Kd.C_below HR0.out HB.out)⟩ (fun hHeld => ?_)
                      generalize w93.drew = w94 at HO152 BK132 BK133 HB hHeld ⊢
                      refine pure_ (i := 3) (N := some 46) (v := ?_) (a' := ?_) #[false, false, false, true, false, false] rfl rfl (by kernel_rfl) (fun _ _ _ h => h) (Or.inl ⟨by rfl, ?_⟩) ?_ ?_
                      rotate_left
                      · intro w'
                        go_simp
                        with_reducible rfl
                      rotate_left
                      · simp only [Act.put, List.setIfInBounds_toArray, List.set_cons_zero, List.set_cons_succ, i64_w, i32_w]
                        rfl
                      refine take_ (i := 4) (N := some 47) (v := ?_) (a' := ?_) #[false, false, false, true, true, false] rfl rfl (by kernel_rfl) (fun _ _ _ h => h) (Or.inl ⟨by rfl, ?_⟩) hHeld ?_ ?_
                      rotate_left
                      · rintro w' ⟨s0, s1, s2, s3, sC⟩
                        have hcv_ := Kd.C_string (P := Try.prog) (A := (some ad134)) (c := c0) Try.underlying22 Try.underlying5 Try.underlying9 sC
                        go_simp
                        with_reducible rfl
                      rotate_left
                      · simp only [Act.put, List.setIfInBounds_toArray, List.set_cons_zero, List.set_cons_succ, i64_w, i32_w]
                        rfl
                      refine take_ (i := 0) (N := some 43) (v := ?_) (a' := ?_) #[true, false, false, true, true, false] rfl rfl (by kernel_rfl) (fun _ _ _ h => h) (Or.inl ⟨by rfl, ?_⟩) hHeld ?_ ?_
                      rotate_left
                      · rintro w' ⟨s0, s1, s2, s3, sC⟩
                        go_simp
                        with_reducible rfl
                      rotate_left
                      · simp only [Act.put, List.setIfInBounds_toArray, List.set_cons_zero, List.set_cons_succ, i64_w, i32_w]
                        rfl
                      refine one_ (i := 1) (N := some 44) #[true, true, false, true, true, false] rfl rfl (by kernel_rfl) (by decide) (fun K hK => ?_)
                      refine goes_ Try.func47 (by kernel_rfl) rfl #[.agg #[.int .i64 (wrap64 (rd l0 0)), .int .i64 0, .float .f64 0, .slice Ao91 y150.length co91]] (by rfl) rfl rfl (by (try simp only [List.map_toArray, List.map_cons, List.map_nil]); first | done | rfl | (simp only [List.length_drop, List.length_take]; rfl)) ?_
                      with_reducible refine (spec_ValueBytes.calls kj1 (wrap64 (rd l0 0)) 0 0 _ _ y150 t153 _ ?side1 ?side2 A67.out).mono ?_
                      (case side1 => repeat (first | exact (Kd.R_reads' HO152.out).2.2 | (with_reducible refine Kd.C_alloc ?_ _) | (with_reducible refine Kd.C_drewN ?_ _) | (with_reducible refine Kd.C_drew ?_)))
                      (case side2 => exact (Kd.R_reads' HO152.out).2.1)
                      rintro e w95 ⟨v154, rfl, ho0, hb⟩
                      refine ⟨_, rfl, ?_⟩
                      have n0_ := Aside0.mk (Kd.R_elder' (by (with_reducible repeat (first | apply Kd.R_alloc | apply Kd.R_drewN | apply Kd.R_drew)); exact HO152.out) (Kd.R_base ho0) hb)
                      have n1_ := Aside0.mk (Kd.R_lower (Kd.R_new' ho0 (Kd.R_lt (by (with_reducible repeat (first | apply Kd.R_alloc | apply Kd.R_drewN | apply Kd.R_drew)); exact HO152.out))) (below_size (by repeat (first | (with_reducible first | exact HB.out | apply below_alloc | apply pw_below_drewN | apply below_drew1 | refine below_set ?_ GE132.out | refine below_set ?_ GE133.out) | exact HB.out))))
                      have n2_ := Aside0.mk (blk_below (g := gb132) (o := .cells #[.int .i64 0, .int .i64 0, .float .f64 0, .slice none 0 0] 25 (0, 0)) (by (with_reducible repeat (first | refine blk_drewN ?_ _ | refine blk_drew ?_ | refine blk_alloc ?_ _)); exact BK132.out) hb)
                      have n3_ := Aside0.mk (blk_below (g := gb133) (o := .cells #[.int .i64 (wrap64 (rd l0 0)), .int .i64 0, .float .f64 0, .slice Ao91 y150.length co91] 25 (0, 0)) (by (with_reducible repeat (first | refine blk_drewN ?_ _ | refine blk_drew ?_ | refine blk_alloc ?_ _)); exact BK133.out) hb)
                      have n4_ := Aside0.mk (below_step (by repeat (first | (with_reducible first | exact HB.out | apply below_alloc | apply pw_below_drewN | apply below_drew1 | refine below_set ?_ GE132.out | refine below_set ?_ GE133.out) | exact HB.out)) hb)
                      clear HO152
                      clear BK132
                      clear BK133
                      clear HB
                      have HO152 := n0_
                      have HO155 := n1_
                      have BK132 := n2_
                      have BK133 := n3_
                      have HB := n4_
                      clear n0_ n1_ n2_ n3_ n4_
                      (try clear hb)
                      (try clear hb2)
                      (try clear hk)
                      (try clear hi)
                      (try clear ho0)
                      have hcv97 := Kd.C_string (P := Try.prog) (A := (some ad134)) (c := c0) Try.underlying22 Try.underlying5 Try.underlying9 (Kd.C_below HR0.out HB.out)
                      refine hK.out _ _ ⟨(blk_cell BK133.out 0).trans rfl, (blk_cell BK133.out 1).trans rfl, (blk_cell BK133.out 2).trans rfl, (blk_cell BK133.out 3).trans rfl, (Kd.C_below HR0.out HB.out)⟩ (fun hHeld => ?_)
                      clear hK K
                      refine norm_ (a' := ?_) ?_ ?_
                      rotate_left
                      · show Act.put _ (some 44) _ = _
                        simp only [Act.put, List.setIfInBounds_toArray, List.set_cons_zero, List.set_cons_succ, i64_w, i32_w]
                        rfl
                      refine one_ (i := 2) (N := some 45) #[true, true, true, true, true, false] rfl rfl (by kernel_rfl) (by decide) (fun K hK => ?_)
                      have hcv96 := own_string (P := Try.prog) Try.underlying22 Try.underlying5 Try.underlying9 (Kd.own_of_R HO155.out)
                      refine value_ (w1 := ?_) (v := ?_) (by rfl) rfl ?_ ?_
                      rotate_left 2
                      · go_simp
                        constructor
                        · rfl
                        · rfl
                      clear hcv96
                      refine hK.out _ _ ⟨(blk_cell BK133.out 0).trans rfl, (blk_cell BK133.out 1).trans rfl, (blk_cell BK133.out 2).trans rfl, (blk_cell BK133.out 3).trans rfl, (Kd.C_below HR0.out HB.out)⟩ (fun hHeld => ?_)
                      clear hK K
                      refine norm_ (a' := ?_) ?_ ?_
                      rotate_left
                      · show Act.put _ (some 45) _ = _
                        simp only [Act.put, List.setIfInBounds_toArray, List.set_cons_zero, List.set_cons_succ, i64_w, i32_w]
                        rfl
                      refine pure_ (i := 5) (N := some 48) (v := ?_) (a' := ?_) #[true, true, true, true, true, true] rfl rfl (by kernel_rfl) (fun _ _ _ h => h) (Or.inl ⟨by rfl, ?_⟩) ?_ ?_
                      rotate_left
                      · intro w'
                        go_simp
                        with_reducible rfl
                      rotate_left
                      · simp only [Act.put, List.setIfInBounds_toArray, List.set_cons_zero, List.set_cons_succ, i64_w, i32_w]
                        rfl
                      refine done_ (by kernel_rfl) ?_
                      have hcz99_0 : w95.cell? ⟨gb132, 0, none⟩ = some (.int .i64 0) := (blk_cell BK132.out 0).trans rfl
                      have hcz99_1 : w95.cell? ⟨gb132, 1, none⟩ = some (.int .i64 0) := (blk_cell BK132.out 1).trans rfl
                      have hcz99_2 : w95.cell? ⟨gb132, 2, none⟩ = some (.float .f64 0) := (blk_cell BK132.out 2).trans rfl
                      have hcz99_3 : w95.cell? ⟨gb132, 3, none⟩ = some (.slice none 0 0) := (blk_cell BK132.out 3).trans rfl
                      have hfz99_0 := blk_frozen BK132.out 0
                      have hfz99_1 := blk_frozen BK132.out 1
                      have hfz99_2 := blk_frozen BK132.out 2
                      have hfz99_3 := blk_frozen BK132.out 3
                      try go_wp2
                      refine bodyPost_ret (results_ct rfl _ _ gb132 25 #[.int .i64 0, .int .i64 0, .float .f64 0, .slice none 0 0] (0, 0) _ rfl (by (with_reducible repeat (first | refine blk_drewN ?_ _ | refine blk_drew ?_ | refine blk_alloc ?_ _)); refine blk_put (cs := #[.int .i64 0, .int .i64 0, .float .f64 0, .slice none 0 0]) ?_ 3 _ rfl; (with_reducible repeat (first | refine blk_drewN ?_ _ | refine blk_drew ?_ | refine blk_alloc ?_ _)); refine blk_put (cs := #[.int .i64 0, .int .i64 0, .float .f64 0, .slice none 0 0]) ?_ 2 _ rfl; (with_reducible repeat (first | refine blk_drewN ?_ _ | refine blk_drew ?_ | refine blk_alloc ?_ _)); refine blk_put (cs := #[.int .i64 0, .int .i64 0, .float .f64 0, .slice none 0 0]) ?_ 1 _ rfl; (with_reducible repeat (first | refine blk_drewN ?_ _ | refine blk_drew ?_ | refine blk_alloc ?_ _)); refine blk_put (cs := #[.int .i64 0, .int .i64 0, .float .f64 0, .slice none 0 0]) ?_ 0 _ rfl; (with_reducible repeat (first | refine blk_drewN ?_ _ | refine blk_drew ?_ | refine blk_alloc ?_ _)); exact BK132.out) Try.underlying25 rfl (by kernel_rfl)) rfl ?_
                      exact ⟨_, _, by first | rfl | (simp [errW_none, errW_some] <;> rfl) | (simp [*, errW_none, errW_some] <;> rfl), by first | exact Kd.R_nil _ _ _ _ _ | exact Kd.N_nil _ _ _ _ _ | exact Kd.V_nil _ _ _ _ _ | exact Kd.Q_nil _ _ _ _ _ | exact Kd.S_nil _ _ _ _ _, by repeat (first | (with_reducible first | exact HB.out | apply below_alloc | apply pw_below_drewN | apply below_drew1 | refine below_set ?_ GE132.out | refine below_set ?_ GE133.out) | exact HB.out), (by first | exact ⟨⟨by first | rfl | decide, by decide⟩⟩)⟩
                  · rw [if_neg c66] at H
                    exact absurd H (by simp)
                · rw [if_neg c65] at H
                  exact absurd H (by simp)
              · rw [if_neg c64] at H
                have c64b0 : ((wrap64 (rd l0 0)) == 3) = false := beq_eq_false_iff_ne.mpr c64
                have c64b1 : ((wrap64 (rd l0 0)) != 3) = true := bne_iff_ne.mpr c64
                replace H := Option.bind_eq_some_iff.mp H
                obtain ⟨t156, A1000, H⟩ := H
                replace H : (if (strOfNums t156).toList = (strOfNums l0).toList then (some (wrap64 (rd l0 0), 0, 0, ([] : List Int), true)) else (some (0, 0, 0, ([] : List Int), false))) = some (r1, r2, r3, r4, r5) := H
                have A100 := Aside0.mk A1000
                clear A1000
                by_cases c101 : (strOfNums t156).toList = (strOfNums l0).toList
                · rw [if_pos c101] at H
                  have c101b0 : ((strOfNums t156).toList == (strOfNums l0).toList) = true := beq_iff_eq.mpr c101
                  have c101b1 : ((strOfNums t156).toList != (strOfNums l0).toList) = false := bne_eq_false_iff_eq.mpr c101
                  clear c101
                  simp only [Option.some.injEq, Prod.mk.injEq] at H
                  obtain ⟨rfl, rfl, rfl, rfl, rfl⟩ := H
                  have p134 : 0 ≤ (0 : Int) := (by omega)
                  have q134 : 0 < (l0.length : Int) := of_decide_eq_true (by first | (with_reducible assumption) | assumption)
                  obtain ⟨ad134, e134, hx134_0⟩ := Kd.at_int HR0.out 0 p134 q134
                  cases e134
                  have qi134 : (0 < l0.length) = True := eq_true (by omega)
                  (try rw [show ((0 : Int)).toNat = 0 from rfl] at hx134_0)
                  (try rw [Addr.add_zero'] at hx134_0)
                  replace hx134_0 := (HB.out.cell (World.block_lt_of_cell? w _ hx134_0)).trans hx134_0
                  replace p134 := eq_true p134
                  replace q134 := eq_true q134
                  have hnb102 := NB133_132.out
                  have hnc102 := NB132_133.out
                  have hcz103_0 : wc.cell? ⟨gb133, 0, none⟩ = some (.int .i64 0) := (blk_cell BK133.out 0).trans rfl
                  have hcz103_1 : wc.cell? ⟨gb133, 1, none⟩ = some (.int .i64 0) := (blk_cell BK133.out 1).trans rfl
                  have hcz103_2 : wc.cell? ⟨gb133, 2, none⟩ = some (.float .f64 0) := (blk_cell BK133.out 2).trans rfl
                  have hcz103_3 : wc.cell? ⟨gb133, 3, none⟩ = some (.slice none 0 0) := (blk_cell BK133.out 3).trans rfl
                  have hfz103_0 := blk_frozen BK133.out 0
                  have hfz103_1 := blk_frozen BK133.out 1
                  have hfz103_2 := blk_frozen BK133.out 2
                  have hfz103_3 := blk_frozen BK133.out 3
                  try go_wp2
                  have n0_ : Aside0 ((wc.setCell ⟨gb133, 0, none⟩ (.int .i64 (wrap64 (rd l0 0)))).heap[gb132]? = some (.cells #[.int .i64 0, .int .i64 0, .float .f64 0, .slice none 0 0] 25 (0, 0))) := ⟨by (with_reducible repeat (first | refine blk_drewN ?_ _ | refine blk_drew ?_ | refine blk_alloc ?_ _)); refine blk_far ?_ NB132_133.out _; (with_reducible repeat (first | refine blk_drewN ?_ _ | refine blk_drew ?_ | refine blk_alloc ?_ _)); exact BK132.out⟩
                  have n1_ : Aside0 ((wc.setCell ⟨gb133, 0, none⟩ (.int .i64 (wrap64 (rd l0 0)))).heap[gb133]? = some (.cells #[.int .i64 (wrap64 (rd l0 0)), .int .i64 0, .float .f64 0, .slice none 0 0] 25 (0, 0))) := ⟨by (with_reducible repeat (first | refine blk_drewN ?_ _ | refine blk_drew ?_ | refine blk_alloc ?_ _)); refine blk_put (cs := #[.int .i64 0, .int .i64 0, .float .f64 0, .slice none 0 0]) ?_ 0 _ rfl; (with_reducible repeat (first | refine blk_drewN ?_ _ | refine blk_drew ?_ | refine blk_alloc ?_ _)); exact BK133.out⟩
                  have n2_ : Aside0 (Below w.heap.size w (wc.setCell ⟨gb133, 0, none⟩ (.int .i64 (wrap64 (rd l0 0))))) := ⟨by repeat (first | (with_reducible first | exact HB.out | apply below_alloc | apply pw_below_drewN | apply below_drew1 | refine below_set ?_ GE132.out | refine below_set ?_ GE133.out) | exact HB.out)⟩
                  (try clear BK132)
                  (try clear BK133)
                  (try clear HB)
                  generalize (wc.setCell ⟨gb133, 0, none⟩ (.int .i64 (wrap64 (rd l0 0)))) = w104 at n0_ n1_ n2_ ⊢
                  have BK132 := n0_
                  have BK133 := n1_
                  have HB := n2_
                  clear n0_ n1_ n2_
                  have n0_ := Aside0.mk (blk_drew BK132.out)
                  have n1_ := Aside0.mk (blk_drew BK133.out)
                  have n2_ := Aside0.mk (below_drew1 HB.out)
                  clear BK132
                  clear BK133
                  clear HB
                  have BK132 := n0_
                  have BK133 := n1_
                  have HB := n2_
                  clear n0_ n1_ n2_
                  refine start_ (n := 6) (S := fun w' => w'.cell? ⟨gb133, 0, none⟩ = some (.int .i64 (wrap64 (rd l0 0))) ∧ w'.cell? ⟨gb133, 1, none⟩ = some (.int .i64 0) ∧ w'.cell? ⟨gb133, 2, none⟩ = some (.float .f64 0) ∧ w'.cell? ⟨gb133, 3, none⟩ = some (.slice none 0 0) ∧ Kd.C (Kd.int .u8) w' (some ad134) l0.length l0) (ds := []) #[false, false, false, false, false, false] (by kernel_rfl) rfl rfl ⟨(blk_cell BK133.out 0).trans rfl, (blk_cell BK133.out 1).trans rfl, (blk_cell BK133.out 2).trans rfl, (blk_cell BK133.out 3).trans rfl, (Kd.C_below HR0.out HB.out)⟩ (fun hHeld => ?_)
                  generalize w104.drew = w105 at BK132 BK133 HB hHeld ⊢
                  refine pure_ (i := 3) (N := some 46) (v := ?_) (a' := ?_) #[false, false, false, true, false, false] rfl rfl (by kernel_rfl) (fun _ _ _ h => h) (Or.inl ⟨by rfl, ?_⟩) ?_ ?_
                  rotate_left
                  · intro w'
                    go_simp
                    with_reducible rfl
                  rotate_left
                  · simp only [Act.put, List.setIfInBounds_toArray, List.set_cons_zero, List.set_cons_succ, i64_w, i32_w]
                    rfl
                  refine take_ (i := 4) (N := some 47) (v := ?_) (a' := ?_) #[false, false, false, true, true, false] rfl rfl (by kernel_rfl) (fun _ _ _ h => h) (Or.inl ⟨by rfl, ?_⟩) hHeld ?_ ?_
                  rotate_left
                  · rintro w' ⟨s0, s1, s2, s3, sC⟩
                    have hcv_ := Kd.C_string (P := Try.prog) (A := (some ad134)) (c := c0) Try.underlying22 Try.underlying5 Try.underlying9 sC
                    go_simp
                    with_reducible rfl
                  rotate_left
                  · simp only [Act.put, List.setIfInBounds_toArray, List.set_cons_zero, List.set_cons_succ, i64_w, i32_w]
                    rfl
                  refine take_ (i := 0) (N := some 43) (v := ?_) (a' := ?_) #[true, false, false, true, true, false] rfl rfl (by kernel_rfl) (fun _ _ _ h => h) (Or.inl ⟨by rfl, ?_⟩) hHeld ?_ ?_
                  rotate_left
                  · rintro w' ⟨s0, s1, s2, s3, sC⟩
                    go_simp
                    with_reducible rfl
                  rotate_left
                  · simp only [Act.put, List.setIfInBounds_toArray, List.set_cons_zero, List.set_cons_succ, i64_w, i32_w]
                    rfl
                  refine one_ (i := 1) (N := some 44) #[true, true, false, true, true, false] rfl rfl (by kernel_rfl) (by decide) (fun K hK => ?_)
                  refine goes_ Try.func47 (by kernel_rfl) rfl #[.agg #[.int .i64 (wrap64 (rd l0 0)), .int .i64 0, .float .f64 0, .slice none 0 0]] (by rfl) rfl rfl (by (try simp only [List.map_toArray, List.map_cons, List.map_nil]); first | done | rfl | (simp only [List.length_drop, List.length_take]; rfl)) ?_
                  refine (spec_ValueBytes.calls kj1 (wrap64 (rd l0 0)) 0 0 _ _ ([] : List Int) t156 _ ?side1 ?side2 A100.out).mono ?_
                  (case side1 => exact Kd.C_nil _ _)
                  (case side2 => exact Nat.le_refl _)
                  rintro e w106 ⟨v157, rfl, ho0, hb⟩
                  refine ⟨_, rfl, ?_⟩
                  have n0_ := Aside0.mk (Kd.R_lower ho0 (below_size (by repeat (first | (with_reducible first | exact HB.out | apply below_alloc | apply pw_below_drewN | apply below_drew1 | refine below_set ?_ GE132.out | refine below_set ?_ GE133.out) | exact HB.out))))
                  have n1_ := Aside0.mk (blk_below (g := gb132) (o := .cells #[.int .i64 0, .int .i64 0, .float .f64 0, .slice none 0 0] 25 (0, 0)) (by (with_reducible repeat (first | refine blk_drewN ?_ _ | refine blk_drew ?_ | refine blk_alloc ?_ _)); exact BK132.out) hb)
                  have n2_ := Aside0.mk (blk_below (g := gb133) (o := .cells #[.int .i64 (wrap64 (rd l0 0)), .int .i64 0, .float .f64 0, .slice none 0 0] 25 (0, 0)) (by (with_reducible repeat (first | refine blk_drewN ?_ _ | refine blk_drew ?_ | refine blk_alloc ?_ _)); exact BK133.out) hb)
                  have n3_ := Aside0.mk (below_step (by repeat (first | (with_reducible first | exact HB.out | apply below_alloc | apply pw_below_drewN | apply below_drew1 | refine below_set ?_ GE132.out | refine below_set ?_ GE133.out) | exact HB.out)) hb)
                  clear BK132
                  clear BK133
                  clear HB
                  have HO158 := n0_
                  have BK132 := n1_
                  have BK133 := n2_
                  have HB := n3_
                  clear n0_ n1_ n2_ n3_
                  (try clear hb)
                  (try clear hb2)
                  (try clear hk)
                  (try clear hi)
                  (try clear ho0)
                  have hcv108 := Kd.C_string (P := Try.prog) (A := (some ad134)) (c := c0) Try.underlying22 Try.underlying5 Try.underlying9 (Kd.C_below HR0.out HB.out)
                  refine hK.out _ _ ⟨(blk_cell BK133.out 0).trans rfl, (blk_cell BK133.out 1).trans rfl, (blk_cell BK133.out 2).trans rfl, (blk_cell BK133.out 3).trans rfl, (Kd.C_below HR0.out HB.out)⟩ (fun hHeld => ?_)
                  clear hK K
                  refine norm_ (a' := ?_) ?_ ?_
                  rotate_left
                  · show Act.put _ (some 44) _ = _
                    simp only [Act.put, List.setIfInBounds_toArray, List.set_cons_zero, List.set_cons_succ, i64_w, i32_w]
                    rfl
                  refine one_ (i := 2) (N := some 45) #[true, true, true, true, true, false] rfl rfl (by kernel_rfl) (by decide) (fun K hK => ?_)
                  have hcv107 := own_string (P := Try.prog) Try.underlying22 Try.underlying5 Try.underlying9 (Kd.own_of_R HO158.out)
                  refine value_ (w1 := ?_) (v := ?_) (by rfl) rfl ?_ ?_
                  rotate_left 2
                  · go_simp
                    constructor
                    · rfl
                    · rfl
                  clear hcv107
                  refine hK.out _ _ ⟨(blk_cell BK133.out 0).trans rfl, (blk_cell BK133.out 1).trans rfl, (blk_cell BK133.out 2).trans rfl, (blk_cell BK133.out 3).trans rfl, (Kd.C_below HR0.out HB.out)⟩ (fun hHeld => ?_)
                  clear hK K
                  refine norm_ (a' := ?_) ?_ ?_
                  rotate_left
                  · show Act.put _ (some 45) _ = _
                    simp only [Act.put, List.setIfInBounds_toArray, List.set_cons_zero, List.set_cons_succ, i64_w, i32_w]
                    rfl
                  refine pure_ (i := 5) (N := some 48) (v := ?_) (a' := ?_) #[true, true, true, true, true, true] rfl rfl (by kernel_rfl) (fun _ _ _ h => h) (Or.inl ⟨by rfl, ?_⟩) ?_ ?_
                  rotate_left
                  · intro w'
                    go_simp
                    with_reducible rfl
                  rotate_left
                  · simp only [Act.put, List.setIfInBounds_toArray, List.set_cons_zero, List.set_cons_succ, i64_w, i32_w]
                    rfl
                  refine done_ (by kernel_rfl) ?_
                  have hcz110_0 : w106.cell? ⟨gb133, 0, none⟩ = some (.int .i64 (wrap64 (rd l0 0))) := (blk_cell BK133.out 0).trans rfl
                  have hcz110_1 : w106.cell? ⟨gb133, 1, none⟩ = some (.int .i64 0) := (blk_cell BK133.out 1).trans rfl
                  have hcz110_2 : w106.cell? ⟨gb133, 2, none⟩ = some (.float .f64 0) := (blk_cell BK133.out 2).trans rfl
                  have hcz110_3 : w106.cell? ⟨gb133, 3, none⟩ = some (.slice none 0 0) := (blk_cell BK133.out 3).trans rfl
                  have hfz110_0 := blk_frozen BK133.out 0
                  have hfz110_1 := blk_frozen BK133.out 1
                  have hfz110_2 := blk_frozen BK133.out 2
                  have hfz110_3 := blk_frozen BK133.out 3
                  have hcz111_0 : w106.cell? ⟨gb132, 0, none⟩ = some (.int .i64 0) := (blk_cell BK132.out 0).trans rfl
                  have hcz111_1 : w106.cell? ⟨gb132, 1, none⟩ = some (.int .i64 0) := (blk_cell BK132.out 1).trans rfl
                  have hcz111_2 : w106.cell? ⟨gb132, 2, none⟩ = some (.float .f64 0) := (blk_cell BK132.out 2).trans rfl
                  have hcz111_3 : w106.cell? ⟨gb132, 3, none⟩ = some (.slice none 0 0) := (blk_cell BK132.out 3).trans rfl
                  have hfz111_0 := blk_frozen BK132.out 0
                  have hfz111_1 := blk_frozen BK132.out 1
                  have hfz111_2 := blk_frozen BK132.out 2
                  have hfz111_3 := blk_frozen BK132.out 3
                  try go_wp2
                  refine bodyPost_ret (results_ct rfl _ _ gb132 25 #[.int .i64 (wrap64 (rd l0 0)), .int .i64 0, .float .f64 0, .slice none 0 0] (0, 0) _ rfl (by (with_reducible repeat (first | refine blk_drewN ?_ _ | refine blk_drew ?_ | refine blk_alloc ?_ _)); refine blk_put (cs := #[.int .i64 (wrap64 (rd l0 0)), .int .i64 0, .float .f64 0, .slice none 0 0]) ?_ 3 _ rfl; (with_reducible repeat (first | refine blk_drewN ?_ _ | refine blk_drew ?_ | refine blk_alloc ?_ _)); refine blk_put (cs := #[.int .i64 (wrap64 (rd l0 0)), .int .i64 0, .float .f64 0, .slice none 0 0]) ?_ 2 _ rfl; (with_reducible repeat (first | refine blk_drewN ?_ _ | refine blk_drew ?_ | refine blk_alloc ?_ _)); refine blk_put (cs := #[.int .i64 (wrap64 (rd l0 0)), .int .i64 0, .float .f64 0, .slice none 0 0]) ?_ 1 _ rfl; (with_reducible repeat (first | refine blk_drewN ?_ _ | refine blk_drew ?_ | refine blk_alloc ?_ _)); refine blk_put (cs := #[.int .i64 0, .int .i64 0, .float .f64 0, .slice none 0 0]) ?_ 0 _ rfl; (with_reducible repeat (first | refine blk_drewN ?_ _ | refine blk_drew ?_ | refine blk_alloc ?_ _)); exact BK132.out) Try.underlying25 rfl (by kernel_rfl)) rfl ?_
                  exact ⟨_, _, by first | rfl | (simp [errW_none, errW_some] <;> rfl) | (simp [*, errW_none, errW_some] <;> rfl), by first | exact Kd.R_nil _ _ _ _ _ | exact Kd.N_nil _ _ _ _ _ | exact Kd.V_nil _ _ _ _ _ | exact Kd.Q_nil _ _ _ _ _ | exact Kd.S_nil _ _ _ _ _, by repeat (first | (with_reducible first | exact HB.out | apply below_alloc | apply pw_below_drewN | apply below_drew1 | refine below_set ?_ GE132.out | refine below_set ?_ GE133.out) | exact HB.out), (by first | exact ⟨⟨by first | rfl | decide, by decide⟩⟩)⟩
                · rw [if_neg c101] at H
                  have c101b0 : ((strOfNums t156).toList == (strOfNums l0).toList) = false := beq_eq_false_iff_ne.mpr c101
                  have c101b1 : ((strOfNums t156).toList != (strOfNums l0).toList) = true := bne_iff_ne.mpr c101
                  simp only [Option.some.injEq, Prod.mk.injEq] at H
                  obtain ⟨rfl, rfl, rfl, rfl, rfl⟩ := H
                  have p134 : 0 ≤ (0 : Int) := (by omega)
                  have q134 : 0 < (l0.length : Int) := of_decide_eq_true (by first | (with_reducible assumption) | assumption)
                  obtain ⟨ad134, e134, hx134_0⟩ := Kd.at_int HR0.out 0 p134 q134
                  cases e134
                  have qi134 : (0 < l0.length) = True := eq_true (by omega)
                  (try rw [show ((0 : Int)).toNat = 0 from rfl] at hx134_0)
                  (try rw [Addr.add_zero'] at hx134_0)
                  replace hx134_0 := (HB.out.cell (World.block_lt_of_cell? w _ hx134_0)).trans hx134_0
                  replace p134 := eq_true p134
                  replace q134 := eq_true q134
                  have hnb112 := NB133_132.out
                  have hnc112 := NB132_133.out
                  have hcz113_0 : wc.cell? ⟨gb133, 0, none⟩ = some (.int .i64 0) := (blk_cell BK133.out 0).trans rfl
                  have hcz113_1 : wc.cell? ⟨gb133, 1, none⟩ = some (.int .i64 0) := (blk_cell BK133.out 1).trans rfl
                  have hcz113_2 : wc.cell? ⟨gb133, 2, none⟩ = some (.float .f64 0) := (blk_cell BK133.out 2).trans rfl
                  have hcz113_3 : wc.cell? ⟨gb133, 3, none⟩ = some (.slice none 0 0) := (blk_cell BK133.out 3).trans rfl
                  have hfz113_0 := blk_frozen BK133.out 0
                  have hfz113_1 := blk_frozen BK133.out 1
                  have hfz113_2 := blk_frozen BK133.out 2
                  have hfz113_3 := blk_frozen BK133.out 3
                  try go_wp2
                  have n0_ : Aside0 ((wc.setCell ⟨gb133, 0, none⟩ (.int .i64 (wrap64 (rd l0 0)))).heap[gb132]? = some (.cells #[.int .i64 0, .int .i64 0, .float .f64 0, .slice none 0 0] 25 (0, 0))) := ⟨by (with_reducible repeat (first | refine blk_drewN ?_ _ | refine blk_drew ?_ | refine blk_alloc ?_ _)); refine blk_far ?_ NB132_133.out _; (with_reducible repeat (first | refine blk_drewN ?_ _ | refine blk_drew ?_ | refine blk_alloc ?_ _)); exact BK132.out⟩
                  have n1_ : Aside0 ((wc.setCell ⟨gb133, 0, none⟩ (.int .i64 (wrap64 (rd l0 0)))).heap[gb133]? = some (.cells #[.int .i64 (wrap64 (rd l0 0)), .int .i64 0, .float .f64 0, .slice none 0 0] 25 (0, 0))) := ⟨by (with_reducible repeat (first | refine blk_drewN ?_ _ | refine blk_drew ?_ | refine blk_alloc ?_ _)); refine blk_put (cs := #[.int .i64 0, .int .i64 0, .float .f64 0, .slice none 0 0]) ?_ 0 _ rfl; (with_reducible repeat (first | refine blk_drewN ?_ _ | refine blk_drew ?_ | refine blk_alloc ?_ _)); exact BK133.out⟩
                  have n2_ : Aside0 (Below w.heap.size w (wc.setCell ⟨gb133, 0, none⟩ (.int .i64 (wrap64 (rd l0 0))))) := ⟨by repeat (first | (with_reducible first | exact HB.out | apply below_alloc | apply pw_below_drewN | apply below_drew1 | refine below_set ?_ GE132.out | refine below_set ?_ GE133.out) | exact HB.out)⟩
                  (try clear BK132)
                  (try clear BK133)
                  (try clear HB)
                  generalize (wc.setCell ⟨gb133, 0, none⟩ (.int .i64 (wrap64 (rd l0 0)))) = w114 at n0_ n1_ n2_ ⊢
                  have BK132 := n0_
                  have BK133 := n1_
                  have HB := n2_
                  clear n0_ n1_ n2_
                  have n0_ := Aside0.mk (blk_drew BK132.out)
                  have n1_ := Aside0.mk (blk_drew BK133.out)
                  have n2_ := Aside0.mk (below_drew1 HB.out)
                  clear BK132
                  clear BK133
                  clear HB
                  have BK132 := n0_
                  have BK133 := n1_
                  have HB := n2_
                  clear n0_ n1_ n2_
                  refine start_ (n := 6) (S := fun w' => w'.cell? ⟨gb133, 0, none⟩ = some (.int .i64 (wrap64 (rd l0 0))) ∧ w'.cell? ⟨gb133, 1, none⟩ = some (.int .i64 0) ∧ w'.cell? ⟨gb133, 2, none⟩ = some (.float .f64 0) ∧ w'.cell? ⟨gb133, 3, none⟩ = some (.slice none 0 0) ∧ Kd.C (Kd.int .u8) w' (some ad134) l0.length l0) (ds := []) #[false, false, false, false, false, false] (by kernel_rfl) rfl rfl ⟨(blk_cell BK133.out 0).trans rfl, (blk_cell BK133.out 1).trans rfl, (blk_cell BK133.out 2).trans rfl, (blk_cell BK133.out 3).trans rfl, (Kd.C_below HR0.out HB.out)⟩ (fun hHeld => ?_)
                  generalize w114.drew = w115 at BK132 BK133 HB hHeld ⊢
                  refine pure_ (i := 3) (N := some 46) (v := ?_) (a' := ?_) #[false, false, false, true, false, false] rfl rfl (by kernel_rfl) (fun _ _ _ h => h) (Or.inl ⟨by rfl, ?_⟩) ?_ ?_
                  rotate_left
                  · intro w'
                    go_simp
                    with_reducible rfl
                  rotate_left
                  · simp only [Act.put, List.setIfInBounds_toArray, List.set_cons_zero, List.set_cons_succ, i64_w, i32_w]
                    rfl
                  refine take_ (i := 4) (N := some 47) (v := ?_) (a' := ?_) #[false, false, false, true, true, false] rfl rfl (by kernel_rfl) (fun _ _ _ h => h) (Or.inl ⟨by rfl, ?_⟩) hHeld ?_ ?_
                  rotate_left
                  · rintro w' ⟨s0, s1, s2, s3, sC⟩
                    have hcv_ := Kd.C_string (P := Try.prog) (A := (some ad134)) (c := c0) Try.underlying22 Try.underlying5 Try.underlying9 sC
                    go_simp
                    with_reducible rfl
                  rotate_left
                  · simp only [Act.put, List.setIfInBounds_toArray, List.set_cons_zero, List.set_cons_succ, i64_w, i32_w]
                    rfl
                  refine take_ (i := 0) (N := some 43) (v := ?_) (a' := ?_) #[true, false, false, true, true, false] rfl rfl (by kernel_rfl) (fun _ _ _ h => h) (Or.inl ⟨by rfl, ?_⟩) hHeld ?_ ?_
                  rotate_left
                  · rintro w' ⟨s0, s1, s2, s3, sC⟩
                    go_simp
                    with_reducible rfl
                  rotate_left
                  · simp only [Act.put, List.setIfInBounds_toArray, List.set_cons_zero, List.set_cons_succ, i64_w, i32_w]
                    rfl
                  refine one_ (i := 1) (N := some 44) #[true, true, false, true, true, false] rfl rfl (by kernel_rfl) (by decide) (fun K hK => ?_)
                  refine goes_ Try.func47 (by kernel_rfl) rfl #[.agg #[.int .i64 (wrap64 (rd l0 0)), .int .i64 0, .float .f64 0, .slice none 0 0]] (by rfl) rfl rfl (by (try simp only [List.map_toArray, List.map_cons, List.map_nil]); first | done | rfl | (simp only [List.length_drop, List.length_take]; rfl)) ?_
                  refine (spec_ValueBytes.calls kj1 (wrap64 (rd l0 0)) 0 0 _ _ ([] : List Int) t156 _ ?side1 ?side2 A100.out).mono ?_
                  (case side1 => exact Kd.C_nil _ _)
                  (case side2 => exact Nat.le_refl _)
                  rintro e w116 ⟨v157, rfl, ho0, hb⟩
                  refine ⟨_, rfl, ?_⟩
                  have n0_ := Aside0.mk (Kd.R_lower ho0 (below_size (by repeat (first | (with_reducible first | exact HB.out | apply below_alloc | apply pw_below_drewN | apply below_drew1 | refine below_set ?_ GE132.out | refine below_set ?_ GE133.out) | exact HB.out))))
                  have n1_ := Aside0.mk (blk_below (g := gb132) (o := .cells #[.int .i64 0, .int .i64 0, .float .f64 0, .slice none 0 0] 25 (0, 0)) (by (with_reducible repeat (first | refine blk_drewN ?_ _ | refine blk_drew ?_ | refine blk_alloc ?_ _)); exact BK132.out) hb)
                  have n2_ := Aside0.mk (blk_below (g := gb133) (o := .cells #[.int .i64 (wrap64 (rd l0 0)), .int .i64 0, .float .f64 0, .slice none 0 0] 25 (0, 0)) (by (with_reducible repeat (first | refine blk_drewN ?_ _ | refine blk_drew ?_ | refine blk_alloc ?_ _)); exact BK133.out) hb)
                  have n3_ := Aside0.mk (below_step (by repeat (first | (with_reducible first | exact HB.out | apply below_alloc | apply pw_below_drewN | apply below_drew1 | refine below_set ?_ GE132.out | refine below_set ?_ GE133.out) | exact HB.out)) hb)
                  clear BK132
                  clear BK133
                  clear HB
                  have HO158 := n0_
                  have BK132 := n1_
                  have BK133 := n2_
                  have HB := n3_
                  clear n0_ n1_ n2_ n3_
                  (try clear hb)
                  (try clear hb2)
                  (try clear hk)
                  (try clear hi)
                  (try clear ho0)
                  have hcv118 := Kd.C_string (P := Try.prog) (A := (some ad134)) (c := c0) Try.underlying22 Try.underlying5 Try.underlying9 (Kd.C_below HR0.out HB.out)
                  refine hK.out _ _ ⟨(blk_cell BK133.out 0).trans rfl, (blk_cell BK133.out 1).trans rfl, (blk_cell BK133.out 2).trans rfl, (blk_cell BK133.out 3).trans rfl, (Kd.C_below HR0.out HB.out)⟩ (fun hHeld => ?_)
                  clear hK K
                  refine norm_ (a' := ?_) ?_ ?_
                  rotate_left
                  · show Act.put _ (some 44) _ = _
                    simp only [Act.put, List.setIfInBounds_toArray, List.set_cons_zero, List.set_cons_succ, i64_w, i32_w]
                    rfl
                  refine one_ (i := 2) (N := some 45) #[true, true, true, true, true, false] rfl rfl (by kernel_rfl) (by decide) (fun K hK => ?_)
                  have hcv117 := own_string (P := Try.prog) Try.underlying22 Try.underlying5 Try.underlying9 (Kd.own_of_R HO158.out)
                  refine value_ (w1 := ?_) (v := ?_) (by rfl) rfl ?_ ?_
                  rotate_left 2
                  · go_simp
                    constructor
                    · rfl
                    · rfl
                  clear hcv117
                  refine hK.out _ _ ⟨(blk_cell BK133.out 0).trans rfl, (blk_cell BK133.out 1).trans rfl, (blk_cell BK133.out 2).trans rfl, (blk_cell BK133.out 3).trans rfl, (Kd.C_below HR0.out HB.out)⟩ (fun hHeld => ?_)
                  clear hK K
                  refine norm_ (a' := ?_) ?_ ?_
                  rotate_left
                  · show Act.put _ (some 45) _ = _
                    simp only [Act.put, List.setIfInBounds_toArray, List.set_cons_zero, List.set_cons_succ, i64_w, i32_w]
                    rfl
                  refine pure_ (i := 5) (N := some 48) (v := ?_) (a' := ?_) #[true, true, true, true, true, true] rfl rfl (by kernel_rfl) (fun _ _ _ h => h) (Or.inl ⟨by rfl, ?_⟩) ?_ ?_
                  rotate_left
                  · intro w'
                    go_simp
                    with_reducible rfl
                  rotate_left
                  · simp only [Act.put, List.setIfInBounds_toArray, List.set_cons_zero, List.set_cons_succ, i64_w, i32_w]
                    rfl
                  refine done_ (by kernel_rfl) ?_
                  have hcz120_0 : w116.cell? ⟨gb132, 0, none⟩ = some (.int .i64 0) := (blk_cell BK132.out 0).trans rfl
                  have hcz120_1 : w116.cell? ⟨gb132, 1, none⟩ = some (.int .i64 0) := (blk_cell BK132.out 1).trans rfl
                  have hcz120_2 : w116.cell? ⟨gb132, 2, none⟩ = some (.float .f64 0) := (blk_cell BK132.out 2).trans rfl
                  have hcz120_3 : w116.cell? ⟨gb132, 3, none⟩ = some (.slice none 0 0) := (blk_cell BK132.out 3).trans rfl
                  have hfz120_0 := blk_frozen BK132.out 0
                  have hfz120_1 := blk_frozen BK132.out 1
                  have hfz120_2 := blk_frozen BK132.out 2
                  have hfz120_3 := blk_frozen BK132.out 3
                  try go_wp2
                  refine bodyPost_ret (results_ct rfl _ _ gb132 25 #[.int .i64 0, .int .i64 0, .float .f64 0, .slice none 0 0] (0, 0) _ rfl (by (with_reducible repeat (first | refine blk_drewN ?_ _ | refine blk_drew ?_ | refine blk_alloc ?_ _)); refine blk_put (cs := #[.int .i64 0, .int .i64 0, .float .f64 0, .slice none 0 0]) ?_ 3 _ rfl; (with_reducible repeat (first | refine blk_drewN ?_ _ | refine blk_drew ?_ | refine blk_alloc ?_ _)); refine blk_put (cs := #[.int .i64 0, .int .i64 0, .float .f64 0, .slice none 0 0]) ?_ 2 _ rfl; (with_reducible repeat (first | refine blk_drewN ?_ _ | refine blk_drew ?_ | refine blk_alloc ?_ _)); refine blk_put (cs := #[.int .i64 0, .int .i64 0, .float .f64 0, .slice none 0 0]) ?_ 1 _ rfl; (with_reducible repeat (first | refine blk_drewN ?_ _ | refine blk_drew ?_ | refine blk_alloc ?_ _)); refine blk_put (cs := #[.int .i64 0, .int .i64 0, .float .f64 0, .slice none 0 0]) ?_ 0 _ rfl; (with_reducible repeat (first | refine blk_drewN ?_ _ | refine blk_drew ?_ | refine blk_alloc ?_ _)); exact BK132.out) Try.underlying25 rfl (by kernel_rfl)) rfl ?_
                  exact ⟨_, _, by first | rfl | (simp [errW_none, errW_some] <;> rfl) | (simp [*, errW_none, errW_some] <;> rfl), by first | exact Kd.R_nil _ _ _ _ _ | exact Kd.N_nil _ _ _ _ _ | exact Kd.V_nil _ _ _ _ _ | exact Kd.Q_nil _ _ _ _ _ | exact Kd.S_nil _ _ _ _ _, by repeat (first | (with_reducible first | exact HB.out | apply below_alloc | apply pw_below_drewN | apply below_drew1 | refine below_set ?_ GE132.out | refine below_set ?_ GE133.out) | exact HB.out), (by first | exact ⟨⟨by first | rfl | decide, by decide⟩⟩)⟩
        · rw [if_neg c10] at H
          exact absurd H (by simp)

end Go.Proofs.Ytjjkhlphdbmdfaa.PFnExactValueRead
