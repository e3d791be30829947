-- By this session's own program (wip/xprint.py), over the kit's print.
import Derived.Test.YtjjkhlphdbmdfaaPFnExactKeyReadx0
import Derived.Test.YtjjkhlphdbmdfaaPFnExactKeyReadx1
import Derived.Test.YtjjkhlphdbmdfaaPFnExactKeyReadx2
import Derived.Test.YtjjkhlphdbmdfaaPFnExactKeyReadx3
namespace Go.Proofs.Ytjjkhlphdbmdfaa.PFnExactKeyRead
open Go.RowKit Go.Proofs.YtjjkhlphdbmdfaaW.PrintWords Go.Proofs.YtjjkhlphdbmdfaaW.PrintLast Go.Proofs.YtjjkhlphdbmdfaaW.PrintMore
attribute [local go_sem] max2_int min2_int max_two min_two max_three min_three max_four min_four   -- for this text's walks alone
attribute [local go_sem high] fl_eql fl_neq fl_lss fl_leq fl_gtr fl_geq fl_add fl_sub fl_mul fl_quo fl_neg fl_ofInt fl_toInt fl_store sub_sign ext_bits ext_from fl_nan_quo fl_nan_add fl_nan_mul fl_nan_sub
open Go.Proofs.YtjjkhlphdbmdfaaW.PrintWords renaming below_alloc → h1, pw_below_drewN → h2, below_drew1 → h3, below_set → h4, blk_drewN → b1, blk_drew → b2, blk_alloc → b3
set_option linter.unusedVariables false
set_option linter.unusedSimpArgs false

/-! ### spec_KeyRead: function 17 -/
def spec_KeyRead.j0 : Nat → List Int → Bool → Int → Int → Nat → Option (Int × Int × Nat × List Int × Bool)
 | 0, _, _, _, _, _ => none
 | k + 1, x0, x12, x158000, x158001, x158002 => if x12 = true then (some (x158000, x158001, x158002, ([] : List Int), false)) else (if 0 < (x0.length : Int) then (if (wrap64 (rd x0 0)) = 1 then (if 1 ≤ (x0.length : Int) then ((spec_l3low.f k (x0.drop 1)).bind fun t160 => ((spec_KeyBytes.f k (wrap64 (rd x0 0)) (wrap64 (Go.bits .xor .u64 t160 9223372036854775808)) x158002 ([] : List Int)).bind fun t161 => (if (strOfNums t161).toList = (strOfNums x0).toList then (some (wrap64 (rd x0 0), wrap64 (Go.bits .xor .u64 t160 9223372036854775808), x158002, ([] : List Int), true)) else (some (0, 0, 0, ([] : List Int), false))))) else (none)) else (if (wrap64 (rd x0 0)) = 2 then (if 1 ≤ (x0.length : Int) then ((spec_l3low.f k (x0.drop 1)).bind fun t165 => ((spec_FloatUnrank.f k t165).bind fun bt166 => ((spec_KeyBytes.f k (wrap64 (rd x0 0)) x158001 bt166.1 ([] : List Int)).bind fun t168 => (if (strOfNums t168).toList = (strOfNums x0).toList then (some (wrap64 (rd x0 0), x158001, bt166.1, ([] : List Int), true)) else (some (0, 0, 0, ([] : List Int), false)))))) else (none)) else (if (wrap64 (rd x0 0)) = 3 then ((some (([] : List Int) : List Int)).bind fun y171 => (if 1 ≤ (x0.length : Int) then (if y171.length + (x0.drop 1).length < 140737488355328 then ((some (y171 ++ (x0.drop 1) : List Int)).bind fun y175 => ((spec_KeyBytes.f k (wrap64 (rd x0 0)) x158001 x158002 y175).bind fun t178 => (if (strOfNums t178).toList = (strOfNums x0).toList then (some (wrap64 (rd x0 0), x158001, x158002, y175, true)) else (some (0, 0, 0, ([] : List Int), false))))) else (none)) else (none))) else ((spec_KeyBytes.f k (wrap64 (rd x0 0)) x158001 x158002 ([] : List Int)).bind fun t181 => (if (strOfNums t181).toList = (strOfNums x0).toList then (some (wrap64 (rd x0 0), x158001, x158002, ([] : List Int), true)) else (some (0, 0, 0, ([] : List Int), false))))))) else (none))
def spec_KeyRead.f (k : Nat) (l0 : List Int) : Option (Int × Int × Nat × List Int × Bool) := if (l0.length : Int) < 1 then (spec_KeyRead.j0 k l0 true 0 0 0) else (spec_KeyRead.j0 k l0 (decide ((l0.length : Int) > 41)) 0 0 0)
theorem spec_KeyRead.mono_l : ∀ k, (∀ y0 y1 y2 y3 y4, LeO (spec_KeyRead.j0 k y0 y1 y2 y3 y4) (spec_KeyRead.j0 (k + 1) y0 y1 y2 y3 y4))
 | 0 => fun _ _ _ _ _ r h => by simp [spec_KeyRead.j0] at h
 | k + 1 => by
  have ih0 := spec_KeyRead.mono_l k
  ·intro y0 y1 y2 y3 y4
   unfold spec_KeyRead.j0
   repeat' with_reducible first | exact ih0 _ _ _ _ _ | exact spec_FloatUnrank.mono _ _ | exact spec_KeyBytes.mono _ _ _ _ _ | exact spec_l3low.mono _ _ | exact LeO.refl _ | exact LeO.none _ | refine LeO.ite ?_ ?_ | refine LeO.bind ?_ (fun _ => ?_)
theorem spec_KeyRead.mono : ∀ a0 k, LeO (spec_KeyRead.f k a0) (spec_KeyRead.f (k + 1) a0) := by
 intro a0 k
 have ih0 := spec_KeyRead.mono_l k
 unfold spec_KeyRead.f
 repeat' with_reducible first | exact ih0 _ _ _ _ _ | exact spec_FloatUnrank.mono _ _ | exact spec_KeyBytes.mono _ _ _ _ _ | exact spec_l3low.mono _ _ | exact LeO.refl _ | exact LeO.none _ | refine LeO.ite ?_ ?_ | refine LeO.bind ?_ (fun _ => ?_)
set_option maxHeartbeats 8000000 in
set_option maxRecDepth 100000 in
theorem spec_KeyRead.callsC (k : Nat) (A0 : Option Addr) (c0 : Nat) (l0 : List Int) (r1 : Int) (r2 : Int) (r3 : Nat) (r4 : List Int) (r5 : Bool) (w : World) (hr0 : Kd.C (Kd.int .u8) w A0 l0.length l0) (hc0 : l0.length ≤ c0) (h : spec_KeyRead.f k l0 = some (r1, r2, r3, r4, r5)) :
  Calls Try.prog 17 #[.slice A0 l0.length c0] w fun e w' => ∃ b1_ : Nat, ∃ v3_ : Value, e = .returned (.tuple #[.agg #[.int .i64 r1, .int .i64 r2, .float .f64 b1_, v3_], .bool r5]) ∧ Kd.R (Kd.int .u8) 5 w' w.heap.size (fun _ => True) v3_ r4 ∧ Below w.heap.size w w' ∧ Aside0 (cn b1_ = r3 ∧ b1_ < 2 ^ 64) := by
 have hu25 := Try.underlying25
 have HR0 := Aside0.mk hr0
 have HC0 := Aside0.mk hc0
 clear hr0 hc0
 have HB := Aside0.mk (Below.refl w.heap.size w)
 have H : (if (l0.length : Int) < 1 then (spec_KeyRead.j0 k l0 true 0 0 0) else (spec_KeyRead.j0 k l0 (decide ((l0.length : Int) > 41)) 0 0 0)) = some (r1, r2, r3, r4, r5) := h
 clear h
 have HC2 := Aside0.mk H
 clear H
 go_enter Try.func17, Try.ntmps17
 go_upto_region 2 with (first | ((with_reducible refine gate_dst (N := 2) rfl ?_); (try (refine gate_guard (by rfl) ?_; dsimp only)); refine box_event ?hg (N := 2) ?hd (cs := #[.int .i64 0, .int .i64 0, .float .f64 0, .slice none 0 0]) (t := 25) ?hr ?_; (case hd => rfl); (case hg => rfl); (case hr => first | (go_simp; done) | (go_simp; rfl)); intro gb156 hg w3 hbox hb; have n0_ := Aside0.mk (below_step (hup HB.out) hb); have n1_ := Aside0.mk (hbox); have n2_ := Aside0.mk ((by rw [hg]; exact (below_size (hup HB.out)) : w.heap.size ≤ gb156)); have n3_ := Aside0.mk ((by rw [hg]; exact (below_size (hup HB.out)) : w.heap.size ≤ gb156)); clear HB; have HB := n0_; have BK156 := n1_; have GW156 := n2_; have GE156 := n3_; clear n0_ n1_ n2_ n3_; clear hb hbox hg) | ((with_reducible refine gate_dst (N := 4) rfl ?_); (try (refine gate_guard (by rfl) ?_; dsimp only)); refine box_event ?hg (N := 4) ?hd (cs := #[.int .i64 0, .int .i64 0, .float .f64 0, .slice none 0 0]) (t := 25) ?hr ?_; (case hd => rfl); (case hg => rfl); (case hr => first | (go_simp; done) | (go_simp; rfl)); intro gb157 hg w4 hbox hb; have n0_ := Aside0.mk (blk_below (g := gb156) (o := .cells #[.int .i64 0, .int .i64 0, .float .f64 0, .slice none 0 0] 25 (0, 0)) (bup BK156.out) hb); have n1_ := Aside0.mk (below_step (by with_reducible repeat (first | exact HB.out | refine h4 ?_ GE156.out | apply h1 | apply h2 | apply h3)) hb); have n2_ := Aside0.mk (hbox); have n3_ := Aside0.mk ((by rw [hg]; exact (below_size (by with_reducible repeat (first | exact HB.out | refine h4 ?_ GE156.out | apply h1 | apply h2 | apply h3))) : w.heap.size ≤ gb157)); have n4_ := Aside0.mk ((by rw [hg]; exact (below_size (by with_reducible repeat (first | exact HB.out | refine h4 ?_ GE156.out | apply h1 | apply h2 | apply h3))) : w.heap.size ≤ gb157)); have n5_ := Aside0.mk ((by rw [hg]; exact Nat.ne_of_lt (blk_lt (g := gb156) (o := .cells #[.int .i64 0, .int .i64 0, .float .f64 0, .slice none 0 0] 25 (0, 0)) (bup BK156.out)) : gb156 ≠ gb157)); have n6_ := Aside0.mk ((by rw [hg]; exact Nat.ne_of_gt (blk_lt (g := gb156) (o := .cells #[.int .i64 0, .int .i64 0, .float .f64 0, .slice none 0 0] 25 (0, 0)) (bup BK156.out)) : gb157 ≠ gb156)); clear BK156; clear HB; have BK156 := n0_; have HB := n1_; have BK157 := n2_; have GW157 := n3_; have GE157 := n4_; have NB156_157 := n5_; have NB157_156 := n6_; clear n0_ n1_ n2_ n3_ n4_ n5_ n6_; clear hb hbox hg))
 (try simp only [Act.put, List.setIfInBounds_toArray, List.set_cons_zero, List.set_cons_succ])
 go_cut [12] (fun v12 wc => ∃ (kq : Nat) (x12_1 : Bool), v12 = .bool x12_1 ∧ Aside0 (spec_KeyRead.j0 kq l0 x12_1 0 0 0 = some (r1, r2, r3, r4, r5)) ∧ Aside0 (kq ≤ k) ∧ Aside0 (wc.heap[gb156]? = some (.cells #[.int .i64 0, .int .i64 0, .float .f64 0, (.slice none 0 0)] 25 (0, 0))) ∧ Aside0 (wc.heap[gb157]? = some (.cells #[.int .i64 0, .int .i64 0, .float .f64 0, (.slice none 0 0)] 25 (0, 0))) ∧ Aside0 (Below w.heap.size w wc))
 case first =>
  have H := HC2.out
  clear HC2
  by_cases c5 : (l0.length : Int) < 1
  ·rw [if_pos c5] at H
   have c5b0 : decide ((l0.length : Int) < 1) = true := decide_eq_true c5
   have c5b1 : decide (l0.length < 1) = true := decide_eq_true (by omega)
   clear c5
   (first | rw [c5b0] | (simp only [i64_w, i32_w]; rw [c5b0]) | skip)
   have H' := Aside0.mk H
   clear H
   go_wp2
   go_meet
   case rel => exact ⟨_, (true), (by first | rfl | (simp; done) | (simp [*]; done)), H', ⟨by first | omega | exact Nat.le_refl _⟩, ⟨by exact bup BK156.out⟩, ⟨by exact bup BK157.out⟩, ⟨by with_reducible repeat (first | exact HB.out | refine h4 ?_ GE156.out | refine h4 ?_ GE157.out | apply h1 | apply h2 | apply h3)⟩⟩
  ·rw [if_neg c5] at H
   have c5b0 : decide ((l0.length : Int) < 1) = false := decide_eq_false c5
   have c5b1 : decide (l0.length < 1) = false := decide_eq_false (by omega)
   clear c5
   (first | rw [c5b0] | (simp only [i64_w, i32_w]; rw [c5b0]) | skip)
   have H' := Aside0.mk H
   clear H
   go_wp2
   go_meet
   case rel => exact ⟨_, (decide ((l0.length : Int) > 41)), (by first | rfl | (simp; done) | (simp [*]; done)), H', ⟨by first | omega | exact Nat.le_refl _⟩, ⟨by exact bup BK156.out⟩, ⟨by exact bup BK157.out⟩, ⟨by with_reducible repeat (first | exact HB.out | refine h4 ?_ GE156.out | refine h4 ?_ GE157.out | apply h1 | apply h2 | apply h3)⟩⟩
 case rest =>
  clear HC2
  try clear c1
  try clear p2
  try clear c5
  try clear c5b0
  try clear c5b1
  obtain ⟨kq, x12_1, rfl, HA, HJ1, BK156, BK157, HB⟩ := hcut
  cases kq with
  | zero => exact absurd HA.out (by simp [spec_KeyRead.j0])
  | succ kj1 =>
   have H := HA.out
   clear HA
   simp only [spec_KeyRead.j0] at H
   by_cases c6 : x12_1 = true
   ·subst c6
    have H1 : (some (0, 0, 0, ([] : List Int), false)) = some (r1, r2, r3, r4, r5) := by rw [if_pos rfl] at H; exact H
    clear H
    have H := H1
    clear H1
    simp only [Option.some.injEq, Prod.mk.injEq] at H
    obtain ⟨rfl, rfl, rfl, rfl, rfl⟩ := H
    have hnb7 := NB157_156.out
    have hnc7 := NB156_157.out
    obtain ⟨hcz8_0, hcz8_1, hcz8_2, hcz8_3⟩ := blk_cells4 BK157.out
    obtain ⟨hfz8_0, hfz8_1, hfz8_2, hfz8_3⟩ := blk_frozens4 BK157.out
    obtain ⟨hcz9_0, hcz9_1, hcz9_2, hcz9_3⟩ := blk_cells4 BK156.out
    obtain ⟨hfz9_0, hfz9_1, hfz9_2, hfz9_3⟩ := blk_frozens4 BK156.out
    go_wp2
    refine bodyPost_ret (results_ct rfl _ _ gb156 25 #[.int .i64 0, .int .i64 0, .float .f64 0, .slice none 0 0] (0, 0) _ rfl (by (with_reducible repeat (first | refine b1 ?_ _ | refine b2 ?_ | refine b3 ?_ _)); refine blk_put (cs := #[.int .i64 0, .int .i64 0, .float .f64 0, .slice none 0 0]) ?_ 3 _ rfl; (with_reducible repeat (first | refine b1 ?_ _ | refine b2 ?_ | refine b3 ?_ _)); refine blk_put (cs := #[.int .i64 0, .int .i64 0, .float .f64 0, .slice none 0 0]) ?_ 2 _ rfl; (with_reducible repeat (first | refine b1 ?_ _ | refine b2 ?_ | refine b3 ?_ _)); refine blk_put (cs := #[.int .i64 0, .int .i64 0, .float .f64 0, .slice none 0 0]) ?_ 1 _ rfl; (with_reducible repeat (first | refine b1 ?_ _ | refine b2 ?_ | refine b3 ?_ _)); refine blk_put (cs := #[.int .i64 0, .int .i64 0, .float .f64 0, .slice none 0 0]) ?_ 0 _ rfl; exact bup BK156.out) Try.underlying25 rfl (by kernel_rfl)) rfl ?_
    exact ⟨_, _, by first | rfl | (simp [errW_none, errW_some] <;> rfl) | (simp [*, errW_none, errW_some] <;> rfl), by first | exact Kd.R_nil _ _ _ _ _ | exact Kd.N_nil _ _ _ _ _ | exact Kd.V_nil _ _ _ _ _ | exact Kd.Q_nil _ _ _ _ _ | exact Kd.S_nil _ _ _ _ _, by with_reducible repeat (first | exact HB.out | refine h4 ?_ GE156.out | refine h4 ?_ GE157.out | apply h1 | apply h2 | apply h3), (by first | exact ⟨⟨by first | rfl | decide, by decide⟩⟩)⟩
   ·replace c6 := Bool.eq_false_iff.mpr c6
    subst c6
    have H1 : (if 0 < (l0.length : Int) then (if (wrap64 (rd l0 0)) = 1 then (if 1 ≤ (l0.length : Int) then ((spec_l3low.f kj1 (l0.drop 1)).bind fun t160 => ((spec_KeyBytes.f kj1 (wrap64 (rd l0 0)) (wrap64 (Go.bits .xor .u64 t160 9223372036854775808)) 0 ([] : List Int)).bind fun t161 => (if (strOfNums t161).toList = (strOfNums l0).toList then (some (wrap64 (rd l0 0), wrap64 (Go.bits .xor .u64 t160 9223372036854775808), 0, ([] : List Int), true)) else (some (0, 0, 0, ([] : List Int), false))))) else (none)) else (if (wrap64 (rd l0 0)) = 2 then (if 1 ≤ (l0.length : Int) then ((spec_l3low.f kj1 (l0.drop 1)).bind fun t165 => ((spec_FloatUnrank.f kj1 t165).bind fun bt166 => ((spec_KeyBytes.f kj1 (wrap64 (rd l0 0)) 0 bt166.1 ([] : List Int)).bind fun t168 => (if (strOfNums t168).toList = (strOfNums l0).toList then (some (wrap64 (rd l0 0), 0, bt166.1, ([] : List Int), true)) else (some (0, 0, 0, ([] : List Int), false)))))) else (none)) else (if (wrap64 (rd l0 0)) = 3 then ((some (([] : List Int) : List Int)).bind fun y171 => (if 1 ≤ (l0.length : Int) then (if y171.length + (l0.drop 1).length < 140737488355328 then ((some (y171 ++ (l0.drop 1) : List Int)).bind fun y175 => ((spec_KeyBytes.f kj1 (wrap64 (rd l0 0)) 0 0 y175).bind fun t178 => (if (strOfNums t178).toList = (strOfNums l0).toList then (some (wrap64 (rd l0 0), 0, 0, y175, true)) else (some (0, 0, 0, ([] : List Int), false))))) else (none)) else (none))) else ((spec_KeyBytes.f kj1 (wrap64 (rd l0 0)) 0 0 ([] : List Int)).bind fun t181 => (if (strOfNums t181).toList = (strOfNums l0).toList then (some (wrap64 (rd l0 0), 0, 0, ([] : List Int), true)) else (some (0, 0, 0, ([] : List Int), false))))))) else (none)) = some (r1, r2, r3, r4, r5) := by rw [if_neg (show ¬ (false = true) by decide)] at H; exact H
    clear H
    have H := H1
    clear H1
    by_cases c10 : 0 < (l0.length : Int)
    ·rw [if_pos c10] at H
     have c10b0 : decide (0 < (l0.length : Int)) = true := decide_eq_true c10
     have c10b1 : decide (0 < l0.length) = true := decide_eq_true (by omega)
     clear c10
     by_cases c11 : (wrap64 (rd l0 0)) = 1
     ·rw [if_pos c11] at H
      have c11b0 : ((wrap64 (rd l0 0)) == 1) = true := beq_iff_eq.mpr c11
      have c11b1 : ((wrap64 (rd l0 0)) != 1) = false := bne_eq_false_iff_eq.mpr c11
      clear c11
      by_cases c12 : 1 ≤ (l0.length : Int)
      ·rw [if_pos c12] at H
       have c12b0 := eq_true c12
       have c12b1 : decide (1 ≤ (l0.length : Int)) = true := decide_eq_true c12
       clear c12
       replace H := Option.bind_eq_some_iff.mp H
       obtain ⟨t160, A130, H⟩ := H
       replace H : ((spec_KeyBytes.f kj1 (wrap64 (rd l0 0)) (wrap64 (Go.bits .xor .u64 t160 9223372036854775808)) 0 ([] : List Int)).bind fun t161 => (if (strOfNums t161).toList = (strOfNums l0).toList then (some (wrap64 (rd l0 0), wrap64 (Go.bits .xor .u64 t160 9223372036854775808), 0, ([] : List Int), true)) else (some (0, 0, 0, ([] : List Int), false)))) = some (r1, r2, r3, r4, r5) := H
       have A13 := Aside0.mk A130
       clear A130
       replace H := Option.bind_eq_some_iff.mp H
       obtain ⟨t161, A140, H⟩ := H
       replace H : (if (strOfNums t161).toList = (strOfNums l0).toList then (some (wrap64 (rd l0 0), wrap64 (Go.bits .xor .u64 t160 9223372036854775808), 0, ([] : List Int), true)) else (some (0, 0, 0, ([] : List Int), false))) = some (r1, r2, r3, r4, r5) := H
       have A14 := Aside0.mk A140
       clear A140
       by_cases c15 : (strOfNums t161).toList = (strOfNums l0).toList
       ·rw [if_pos c15] at H
        have c15b0 : ((strOfNums t161).toList == (strOfNums l0).toList) = true := beq_iff_eq.mpr c15
        have c15b1 : ((strOfNums t161).toList != (strOfNums l0).toList) = false := bne_eq_false_iff_eq.mpr c15
        clear c15
        simp only [Option.some.injEq, Prod.mk.injEq] at H
        obtain ⟨rfl, rfl, rfl, rfl, rfl⟩ := H
        have p158 : 0 ≤ (0 : Int) := (by omega)
        have q158 : 0 < (l0.length : Int) := of_decide_eq_true (by first | (with_reducible assumption) | assumption)
        obtain ⟨ad158, e158, hx158_0⟩ := Kd.at_int HR0.out 0 p158 q158
        cases e158
        have qi158 : (0 < l0.length) = True := eq_true (by omega)
        (try rw [show ((0 : Int)).toNat = 0 from rfl] at hx158_0)
        (try rw [Addr.add_zero'] at hx158_0)
        replace hx158_0 := (HB.out.cell (World.block_lt_of_cell? w _ hx158_0)).trans hx158_0
        replace p158 := eq_true p158
        replace q158 := eq_true q158
        have hnb16 := NB157_156.out
        have hnc16 := NB156_157.out
        obtain ⟨hcz17_0, hcz17_1, hcz17_2, hcz17_3⟩ := blk_cells4 BK157.out
        obtain ⟨hfz17_0, hfz17_1, hfz17_2, hfz17_3⟩ := blk_frozens4 BK157.out
        obtain ⟨i018, hi018, _, hsz18, _⟩ := info_parts info5
        obtain ⟨A18, hcut18, hA18, hC18⟩ := print_drop_of (P := Try.prog) (Value.int .u8) 0 22 5 .i64 Try.underlying22 hi018 hsz18 (some ad158) c0 l0 1 (by omega) (of_decide_eq_true (by first | (with_reducible assumption) | assumption)) HC0.out
        have HR159 := Aside0.mk (Kd.C_of_reads (h1 := fun _ => rfl) (hA18 _ (Kd.reads_of_C HR0.out)))
        have HC159 := Aside0.mk hC18
        clear hA18 hC18 hi018 hsz18
        try go_wp2_with (first | ((with_reducible refine gate_callee (f := 45) rfl ?_); refine goesL_ (some 25) rfl rfl Try.func45 (by kernel_rfl) rfl #[.slice A18 (l0.drop 1).length (c0 - 1)] rfl (by (try simp only [List.map_toArray, List.map_cons, List.map_nil]); first | done | (rw [show (l0.drop 1).length = (l0.length - 1) from List.length_drop] <;> rfl) | rfl | (simp only [List.length_drop, List.length_take]; rfl)) ?_; (with_reducible refine (spec_l3low.calls kj1 _ _ (l0.drop 1) t160 _ ?side1 ?side2 A13.out).mono ?_); (case side1 => exact Kd.C_below HR159.out (by with_reducible repeat (first | exact HB.out | refine h4 ?_ GE156.out | refine h4 ?_ GE157.out | apply h1 | apply h2 | apply h3))); (case side2 => exact HC159.out); rintro e w' ⟨rfl, ⟨nd, rfl⟩⟩; refine ⟨_, rfl, ?_⟩))
        (try rw [setCell_drewN])
        have n0_ : Aside0 (((wc.setCell ⟨gb157, 0, none⟩ (.int .i64 (wrap64 (rd l0 0)))).setCell ⟨gb157, 1, none⟩ (.int .i64 (wrap64 (Go.bits .xor .u64 t160 9223372036854775808)))).heap[gb156]? = some (.cells #[.int .i64 0, .int .i64 0, .float .f64 0, .slice none 0 0] 25 (0, 0))) := ⟨by (with_reducible repeat (first | refine b1 ?_ _ | refine b2 ?_ | refine b3 ?_ _)); refine blk_far ?_ NB156_157.out _; (with_reducible repeat (first | refine b1 ?_ _ | refine b2 ?_ | refine b3 ?_ _)); refine blk_far ?_ NB156_157.out _; exact bup BK156.out⟩
        have n1_ : Aside0 (((wc.setCell ⟨gb157, 0, none⟩ (.int .i64 (wrap64 (rd l0 0)))).setCell ⟨gb157, 1, none⟩ (.int .i64 (wrap64 (Go.bits .xor .u64 t160 9223372036854775808)))).heap[gb157]? = some (.cells #[.int .i64 (wrap64 (rd l0 0)), .int .i64 (wrap64 (Go.bits .xor .u64 t160 9223372036854775808)), .float .f64 0, .slice none 0 0] 25 (0, 0))) := ⟨by (with_reducible repeat (first | refine b1 ?_ _ | refine b2 ?_ | refine b3 ?_ _)); refine blk_put (cs := #[.int .i64 (wrap64 (rd l0 0)), .int .i64 0, .float .f64 0, .slice none 0 0]) ?_ 1 _ rfl; (with_reducible repeat (first | refine b1 ?_ _ | refine b2 ?_ | refine b3 ?_ _)); refine blk_put (cs := #[.int .i64 0, .int .i64 0, .float .f64 0, .slice none 0 0]) ?_ 0 _ rfl; exact bup BK157.out⟩
        have n2_ : Aside0 (Below w.heap.size w ((wc.setCell ⟨gb157, 0, none⟩ (.int .i64 (wrap64 (rd l0 0)))).setCell ⟨gb157, 1, none⟩ (.int .i64 (wrap64 (Go.bits .xor .u64 t160 9223372036854775808))))) := ⟨by with_reducible repeat (first | exact HB.out | refine h4 ?_ GE156.out | refine h4 ?_ GE157.out | apply h1 | apply h2 | apply h3)⟩
        (try clear BK156)
        (try clear BK157)
        (try clear HB)
        generalize ((wc.setCell ⟨gb157, 0, none⟩ (.int .i64 (wrap64 (rd l0 0)))).setCell ⟨gb157, 1, none⟩ (.int .i64 (wrap64 (Go.bits .xor .u64 t160 9223372036854775808)))) = w19 at n0_ n1_ n2_ ⊢
        have BK156 := n0_
        have BK157 := n1_
        have HB := n2_
        clear n0_ n1_ n2_
        (try (rw [drewN_self w19]; generalize hq_ : World.drewN w19 _ = w19; have n0_ : Aside0 (w19.heap[gb156]? = some (.cells #[.int .i64 0, .int .i64 0, .float .f64 0, .slice none 0 0] 25 (0, 0))) := ⟨by rw [← hq_]; exact (bup BK156.out)⟩; have n1_ : Aside0 (w19.heap[gb157]? = some (.cells #[.int .i64 (wrap64 (rd l0 0)), .int .i64 (wrap64 (Go.bits .xor .u64 t160 9223372036854775808)), .float .f64 0, .slice none 0 0] 25 (0, 0))) := ⟨by rw [← hq_]; exact (bup BK157.out)⟩; have n2_ : Aside0 (Below w.heap.size w w19) := ⟨by rw [← hq_]; exact (by with_reducible repeat (first | exact HB.out | refine h4 ?_ GE156.out | refine h4 ?_ GE157.out | apply h1 | apply h2 | apply h3))⟩; clear BK156 BK157 HB hq_; have BK156 := n0_; have BK157 := n1_; have HB := n2_; clear n0_ n1_ n2_))
        have n0_ := Aside0.mk (blk_drew BK156.out)
        have n1_ := Aside0.mk (blk_drew BK157.out)
        have n2_ := Aside0.mk (below_drew1 HB.out)
        clear BK156
        clear BK157
        clear HB
        have BK156 := n0_
        have BK157 := n1_
        have HB := n2_
        clear n0_ n1_ n2_
        refine start_ (n := 6) (S := fun w' => w'.cell? ⟨gb157, 0, none⟩ = some (.int .i64 (wrap64 (rd l0 0))) ∧ w'.cell? ⟨gb157, 1, none⟩ = some (.int .i64 (wrap64 (Go.bits .xor .u64 t160 9223372036854775808))) ∧ w'.cell? ⟨gb157, 2, none⟩ = some (.float .f64 0) ∧ w'.cell? ⟨gb157, 3, none⟩ = some (.slice none 0 0) ∧ Kd.C (Kd.int .u8) w' (some ad158) l0.length l0) (ds := []) #[false, false, false, false, false, false] (by kernel_rfl) rfl rfl ⟨(blk_cell BK157.out 0).trans rfl, (blk_cell BK157.out 1).trans rfl, (blk_cell BK157.out 2).trans rfl, (blk_cell BK157.out 3).trans rfl, (Kd.C_below HR0.out HB.out)⟩ (fun hHeld => ?_)
        generalize w19.drew = w20 at BK156 BK157 HB hHeld ⊢
        refine pure_ (i := 3) (N := some 49) (v := ?_) (a' := ?_) #[false, false, false, true, false, false] rfl rfl (by kernel_rfl) (fun _ _ _ h => h) (Or.inl ⟨by rfl, ?_⟩) ?_ ?_
        rotate_left
        ·intro w'
         go_simp
         with_reducible rfl
        rotate_left
        ·simp only [Act.put, List.setIfInBounds_toArray, List.set_cons_zero, List.set_cons_succ, i64_w, i32_w]
         rfl
        refine take_ (i := 4) (N := some 50) (v := ?_) (a' := ?_) #[false, false, false, true, true, false] rfl rfl (by kernel_rfl) (fun _ _ _ h => h) (Or.inl ⟨by rfl, ?_⟩) hHeld ?_ ?_
        rotate_left
        ·rintro w' ⟨s0, s1, s2, s3, sC⟩
         have hcv_ := Kd.C_string (P := Try.prog) (A := (some ad158)) (c := c0) Try.underlying22 Try.underlying5 Try.underlying9 sC
         go_simp
         with_reducible rfl
        rotate_left
        ·simp only [Act.put, List.setIfInBounds_toArray, List.set_cons_zero, List.set_cons_succ, i64_w, i32_w]
         rfl
        refine take_ (i := 0) (N := some 46) (v := ?_) (a' := ?_) #[true, false, false, true, true, false] rfl rfl (by kernel_rfl) (fun _ _ _ h => h) (Or.inl ⟨by rfl, ?_⟩) hHeld ?_ ?_
        rotate_left
        ·rintro w' ⟨s0, s1, s2, s3, sC⟩
         go_simp
         with_reducible rfl
        rotate_left
        ·simp only [Act.put, List.setIfInBounds_toArray, List.set_cons_zero, List.set_cons_succ, i64_w, i32_w]
         rfl
        refine one_ (i := 1) (N := some 47) #[true, true, false, true, true, false] rfl rfl (by kernel_rfl) (by decide) (fun K hK => ?_)
        refine goes_ Try.func54 (by kernel_rfl) rfl #[.agg #[.int .i64 (wrap64 (rd l0 0)), .int .i64 (wrap64 (Go.bits .xor .u64 t160 9223372036854775808)), .float .f64 0, .slice none 0 0]] (by rfl) rfl rfl (by (try simp only [List.map_toArray, List.map_cons, List.map_nil]); first | done | rfl) ?_
        refine (spec_KeyBytes.calls kj1 (wrap64 (rd l0 0)) (wrap64 (Go.bits .xor .u64 t160 9223372036854775808)) 0 _ _ ([] : List Int) t161 _ ?side1 ?side2 A14.out).mono ?_
        (case side1 => exact Kd.C_nil _ _)
        (case side2 => exact Nat.le_refl _)
        rintro e w21 ⟨v162, rfl, ho0, hb⟩
        refine ⟨_, rfl, ?_⟩
        have n0_ := Aside0.mk (Kd.R_lower ho0 (below_size (by with_reducible repeat (first | exact HB.out | refine h4 ?_ GE156.out | refine h4 ?_ GE157.out | apply h1 | apply h2 | apply h3))))
        have n1_ := Aside0.mk (blk_below (g := gb156) (o := .cells #[.int .i64 0, .int .i64 0, .float .f64 0, .slice none 0 0] 25 (0, 0)) (bup BK156.out) hb)
        have n2_ := Aside0.mk (blk_below (g := gb157) (o := .cells #[.int .i64 (wrap64 (rd l0 0)), .int .i64 (wrap64 (Go.bits .xor .u64 t160 9223372036854775808)), .float .f64 0, .slice none 0 0] 25 (0, 0)) (bup BK157.out) hb)
        have n3_ := Aside0.mk (below_step (by with_reducible repeat (first | exact HB.out | refine h4 ?_ GE156.out | refine h4 ?_ GE157.out | apply h1 | apply h2 | apply h3)) hb)
        clear BK156
        clear BK157
        clear HB
        have HO163 := n0_
        have BK156 := n1_
        have BK157 := n2_
        have HB := n3_
        clear n0_ n1_ n2_ n3_
        (try clear hb)
        (try clear hb2)
        (try clear hk)
        (try clear hi)
        (try clear ho0)
        have hcv23 := Kd.C_string (P := Try.prog) (A := (some ad158)) (c := c0) Try.underlying22 Try.underlying5 Try.underlying9 (Kd.C_below HR0.out HB.out)
        refine hK.out _ _ ⟨(blk_cell BK157.out 0).trans rfl, (blk_cell BK157.out 1).trans rfl, (blk_cell BK157.out 2).trans rfl, (blk_cell BK157.out 3).trans rfl, (Kd.C_below HR0.out HB.out)⟩ (fun hHeld => ?_)
        clear hK K
        refine norm_ (a' := ?_) ?_ ?_
        rotate_left
        ·show Act.put _ (some 47) _ = _
         simp only [Act.put, List.setIfInBounds_toArray, List.set_cons_zero, List.set_cons_succ, i64_w, i32_w]
         rfl
        refine one_ (i := 2) (N := some 48) #[true, true, true, true, true, false] rfl rfl (by kernel_rfl) (by decide) (fun K hK => ?_)
        have hcv22 := own_string (P := Try.prog) Try.underlying22 Try.underlying5 Try.underlying9 (Kd.own_of_R HO163.out)
        refine value_ (w1 := ?_) (v := ?_) (by rfl) rfl ?_ ?_
        rotate_left 2
        ·go_simp
         constructor
         ·rfl
         ·rfl
        clear hcv22
        refine hK.out _ _ ⟨(blk_cell BK157.out 0).trans rfl, (blk_cell BK157.out 1).trans rfl, (blk_cell BK157.out 2).trans rfl, (blk_cell BK157.out 3).trans rfl, (Kd.C_below HR0.out HB.out)⟩ (fun hHeld => ?_)
        clear hK K
        refine norm_ (a' := ?_) ?_ ?_
        rotate_left
        ·show Act.put _ (some 48) _ = _
         simp only [Act.put, List.setIfInBounds_toArray, List.set_cons_zero, List.set_cons_succ, i64_w, i32_w]
         rfl
        refine pure_ (i := 5) (N := some 51) (v := ?_) (a' := ?_) #[true, true, true, true, true, true] rfl rfl (by kernel_rfl) (fun _ _ _ h => h) (Or.inl ⟨by rfl, ?_⟩) ?_ ?_
        rotate_left
        ·intro w'
         go_simp
         with_reducible rfl
        rotate_left
        ·simp only [Act.put, List.setIfInBounds_toArray, List.set_cons_zero, List.set_cons_succ, i64_w, i32_w]
         rfl
        refine done_ (by kernel_rfl) ?_
        obtain ⟨hcz25_0, hcz25_1, hcz25_2, hcz25_3⟩ := blk_cells4 BK157.out
        obtain ⟨hfz25_0, hfz25_1, hfz25_2, hfz25_3⟩ := blk_frozens4 BK157.out
        obtain ⟨hcz26_0, hcz26_1, hcz26_2, hcz26_3⟩ := blk_cells4 BK156.out
        obtain ⟨hfz26_0, hfz26_1, hfz26_2, hfz26_3⟩ := blk_frozens4 BK156.out
        try go_wp2
        refine bodyPost_ret (results_ct rfl _ _ gb156 25 #[.int .i64 (wrap64 (rd l0 0)), .int .i64 (wrap64 (Go.bits .xor .u64 t160 9223372036854775808)), .float .f64 0, .slice none 0 0] (0, 0) _ rfl (by (with_reducible repeat (first | refine b1 ?_ _ | refine b2 ?_ | refine b3 ?_ _)); refine blk_put (cs := #[.int .i64 (wrap64 (rd l0 0)), .int .i64 (wrap64 (Go.bits .xor .u64 t160 9223372036854775808)), .float .f64 0, .slice none 0 0]) ?_ 3 _ rfl; (with_reducible repeat (first | refine b1 ?_ _ | refine b2 ?_ | refine b3 ?_ _)); refine blk_put (cs := #[.int .i64 (wrap64 (rd l0 0)), .int .i64 (wrap64 (Go.bits .xor .u64 t160 9223372036854775808)), .float .f64 0, .slice none 0 0]) ?_ 2 _ rfl; (with_reducible repeat (first | refine b1 ?_ _ | refine b2 ?_ | refine b3 ?_ _)); refine blk_put (cs := #[.int .i64 (wrap64 (rd l0 0)), .int .i64 0, .float .f64 0, .slice none 0 0]) ?_ 1 _ rfl; (with_reducible repeat (first | refine b1 ?_ _ | refine b2 ?_ | refine b3 ?_ _)); refine blk_put (cs := #[.int .i64 0, .int .i64 0, .float .f64 0, .slice none 0 0]) ?_ 0 _ rfl; exact bup BK156.out) Try.underlying25 rfl (by kernel_rfl)) rfl ?_
        exact ⟨_, _, by first | rfl | (simp [errW_none, errW_some] <;> rfl) | (simp [*, errW_none, errW_some] <;> rfl), by first | exact Kd.R_nil _ _ _ _ _ | exact Kd.N_nil _ _ _ _ _ | exact Kd.V_nil _ _ _ _ _ | exact Kd.Q_nil _ _ _ _ _ | exact Kd.S_nil _ _ _ _ _, by with_reducible repeat (first | exact HB.out | refine h4 ?_ GE156.out | refine h4 ?_ GE157.out | apply h1 | apply h2 | apply h3), (by first | exact ⟨⟨by first | rfl | decide, by decide⟩⟩)⟩
       ·rw [if_neg c15] at H
        have c15b0 : ((strOfNums t161).toList == (strOfNums l0).toList) = false := beq_eq_false_iff_ne.mpr c15
        have c15b1 : ((strOfNums t161).toList != (strOfNums l0).toList) = true := bne_iff_ne.mpr c15
        simp only [Option.some.injEq, Prod.mk.injEq] at H
        obtain ⟨rfl, rfl, rfl, rfl, rfl⟩ := H
        have p158 : 0 ≤ (0 : Int) := (by omega)
        have q158 : 0 < (l0.length : Int) := of_decide_eq_true (by first | (with_reducible assumption) | assumption)
        obtain ⟨ad158, e158, hx158_0⟩ := Kd.at_int HR0.out 0 p158 q158
        cases e158
        have qi158 : (0 < l0.length) = True := eq_true (by omega)
        (try rw [show ((0 : Int)).toNat = 0 from rfl] at hx158_0)
        (try rw [Addr.add_zero'] at hx158_0)
        replace hx158_0 := (HB.out.cell (World.block_lt_of_cell? w _ hx158_0)).trans hx158_0
        replace p158 := eq_true p158
        replace q158 := eq_true q158
        have hnb27 := NB157_156.out
        have hnc27 := NB156_157.out
        obtain ⟨hcz28_0, hcz28_1, hcz28_2, hcz28_3⟩ := blk_cells4 BK157.out
        obtain ⟨hfz28_0, hfz28_1, hfz28_2, hfz28_3⟩ := blk_frozens4 BK157.out
        obtain ⟨i029, hi029, _, hsz29, _⟩ := info_parts info5
        obtain ⟨A29, hcut29, hA29, hC29⟩ := print_drop_of (P := Try.prog) (Value.int .u8) 0 22 5 .i64 Try.underlying22 hi029 hsz29 (some ad158) c0 l0 1 (by omega) (of_decide_eq_true (by first | (with_reducible assumption) | assumption)) HC0.out
        have HR159 := Aside0.mk (Kd.C_of_reads (h1 := fun _ => rfl) (hA29 _ (Kd.reads_of_C HR0.out)))
        have HC159 := Aside0.mk hC29
        clear hA29 hC29 hi029 hsz29
        try go_wp2_with (first | ((with_reducible refine gate_callee (f := 45) rfl ?_); refine goesL_ (some 25) rfl rfl Try.func45 (by kernel_rfl) rfl #[.slice A29 (l0.drop 1).length (c0 - 1)] rfl (by (try simp only [List.map_toArray, List.map_cons, List.map_nil]); first | done | (rw [show (l0.drop 1).length = (l0.length - 1) from List.length_drop] <;> rfl) | rfl | (simp only [List.length_drop, List.length_take]; rfl)) ?_; (with_reducible refine (spec_l3low.calls kj1 _ _ (l0.drop 1) t160 _ ?side1 ?side2 A13.out).mono ?_); (case side1 => exact Kd.C_below HR159.out (by with_reducible repeat (first | exact HB.out | refine h4 ?_ GE156.out | refine h4 ?_ GE157.out | apply h1 | apply h2 | apply h3))); (case side2 => exact HC159.out); rintro e w' ⟨rfl, ⟨nd, rfl⟩⟩; refine ⟨_, rfl, ?_⟩))
        (try rw [setCell_drewN])
        have n0_ : Aside0 (((wc.setCell ⟨gb157, 0, none⟩ (.int .i64 (wrap64 (rd l0 0)))).setCell ⟨gb157, 1, none⟩ (.int .i64 (wrap64 (Go.bits .xor .u64 t160 9223372036854775808)))).heap[gb156]? = some (.cells #[.int .i64 0, .int .i64 0, .float .f64 0, .slice none 0 0] 25 (0, 0))) := ⟨by (with_reducible repeat (first | refine b1 ?_ _ | refine b2 ?_ | refine b3 ?_ _)); refine blk_far ?_ NB156_157.out _; (with_reducible repeat (first | refine b1 ?_ _ | refine b2 ?_ | refine b3 ?_ _)); refine blk_far ?_ NB156_157.out _; exact bup BK156.out⟩
        have n1_ : Aside0 (((wc.setCell ⟨gb157, 0, none⟩ (.int .i64 (wrap64 (rd l0 0)))).setCell ⟨gb157, 1, none⟩ (.int .i64 (wrap64 (Go.bits .xor .u64 t160 9223372036854775808)))).heap[gb157]? = some (.cells #[.int .i64 (wrap64 (rd l0 0)), .int .i64 (wrap64 (Go.bits .xor .u64 t160 9223372036854775808)), .float .f64 0, .slice none 0 0] 25 (0, 0))) := ⟨by (with_reducible repeat (first | refine b1 ?_ _ | refine b2 ?_ | refine b3 ?_ _)); refine blk_put (cs := #[.int .i64 (wrap64 (rd l0 0)), .int .i64 0, .float .f64 0, .slice none 0 0]) ?_ 1 _ rfl; (with_reducible repeat (first | refine b1 ?_ _ | refine b2 ?_ | refine b3 ?_ _)); refine blk_put (cs := #[.int .i64 0, .int .i64 0, .float .f64 0, .slice none 0 0]) ?_ 0 _ rfl; exact bup BK157.out⟩
        have n2_ : Aside0 (Below w.heap.size w ((wc.setCell ⟨gb157, 0, none⟩ (.int .i64 (wrap64 (rd l0 0)))).setCell ⟨gb157, 1, none⟩ (.int .i64 (wrap64 (Go.bits .xor .u64 t160 9223372036854775808))))) := ⟨by with_reducible repeat (first | exact HB.out | refine h4 ?_ GE156.out | refine h4 ?_ GE157.out | apply h1 | apply h2 | apply h3)⟩
        (try clear BK156)
        (try clear BK157)
        (try clear HB)
        generalize ((wc.setCell ⟨gb157, 0, none⟩ (.int .i64 (wrap64 (rd l0 0)))).setCell ⟨gb157, 1, none⟩ (.int .i64 (wrap64 (Go.bits .xor .u64 t160 9223372036854775808)))) = w30 at n0_ n1_ n2_ ⊢
        have BK156 := n0_
        have BK157 := n1_
        have HB := n2_
        clear n0_ n1_ n2_
        (try (rw [drewN_self w30]; generalize hq_ : World.drewN w30 _ = w30; have n0_ : Aside0 (w30.heap[gb156]? = some (.cells #[.int .i64 0, .int .i64 0, .float .f64 0, .slice none 0 0] 25 (0, 0))) := ⟨by rw [← hq_]; exact (bup BK156.out)⟩; have n1_ : Aside0 (w30.heap[gb157]? = some (.cells #[.int .i64 (wrap64 (rd l0 0)), .int .i64 (wrap64 (Go.bits .xor .u64 t160 9223372036854775808)), .float .f64 0, .slice none 0 0] 25 (0, 0))) := ⟨by rw [← hq_]; exact (bup BK157.out)⟩; have n2_ : Aside0 (Below w.heap.size w w30) := ⟨by rw [← hq_]; exact (by with_reducible repeat (first | exact HB.out | refine h4 ?_ GE156.out | refine h4 ?_ GE157.out | apply h1 | apply h2 | apply h3))⟩; clear BK156 BK157 HB hq_; have BK156 := n0_; have BK157 := n1_; have HB := n2_; clear n0_ n1_ n2_))
        have n0_ := Aside0.mk (blk_drew BK156.out)
        have n1_ := Aside0.mk (blk_drew BK157.out)
        have n2_ := Aside0.mk (below_drew1 HB.out)
        clear BK156
        clear BK157
        clear HB
        have BK156 := n0_
        have BK157 := n1_
        have HB := n2_
        clear n0_ n1_ n2_
        refine start_ (n := 6) (S := fun w' => w'.cell? ⟨gb157, 0, none⟩ = some (.int .i64 (wrap64 (rd l0 0))) ∧ w'.cell? ⟨gb157, 1, none⟩ = some (.int .i64 (wrap64 (Go.bits .xor .u64 t160 9223372036854775808))) ∧ w'.cell? ⟨gb157, 2, none⟩ = some (.float .f64 0) ∧ w'.cell? ⟨gb157, 3, none⟩ = some (.slice none 0 0) ∧ Kd.C (Kd.int .u8) w' (some ad158) l0.length l0) (ds := []) #[false, false, false, false, false, false] (by kernel_rfl) rfl rfl ⟨(blk_cell BK157.out 0).trans rfl, (blk_cell BK157.out 1).trans rfl, (blk_cell BK157.out 2).trans rfl, (blk_cell BK157.out 3).trans rfl, (Kd.C_below HR0.out HB.out)⟩ (fun hHeld => ?_)
        generalize w30.drew = w31 at BK156 BK157 HB hHeld ⊢
        refine pure_ (i := 3) (N := some 49) (v := ?_) (a' := ?_) #[false, false, false, true, false, false] rfl rfl (by kernel_rfl) (fun _ _ _ h => h) (Or.inl ⟨by rfl, ?_⟩) ?_ ?_
        rotate_left
        ·intro w'
         go_simp
         with_reducible rfl
        rotate_left
        ·simp only [Act.put, List.setIfInBounds_toArray, List.set_cons_zero, List.set_cons_succ, i64_w, i32_w]
         rfl
        refine take_ (i := 4) (N := some 50) (v := ?_) (a' := ?_) #[false, false, false, true, true, false] rfl rfl (by kernel_rfl) (fun _ _ _ h => h) (Or.inl ⟨by rfl, ?_⟩) hHeld ?_ ?_
        rotate_left
        ·rintro w' ⟨s0, s1, s2, s3, sC⟩
         have hcv_ := Kd.C_string (P := Try.prog) (A := (some ad158)) (c := c0) Try.underlying22 Try.underlying5 Try.underlying9 sC
         go_simp
         with_reducible rfl
        rotate_left
        ·simp only [Act.put, List.setIfInBounds_toArray, List.set_cons_zero, List.set_cons_succ, i64_w, i32_w]
         rfl
        refine take_ (i := 0) (N := some 46) (v := ?_) (a' := ?_) #[true, false, false, true, true, false] rfl rfl (by kernel_rfl) (fun _ _ _ h => h) (Or.inl ⟨by rfl, ?_⟩) hHeld ?_ ?_
        rotate_left
        ·rintro w' ⟨s0, s1, s2, s3, sC⟩
         go_simp
         with_reducible rfl
        rotate_left
        ·simp only [Act.put, List.setIfInBounds_toArray, List.set_cons_zero, List.set_cons_succ, i64_w, i32_w]
         rfl
        refine one_ (i := 1) (N := some 47) #[true, true, false, true, true, false] rfl rfl (by kernel_rfl) (by decide) (fun K hK => ?_)
        refine goes_ Try.func54 (by kernel_rfl) rfl #[.agg #[.int .i64 (wrap64 (rd l0 0)), .int .i64 (wrap64 (Go.bits .xor .u64 t160 9223372036854775808)), .float .f64 0, .slice none 0 0]] (by rfl) rfl rfl (by (try simp only [List.map_toArray, List.map_cons, List.map_nil]); first | done | rfl) ?_
        refine (spec_KeyBytes.calls kj1 (wrap64 (rd l0 0)) (wrap64 (Go.bits .xor .u64 t160 9223372036854775808)) 0 _ _ ([] : List Int) t161 _ ?side1 ?side2 A14.out).mono ?_
        (case side1 => exact Kd.C_nil _ _)
        (case side2 => exact Nat.le_refl _)
        rintro e w32 ⟨v162, rfl, ho0, hb⟩
        refine ⟨_, rfl, ?_⟩
        have n0_ := Aside0.mk (Kd.R_lower ho0 (below_size (by with_reducible repeat (first | exact HB.out | refine h4 ?_ GE156.out | refine h4 ?_ GE157.out | apply h1 | apply h2 | apply h3))))
        have n1_ := Aside0.mk (blk_below (g := gb156) (o := .cells #[.int .i64 0, .int .i64 0, .float .f64 0, .slice none 0 0] 25 (0, 0)) (bup BK156.out) hb)
        have n2_ := Aside0.mk (blk_below (g := gb157) (o := .cells #[.int .i64 (wrap64 (rd l0 0)), .int .i64 (wrap64 (Go.bits .xor .u64 t160 9223372036854775808)), .float .f64 0, .slice none 0 0] 25 (0, 0)) (bup BK157.out) hb)
        have n3_ := Aside0.mk (below_step (by with_reducible repeat (first | exact HB.out | refine h4 ?_ GE156.out | refine h4 ?_ GE157.out | apply h1 | apply h2 | apply h3)) hb)
        clear BK156
        clear BK157
        clear HB
        have HO163 := n0_
        have BK156 := n1_
        have BK157 := n2_
        have HB := n3_
        clear n0_ n1_ n2_ n3_
        (try clear hb)
        (try clear hb2)
        (try clear hk)
        (try clear hi)
        (try clear ho0)
        have hcv34 := Kd.C_string (P := Try.prog) (A := (some ad158)) (c := c0) Try.underlying22 Try.underlying5 Try.underlying9 (Kd.C_below HR0.out HB.out)
        refine hK.out _ _ ⟨(blk_cell BK157.out 0).trans rfl, (blk_cell BK157.out 1).trans rfl, (blk_cell BK157.out 2).trans rfl, (blk_cell BK157.out 3).trans rfl, (Kd.C_below HR0.out HB.out)⟩ (fun hHeld => ?_)
        clear hK K
        refine norm_ (a' := ?_) ?_ ?_
        rotate_left
        ·show Act.put _ (some 47) _ = _
         simp only [Act.put, List.setIfInBounds_toArray, List.set_cons_zero, List.set_cons_succ, i64_w, i32_w]
         rfl
        refine one_ (i := 2) (N := some 48) #[true, true, true, true, true, false] rfl rfl (by kernel_rfl) (by decide) (fun K hK => ?_)
        have hcv33 := own_string (P := Try.prog) Try.underlying22 Try.underlying5 Try.underlying9 (Kd.own_of_R HO163.out)
        refine value_ (w1 := ?_) (v := ?_) (by rfl) rfl ?_ ?_
        rotate_left 2
        ·go_simp
         constructor
         ·rfl
         ·rfl
        clear hcv33
        refine hK.out _ _ ⟨(blk_cell BK157.out 0).trans rfl, (blk_cell BK157.out 1).trans rfl, (blk_cell BK157.out 2).trans rfl, (blk_cell BK157.out 3).trans rfl, (Kd.C_below HR0.out HB.out)⟩ (fun hHeld => ?_)
        clear hK K
        refine norm_ (a' := ?_) ?_ ?_
        rotate_left
        ·show Act.put _ (some 48) _ = _
         simp only [Act.put, List.setIfInBounds_toArray, List.set_cons_zero, List.set_cons_succ, i64_w, i32_w]
         rfl
        refine pure_ (i := 5) (N := some 51) (v := ?_) (a' := ?_) #[true, true, true, true, true, true] rfl rfl (by kernel_rfl) (fun _ _ _ h => h) (Or.inl ⟨by rfl, ?_⟩) ?_ ?_
        rotate_left
        ·intro w'
         go_simp
         with_reducible rfl
        rotate_left
        ·simp only [Act.put, List.setIfInBounds_toArray, List.set_cons_zero, List.set_cons_succ, i64_w, i32_w]
         rfl
        refine done_ (by kernel_rfl) ?_
        obtain ⟨hcz36_0, hcz36_1, hcz36_2, hcz36_3⟩ := blk_cells4 BK156.out
        obtain ⟨hfz36_0, hfz36_1, hfz36_2, hfz36_3⟩ := blk_frozens4 BK156.out
        try go_wp2
        refine bodyPost_ret (results_ct rfl _ _ gb156 25 #[.int .i64 0, .int .i64 0, .float .f64 0, .slice none 0 0] (0, 0) _ rfl (by (with_reducible repeat (first | refine b1 ?_ _ | refine b2 ?_ | refine b3 ?_ _)); refine blk_put (cs := #[.int .i64 0, .int .i64 0, .float .f64 0, .slice none 0 0]) ?_ 3 _ rfl; (with_reducible repeat (first | refine b1 ?_ _ | refine b2 ?_ | refine b3 ?_ _)); refine blk_put (cs := #[.int .i64 0, .int .i64 0, .float .f64 0, .slice none 0 0]) ?_ 2 _ rfl; (with_reducible repeat (first | refine b1 ?_ _ | refine b2 ?_ | refine b3 ?_ _)); refine blk_put (cs := #[.int .i64 0, .int .i64 0, .float .f64 0, .slice none 0 0]) ?_ 1 _ rfl; (with_reducible repeat (first | refine b1 ?_ _ | refine b2 ?_ | refine b3 ?_ _)); refine blk_put (cs := #[.int .i64 0, .int .i64 0, .float .f64 0, .slice none 0 0]) ?_ 0 _ rfl; exact bup BK156.out) Try.underlying25 rfl (by kernel_rfl)) rfl ?_
        exact ⟨_, _, by first | rfl | (simp [errW_none, errW_some] <;> rfl) | (simp [*, errW_none, errW_some] <;> rfl), by first | exact Kd.R_nil _ _ _ _ _ | exact Kd.N_nil _ _ _ _ _ | exact Kd.V_nil _ _ _ _ _ | exact Kd.Q_nil _ _ _ _ _ | exact Kd.S_nil _ _ _ _ _, by with_reducible repeat (first | exact HB.out | refine h4 ?_ GE156.out | refine h4 ?_ GE157.out | apply h1 | apply h2 | apply h3), (by first | exact ⟨⟨by first | rfl | decide, by decide⟩⟩)⟩
      ·rw [if_neg c12] at H
       exact absurd H (by simp)
     ·rw [if_neg c11] at H
      have c11b0 : ((wrap64 (rd l0 0)) == 1) = false := beq_eq_false_iff_ne.mpr c11
      have c11b1 : ((wrap64 (rd l0 0)) != 1) = true := bne_iff_ne.mpr c11
      by_cases c37 : (wrap64 (rd l0 0)) = 2
      ·rw [if_pos c37] at H
       have c37b0 : ((wrap64 (rd l0 0)) == 2) = true := beq_iff_eq.mpr c37
       have c37b1 : ((wrap64 (rd l0 0)) != 2) = false := bne_eq_false_iff_eq.mpr c37
       clear c37
       by_cases c38 : 1 ≤ (l0.length : Int)
       ·rw [if_pos c38] at H
        have c38b0 := eq_true c38
        have c38b1 : decide (1 ≤ (l0.length : Int)) = true := decide_eq_true c38
        clear c38
        replace H := Option.bind_eq_some_iff.mp H
        obtain ⟨t165, A390, H⟩ := H
        replace H : ((spec_FloatUnrank.f kj1 t165).bind fun bt166 => ((spec_KeyBytes.f kj1 (wrap64 (rd l0 0)) 0 bt166.1 ([] : List Int)).bind fun t168 => (if (strOfNums t168).toList = (strOfNums l0).toList then (some (wrap64 (rd l0 0), 0, bt166.1, ([] : List Int), true)) else (some (0, 0, 0, ([] : List Int), false))))) = some (r1, r2, r3, r4, r5) := H
        have A39 := Aside0.mk A390
        clear A390
        replace H := Option.bind_eq_some_iff.mp H
        obtain ⟨⟨t166, t167⟩, A400, H⟩ := H
        replace H : ((spec_KeyBytes.f kj1 (wrap64 (rd l0 0)) 0 t166 ([] : List Int)).bind fun t168 => (if (strOfNums t168).toList = (strOfNums l0).toList then (some (wrap64 (rd l0 0), 0, t166, ([] : List Int), true)) else (some (0, 0, 0, ([] : List Int), false)))) = some (r1, r2, r3, r4, r5) := H
        have A40 := Aside0.mk A400
        clear A400
        replace H := Option.bind_eq_some_iff.mp H
        obtain ⟨t168, A410, H⟩ := H
        replace H : (if (strOfNums t168).toList = (strOfNums l0).toList then (some (wrap64 (rd l0 0), 0, t166, ([] : List Int), true)) else (some (0, 0, 0, ([] : List Int), false))) = some (r1, r2, r3, r4, r5) := H
        have A41 := Aside0.mk A410
        clear A410
        by_cases c42 : (strOfNums t168).toList = (strOfNums l0).toList
        ·rw [if_pos c42] at H
         have c42b0 : ((strOfNums t168).toList == (strOfNums l0).toList) = true := beq_iff_eq.mpr c42
         have c42b1 : ((strOfNums t168).toList != (strOfNums l0).toList) = false := bne_eq_false_iff_eq.mpr c42
         clear c42
         simp only [Option.some.injEq, Prod.mk.injEq] at H
         obtain ⟨rfl, rfl, rfl, rfl, rfl⟩ := H
         have p158 : 0 ≤ (0 : Int) := (by omega)
         have q158 : 0 < (l0.length : Int) := of_decide_eq_true (by first | (with_reducible assumption) | assumption)
         obtain ⟨ad158, e158, hx158_0⟩ := Kd.at_int HR0.out 0 p158 q158
         cases e158
         have qi158 : (0 < l0.length) = True := eq_true (by omega)
         (try rw [show ((0 : Int)).toNat = 0 from rfl] at hx158_0)
         (try rw [Addr.add_zero'] at hx158_0)
         replace hx158_0 := (HB.out.cell (World.block_lt_of_cell? w _ hx158_0)).trans hx158_0
         replace p158 := eq_true p158
         replace q158 := eq_true q158
         have hnb43 := NB157_156.out
         have hnc43 := NB156_157.out
         obtain ⟨hcz44_0, hcz44_1, hcz44_2, hcz44_3⟩ := blk_cells4 BK157.out
         obtain ⟨hfz44_0, hfz44_1, hfz44_2, hfz44_3⟩ := blk_frozens4 BK157.out
         obtain ⟨i045, hi045, _, hsz45, _⟩ := info_parts info5
         obtain ⟨A45, hcut45, hA45, hC45⟩ := print_drop_of (P := Try.prog) (Value.int .u8) 0 22 5 .i64 Try.underlying22 hi045 hsz45 (some ad158) c0 l0 1 (by omega) (of_decide_eq_true (by first | (with_reducible assumption) | assumption)) HC0.out
         have HR164 := Aside0.mk (Kd.C_of_reads (h1 := fun _ => rfl) (hA45 _ (Kd.reads_of_C HR0.out)))
         have HC164 := Aside0.mk hC45
         clear hA45 hC45 hi045 hsz45
         try go_wp2_with (first | ((with_reducible refine gate_callee (f := 45) rfl ?_); refine goesL_ (some 34) rfl rfl Try.func45 (by kernel_rfl) rfl #[.slice A45 (l0.drop 1).length (c0 - 1)] rfl (by (try simp only [List.map_toArray, List.map_cons, List.map_nil]); first | done | (rw [show (l0.drop 1).length = (l0.length - 1) from List.length_drop] <;> rfl) | rfl | (simp only [List.length_drop, List.length_take]; rfl)) ?_; (with_reducible refine (spec_l3low.calls kj1 _ _ (l0.drop 1) t165 _ ?side1 ?side2 A39.out).mono ?_); (case side1 => exact Kd.C_below HR164.out (by with_reducible repeat (first | exact HB.out | refine h4 ?_ GE156.out | refine h4 ?_ GE157.out | apply h1 | apply h2 | apply h3))); (case side2 => exact HC164.out); rintro e w' ⟨rfl, ⟨nd, rfl⟩⟩; refine ⟨_, rfl, ?_⟩) | ((with_reducible refine gate_callee (f := 53) rfl ?_); refine goesL_ (some 35) rfl rfl Try.func53 (by kernel_rfl) rfl #[.int .u64 t165] rfl (by (try simp only [List.map_toArray, List.map_cons, List.map_nil]); first | done | rfl) ?_; (with_reducible refine (spec_FloatUnrank.callsC kj1 t165 t166 t167 _ A40.out).mono ?_); rintro e w' ⟨b166, rfl, ⟨nd, rfl⟩, ⟨⟨hcnb166, hltb166⟩⟩⟩; refine ⟨_, rfl, ?_⟩; have LTb166 := Aside0.mk hltb166; clear hltb166; subst hcnb166))
         (try rw [setCell_drewN])
         have n0_ : Aside0 (((wc.setCell ⟨gb157, 0, none⟩ (.int .i64 (wrap64 (rd l0 0)))).setCell ⟨gb157, 2, none⟩ (.float .f64 b166)).heap[gb156]? = some (.cells #[.int .i64 0, .int .i64 0, .float .f64 0, .slice none 0 0] 25 (0, 0))) := ⟨by (with_reducible repeat (first | refine b1 ?_ _ | refine b2 ?_ | refine b3 ?_ _)); refine blk_far ?_ NB156_157.out _; (with_reducible repeat (first | refine b1 ?_ _ | refine b2 ?_ | refine b3 ?_ _)); refine blk_far ?_ NB156_157.out _; exact bup BK156.out⟩
         have n1_ : Aside0 (((wc.setCell ⟨gb157, 0, none⟩ (.int .i64 (wrap64 (rd l0 0)))).setCell ⟨gb157, 2, none⟩ (.float .f64 b166)).heap[gb157]? = some (.cells #[.int .i64 (wrap64 (rd l0 0)), .int .i64 0, .float .f64 b166, .slice none 0 0] 25 (0, 0))) := ⟨by (with_reducible repeat (first | refine b1 ?_ _ | refine b2 ?_ | refine b3 ?_ _)); refine blk_put (cs := #[.int .i64 (wrap64 (rd l0 0)), .int .i64 0, .float .f64 0, .slice none 0 0]) ?_ 2 _ rfl; (with_reducible repeat (first | refine b1 ?_ _ | refine b2 ?_ | refine b3 ?_ _)); refine blk_put (cs := #[.int .i64 0, .int .i64 0, .float .f64 0, .slice none 0 0]) ?_ 0 _ rfl; exact bup BK157.out⟩
         have n2_ : Aside0 (Below w.heap.size w ((wc.setCell ⟨gb157, 0, none⟩ (.int .i64 (wrap64 (rd l0 0)))).setCell ⟨gb157, 2, none⟩ (.float .f64 b166))) := ⟨by with_reducible repeat (first | exact HB.out | refine h4 ?_ GE156.out | refine h4 ?_ GE157.out | apply h1 | apply h2 | apply h3)⟩
         (try clear BK156)
         (try clear BK157)
         (try clear HB)
         generalize ((wc.setCell ⟨gb157, 0, none⟩ (.int .i64 (wrap64 (rd l0 0)))).setCell ⟨gb157, 2, none⟩ (.float .f64 b166)) = w46 at n0_ n1_ n2_ ⊢
         have BK156 := n0_
         have BK157 := n1_
         have HB := n2_
         clear n0_ n1_ n2_
         (try (rw [drewN_self w46]; generalize hq_ : World.drewN w46 _ = w46; have n0_ : Aside0 (w46.heap[gb156]? = some (.cells #[.int .i64 0, .int .i64 0, .float .f64 0, .slice none 0 0] 25 (0, 0))) := ⟨by rw [← hq_]; exact (bup BK156.out)⟩; have n1_ : Aside0 (w46.heap[gb157]? = some (.cells #[.int .i64 (wrap64 (rd l0 0)), .int .i64 0, .float .f64 b166, .slice none 0 0] 25 (0, 0))) := ⟨by rw [← hq_]; exact (bup BK157.out)⟩; have n2_ : Aside0 (Below w.heap.size w w46) := ⟨by rw [← hq_]; exact (by with_reducible repeat (first | exact HB.out | refine h4 ?_ GE156.out | refine h4 ?_ GE157.out | apply h1 | apply h2 | apply h3))⟩; clear BK156 BK157 HB hq_; have BK156 := n0_; have BK157 := n1_; have HB := n2_; clear n0_ n1_ n2_))
         have n0_ := Aside0.mk (blk_drew BK156.out)
         have n1_ := Aside0.mk (blk_drew BK157.out)
         have n2_ := Aside0.mk (below_drew1 HB.out)
         clear BK156
         clear BK157
         clear HB
         have BK156 := n0_
         have BK157 := n1_
         have HB := n2_
         clear n0_ n1_ n2_
         refine start_ (n := 6) (S := fun w' => w'.cell? ⟨gb157, 0, none⟩ = some (.int .i64 (wrap64 (rd l0 0))) ∧ w'.cell? ⟨gb157, 1, none⟩ = some (.int .i64 0) ∧ w'.cell? ⟨gb157, 2, none⟩ = some (.float .f64 b166) ∧ w'.cell? ⟨gb157, 3, none⟩ = some (.slice none 0 0) ∧ Kd.C (Kd.int .u8) w' (some ad158) l0.length l0) (ds := []) #[false, false, false, false, false, false] (by kernel_rfl) rfl rfl ⟨(blk_cell BK157.out 0).trans rfl, (blk_cell BK157.out 1).trans rfl, (blk_cell BK157.out 2).trans rfl, (blk_cell BK157.out 3).trans rfl, (Kd.C_below HR0.out HB.out)⟩ (fun hHeld => ?_)
         generalize w46.drew = w47 at BK156 BK157 HB hHeld ⊢
         refine pure_ (i := 3) (N := some 49) (v := ?_) (a' := ?_) #[false, false, false, true, false, false] rfl rfl (by kernel_rfl) (fun _ _ _ h => h) (Or.inl ⟨by rfl, ?_⟩) ?_ ?_
         rotate_left
         ·intro w'
          go_simp
          with_reducible rfl
         rotate_left
         ·simp only [Act.put, List.setIfInBounds_toArray, List.set_cons_zero, List.set_cons_succ, i64_w, i32_w]
          rfl
         refine take_ (i := 4) (N := some 50) (v := ?_) (a' := ?_) #[false, false, false, true, true, false] rfl rfl (by kernel_rfl) (fun _ _ _ h => h) (Or.inl ⟨by rfl, ?_⟩) hHeld ?_ ?_
         rotate_left
         ·rintro w' ⟨s0, s1, s2, s3, sC⟩
          have hcv_ := Kd.C_string (P := Try.prog) (A := (some ad158)) (c := c0) Try.underlying22 Try.underlying5 Try.underlying9 sC
          go_simp
          with_reducible rfl
         rotate_left
         ·simp only [Act.put, List.setIfInBounds_toArray, List.set_cons_zero, List.set_cons_succ, i64_w, i32_w]
          rfl
         refine take_ (i := 0) (N := some 46) (v := ?_) (a' := ?_) #[true, false, false, true, true, false] rfl rfl (by kernel_rfl) (fun _ _ _ h => h) (Or.inl ⟨by rfl, ?_⟩) hHeld ?_ ?_
         rotate_left
         ·rintro w' ⟨s0, s1, s2, s3, sC⟩
          go_simp
          with_reducible rfl
         rotate_left
         ·simp only [Act.put, List.setIfInBounds_toArray, List.set_cons_zero, List.set_cons_succ, i64_w, i32_w]
          rfl
         refine one_ (i := 1) (N := some 47) #[true, true, false, true, true, false] rfl rfl (by kernel_rfl) (by decide) (fun K hK => ?_)
         refine goes_ Try.func54 (by kernel_rfl) rfl #[.agg #[.int .i64 (wrap64 (rd l0 0)), .int .i64 0, .float .f64 b166, .slice none 0 0]] (by rfl) rfl rfl (by (try simp only [List.map_toArray, List.map_cons, List.map_nil]); first | done | rfl) ?_
         refine (spec_KeyBytes.calls kj1 (wrap64 (rd l0 0)) 0 b166 _ _ ([] : List Int) t168 _ ?side1 ?side2 ((spec_KeyBytes.inv0 _ _ _ _ _).symm.trans A41.out)).mono ?_
         (case side1 => exact Kd.C_nil _ _)
         (case side2 => exact Nat.le_refl _)
         rintro e w48 ⟨v169, rfl, ho0, hb⟩
         refine ⟨_, rfl, ?_⟩
         have n0_ := Aside0.mk (Kd.R_lower ho0 (below_size (by with_reducible repeat (first | exact HB.out | refine h4 ?_ GE156.out | refine h4 ?_ GE157.out | apply h1 | apply h2 | apply h3))))
         have n1_ := Aside0.mk (blk_below (g := gb156) (o := .cells #[.int .i64 0, .int .i64 0, .float .f64 0, .slice none 0 0] 25 (0, 0)) (bup BK156.out) hb)
         have n2_ := Aside0.mk (blk_below (g := gb157) (o := .cells #[.int .i64 (wrap64 (rd l0 0)), .int .i64 0, .float .f64 b166, .slice none 0 0] 25 (0, 0)) (bup BK157.out) hb)
         have n3_ := Aside0.mk (below_step (by with_reducible repeat (first | exact HB.out | refine h4 ?_ GE156.out | refine h4 ?_ GE157.out | apply h1 | apply h2 | apply h3)) hb)
         clear BK156
         clear BK157
         clear HB
         have HO170 := n0_
         have BK156 := n1_
         have BK157 := n2_
         have HB := n3_
         clear n0_ n1_ n2_ n3_
         (try clear hb)
         (try clear hb2)
         (try clear hk)
         (try clear hi)
         (try clear ho0)
         have hcv50 := Kd.C_string (P := Try.prog) (A := (some ad158)) (c := c0) Try.underlying22 Try.underlying5 Try.underlying9 (Kd.C_below HR0.out HB.out)
         refine hK.out _ _ ⟨(blk_cell BK157.out 0).trans rfl, (blk_cell BK157.out 1).trans rfl, (blk_cell BK157.out 2).trans rfl, (blk_cell BK157.out 3).trans rfl, (Kd.C_below HR0.out HB.out)⟩ (fun hHeld => ?_)
         clear hK K
         refine norm_ (a' := ?_) ?_ ?_
         rotate_left
         ·show Act.put _ (some 47) _ = _
          simp only [Act.put, List.setIfInBounds_toArray, List.set_cons_zero, List.set_cons_succ, i64_w, i32_w]
          rfl
         refine one_ (i := 2) (N := some 48) #[true, true, true, true, true, false] rfl rfl (by kernel_rfl) (by decide) (fun K hK => ?_)
         have hcv49 := own_string (P := Try.prog) Try.underlying22 Try.underlying5 Try.underlying9 (Kd.own_of_R HO170.out)
         refine value_ (w1 := ?_) (v := ?_) (by rfl) rfl ?_ ?_
         rotate_left 2
         ·go_simp
          constructor
          ·rfl
          ·rfl
         clear hcv49
         refine hK.out _ _ ⟨(blk_cell BK157.out 0).trans rfl, (blk_cell BK157.out 1).trans rfl, (blk_cell BK157.out 2).trans rfl, (blk_cell BK157.out 3).trans rfl, (Kd.C_below HR0.out HB.out)⟩ (fun hHeld => ?_)
         clear hK K
         refine norm_ (a' := ?_) ?_ ?_
         rotate_left
         ·show Act.put _ (some 48) _ = _
          simp only [Act.put, List.setIfInBounds_toArray, List.set_cons_zero, List.set_cons_succ, i64_w, i32_w]
          rfl
         refine pure_ (i := 5) (N := some 51) (v := ?_) (a' := ?_) #[true, true, true, true, true, true] rfl rfl (by kernel_rfl) (fun _ _ _ h => h) (Or.inl ⟨by rfl, ?_⟩) ?_ ?_
         rotate_left
         ·intro w'
          go_simp
          with_reducible rfl
         rotate_left
         ·simp only [Act.put, List.setIfInBounds_toArray, List.set_cons_zero, List.set_cons_succ, i64_w, i32_w]
          rfl
         refine done_ (by kernel_rfl) ?_
         obtain ⟨hcz52_0, hcz52_1, hcz52_2, hcz52_3⟩ := blk_cells4 BK157.out
         obtain ⟨hfz52_0, hfz52_1, hfz52_2, hfz52_3⟩ := blk_frozens4 BK157.out
         obtain ⟨hcz53_0, hcz53_1, hcz53_2, hcz53_3⟩ := blk_cells4 BK156.out
         obtain ⟨hfz53_0, hfz53_1, hfz53_2, hfz53_3⟩ := blk_frozens4 BK156.out
         try go_wp2
         refine bodyPost_ret (results_ct rfl _ _ gb156 25 #[.int .i64 (wrap64 (rd l0 0)), .int .i64 0, .float .f64 b166, .slice none 0 0] (0, 0) _ rfl (by (with_reducible repeat (first | refine b1 ?_ _ | refine b2 ?_ | refine b3 ?_ _)); refine blk_put (cs := #[.int .i64 (wrap64 (rd l0 0)), .int .i64 0, .float .f64 b166, .slice none 0 0]) ?_ 3 _ rfl; (with_reducible repeat (first | refine b1 ?_ _ | refine b2 ?_ | refine b3 ?_ _)); refine blk_put (cs := #[.int .i64 (wrap64 (rd l0 0)), .int .i64 0, .float .f64 0, .slice none 0 0]) ?_ 2 _ rfl; (with_reducible repeat (first | refine b1 ?_ _ | refine b2 ?_ | refine b3 ?_ _)); refine blk_put (cs := #[.int .i64 (wrap64 (rd l0 0)), .int .i64 0, .float .f64 0, .slice none 0 0]) ?_ 1 _ rfl; (with_reducible repeat (first | refine b1 ?_ _ | refine b2 ?_ | refine b3 ?_ _)); refine blk_put (cs := #[.int .i64 0, .int .i64 0, .float .f64 0, .slice none 0 0]) ?_ 0 _ rfl; exact bup BK156.out) Try.underlying25 rfl (by kernel_rfl)) rfl ?_
         exact ⟨_, _, by first | rfl | (simp [errW_none, errW_some] <;> rfl) | (simp [*, errW_none, errW_some] <;> rfl), by first | exact Kd.R_nil _ _ _ _ _ | exact Kd.N_nil _ _ _ _ _ | exact Kd.V_nil _ _ _ _ _ | exact Kd.Q_nil _ _ _ _ _ | exact Kd.S_nil _ _ _ _ _, by with_reducible repeat (first | exact HB.out | refine h4 ?_ GE156.out | refine h4 ?_ GE157.out | apply h1 | apply h2 | apply h3), (by first | exact ⟨⟨rfl, LTb166.out⟩⟩ | exact ⟨⟨by first | rfl | decide, by decide⟩⟩)⟩
        ·rw [if_neg c42] at H
         have c42b0 : ((strOfNums t168).toList == (strOfNums l0).toList) = false := beq_eq_false_iff_ne.mpr c42
         have c42b1 : ((strOfNums t168).toList != (strOfNums l0).toList) = true := bne_iff_ne.mpr c42
         simp only [Option.some.injEq, Prod.mk.injEq] at H
         obtain ⟨rfl, rfl, rfl, rfl, rfl⟩ := H
         have p158 : 0 ≤ (0 : Int) := (by omega)
         have q158 : 0 < (l0.length : Int) := of_decide_eq_true (by first | (with_reducible assumption) | assumption)
         obtain ⟨ad158, e158, hx158_0⟩ := Kd.at_int HR0.out 0 p158 q158
         cases e158
         have qi158 : (0 < l0.length) = True := eq_true (by omega)
         (try rw [show ((0 : Int)).toNat = 0 from rfl] at hx158_0)
         (try rw [Addr.add_zero'] at hx158_0)
         replace hx158_0 := (HB.out.cell (World.block_lt_of_cell? w _ hx158_0)).trans hx158_0
         replace p158 := eq_true p158
         replace q158 := eq_true q158
         have hnb54 := NB157_156.out
         have hnc54 := NB156_157.out
         obtain ⟨hcz55_0, hcz55_1, hcz55_2, hcz55_3⟩ := blk_cells4 BK157.out
         obtain ⟨hfz55_0, hfz55_1, hfz55_2, hfz55_3⟩ := blk_frozens4 BK157.out
         obtain ⟨i056, hi056, _, hsz56, _⟩ := info_parts info5
         obtain ⟨A56, hcut56, hA56, hC56⟩ := print_drop_of (P := Try.prog) (Value.int .u8) 0 22 5 .i64 Try.underlying22 hi056 hsz56 (some ad158) c0 l0 1 (by omega) (of_decide_eq_true (by first | (with_reducible assumption) | assumption)) HC0.out
         have HR164 := Aside0.mk (Kd.C_of_reads (h1 := fun _ => rfl) (hA56 _ (Kd.reads_of_C HR0.out)))
         have HC164 := Aside0.mk hC56
         clear hA56 hC56 hi056 hsz56
         try go_wp2_with (first | ((with_reducible refine gate_callee (f := 45) rfl ?_); refine goesL_ (some 34) rfl rfl Try.func45 (by kernel_rfl) rfl #[.slice A56 (l0.drop 1).length (c0 - 1)] rfl (by (try simp only [List.map_toArray, List.map_cons, List.map_nil]); first | done | (rw [show (l0.drop 1).length = (l0.length - 1) from List.length_drop] <;> rfl) | rfl | (simp only [List.length_drop, List.length_take]; rfl)) ?_; (with_reducible refine (spec_l3low.calls kj1 _ _ (l0.drop 1) t165 _ ?side1 ?side2 A39.out).mono ?_); (case side1 => exact Kd.C_below HR164.out (by with_reducible repeat (first | exact HB.out | refine h4 ?_ GE156.out | refine h4 ?_ GE157.out | apply h1 | apply h2 | apply h3))); (case side2 => exact HC164.out); rintro e w' ⟨rfl, ⟨nd, rfl⟩⟩; refine ⟨_, rfl, ?_⟩) | ((with_reducible refine gate_callee (f := 53) rfl ?_); refine goesL_ (some 35) rfl rfl Try.func53 (by kernel_rfl) rfl #[.int .u64 t165] rfl (by (try simp only [List.map_toArray, List.map_cons, List.map_nil]); first | done | rfl) ?_; (with_reducible refine (spec_FloatUnrank.callsC kj1 t165 t166 t167 _ A40.out).mono ?_); rintro e w' ⟨b166, rfl, ⟨nd, rfl⟩, ⟨⟨hcnb166, hltb166⟩⟩⟩; refine ⟨_, rfl, ?_⟩; have LTb166 := Aside0.mk hltb166; clear hltb166; subst hcnb166))
         (try rw [setCell_drewN])
         have n0_ : Aside0 (((wc.setCell ⟨gb157, 0, none⟩ (.int .i64 (wrap64 (rd l0 0)))).setCell ⟨gb157, 2, none⟩ (.float .f64 b166)).heap[gb156]? = some (.cells #[.int .i64 0, .int .i64 0, .float .f64 0, .slice none 0 0] 25 (0, 0))) := ⟨by (with_reducible repeat (first | refine b1 ?_ _ | refine b2 ?_ | refine b3 ?_ _)); refine blk_far ?_ NB156_157.out _; (with_reducible repeat (first | refine b1 ?_ _ | refine b2 ?_ | refine b3 ?_ _)); refine blk_far ?_ NB156_157.out _; exact bup BK156.out⟩
         have n1_ : Aside0 (((wc.setCell ⟨gb157, 0, none⟩ (.int .i64 (wrap64 (rd l0 0)))).setCell ⟨gb157, 2, none⟩ (.float .f64 b166)).heap[gb157]? = some (.cells #[.int .i64 (wrap64 (rd l0 0)), .int .i64 0, .float .f64 b166, .slice none 0 0] 25 (0, 0))) := ⟨by (with_reducible repeat (first | refine b1 ?_ _ | refine b2 ?_ | refine b3 ?_ _)); refine blk_put (cs := #[.int .i64 (wrap64 (rd l0 0)), .int .i64 0, .float .f64 0, .slice none 0 0]) ?_ 2 _ rfl; (with_reducible repeat (first | refine b1 ?_ _ | refine b2 ?_ | refine b3 ?_ _)); refine blk_put (cs := #[.int .i64 0, .int .i64 0, .float .f64 0, .slice none 0 0]) ?_ 0 _ rfl; exact bup BK157.out⟩
         have n2_ : Aside0 (Below w.heap.size w ((wc.setCell ⟨gb157, 0, none⟩ (.int .i64 (wrap64 (rd l0 0)))).setCell ⟨gb157, 2, none⟩ (.float .f64 b166))) := ⟨by with_reducible repeat (first | exact HB.out | refine h4 ?_ GE156.out | refine h4 ?_ GE157.out | apply h1 | apply h2 | apply h3)⟩
         (try clear BK156)
         (try clear BK157)
         (try clear HB)
         generalize ((wc.setCell ⟨gb157, 0, none⟩ (.int .i64 (wrap64 (rd l0 0)))).setCell ⟨gb157, 2, none⟩ (.float .f64 b166)) = w57 at n0_ n1_ n2_ ⊢
         have BK156 := n0_
         have BK157 := n1_
         have HB := n2_
         clear n0_ n1_ n2_
         (try (rw [drewN_self w57]; generalize hq_ : World.drewN w57 _ = w57; have n0_ : Aside0 (w57.heap[gb156]? = some (.cells #[.int .i64 0, .int .i64 0, .float .f64 0, .slice none 0 0] 25 (0, 0))) := ⟨by rw [← hq_]; exact (bup BK156.out)⟩; have n1_ : Aside0 (w57.heap[gb157]? = some (.cells #[.int .i64 (wrap64 (rd l0 0)), .int .i64 0, .float .f64 b166, .slice none 0 0] 25 (0, 0))) := ⟨by rw [← hq_]; exact (bup BK157.out)⟩; have n2_ : Aside0 (Below w.heap.size w w57) := ⟨by rw [← hq_]; exact (by with_reducible repeat (first | exact HB.out | refine h4 ?_ GE156.out | refine h4 ?_ GE157.out | apply h1 | apply h2 | apply h3))⟩; clear BK156 BK157 HB hq_; have BK156 := n0_; have BK157 := n1_; have HB := n2_; clear n0_ n1_ n2_))
         have n0_ := Aside0.mk (blk_drew BK156.out)
         have n1_ := Aside0.mk (blk_drew BK157.out)
         have n2_ := Aside0.mk (below_drew1 HB.out)
         clear BK156
         clear BK157
         clear HB
         have BK156 := n0_
         have BK157 := n1_
         have HB := n2_
         clear n0_ n1_ n2_
         refine start_ (n := 6) (S := fun w' => w'.cell? ⟨gb157, 0, none⟩ = some (.int .i64 (wrap64 (rd l0 0))) ∧ w'.cell? ⟨gb157, 1, none⟩ = some (.int .i64 0) ∧ w'.cell? ⟨gb157, 2, none⟩ = some (.float .f64 b166) ∧ w'.cell? ⟨gb157, 3, none⟩ = some (.slice none 0 0) ∧ Kd.C (Kd.int .u8) w' (some ad158) l0.length l0) (ds := []) #[false, false, false, false, false, false] (by kernel_rfl) rfl rfl ⟨(blk_cell BK157.out 0).trans rfl, (blk_cell BK157.out 1).trans rfl, (blk_cell BK157.out 2).trans rfl, (blk_cell BK157.out 3).trans rfl, (Kd.C_below HR0.out HB.out)⟩ (fun hHeld => ?_)
         generalize w57.drew = w58 at BK156 BK157 HB hHeld ⊢
         refine pure_ (i := 3) (N := some 49) (v := ?_) (a' := ?_) #[false, false, false, true, false, false] rfl rfl (by kernel_rfl) (fun _ _ _ h => h) (Or.inl ⟨by rfl, ?_⟩) ?_ ?_
         rotate_left
         ·intro w'
          go_simp
          with_reducible rfl
         rotate_left
         ·simp only [Act.put, List.setIfInBounds_toArray, List.set_cons_zero, List.set_cons_succ, i64_w, i32_w]
          rfl
         refine take_ (i := 4) (N := some 50) (v := ?_) (a' := ?_) #[false, false, false, true, true, false] rfl rfl (by kernel_rfl) (fun _ _ _ h => h) (Or.inl ⟨by rfl, ?_⟩) hHeld ?_ ?_
         rotate_left
         ·rintro w' ⟨s0, s1, s2, s3, sC⟩
          have hcv_ := Kd.C_string (P := Try.prog) (A := (some ad158)) (c := c0) Try.underlying22 Try.underlying5 Try.underlying9 sC
          go_simp
          with_reducible rfl
         rotate_left
         ·simp only [Act.put, List.setIfInBounds_toArray, List.set_cons_zero, List.set_cons_succ, i64_w, i32_w]
          rfl
         refine take_ (i := 0) (N := some 46) (v := ?_) (a' := ?_) #[true, false, false, true, true, false] rfl rfl (by kernel_rfl) (fun _ _ _ h => h) (Or.inl ⟨by rfl, ?_⟩) hHeld ?_ ?_
         rotate_left
         ·rintro w' ⟨s0, s1, s2, s3, sC⟩
          go_simp
          with_reducible rfl
         rotate_left
         ·simp only [Act.put, List.setIfInBounds_toArray, List.set_cons_zero, List.set_cons_succ, i64_w, i32_w]
          rfl
         refine one_ (i := 1) (N := some 47) #[true, true, false, true, true, false] rfl rfl (by kernel_rfl) (by decide) (fun K hK => ?_)
         refine goes_ Try.func54 (by kernel_rfl) rfl #[.agg #[.int .i64 (wrap64 (rd l0 0)), .int .i64 0, .float .f64 b166, .slice none 0 0]] (by rfl) rfl rfl (by (try simp only [List.map_toArray, List.map_cons, List.map_nil]); first | done | rfl) ?_
         refine (spec_KeyBytes.calls kj1 (wrap64 (rd l0 0)) 0 b166 _ _ ([] : List Int) t168 _ ?side1 ?side2 ((spec_KeyBytes.inv0 _ _ _ _ _).symm.trans A41.out)).mono ?_
         (case side1 => exact Kd.C_nil _ _)
         (case side2 => exact Nat.le_refl _)
         rintro e w59 ⟨v169, rfl, ho0, hb⟩
         refine ⟨_, rfl, ?_⟩
         have n0_ := Aside0.mk (Kd.R_lower ho0 (below_size (by with_reducible repeat (first | exact HB.out | refine h4 ?_ GE156.out | refine h4 ?_ GE157.out | apply h1 | apply h2 | apply h3))))
         have n1_ := Aside0.mk (blk_below (g := gb156) (o := .cells #[.int .i64 0, .int .i64 0, .float .f64 0, .slice none 0 0] 25 (0, 0)) (bup BK156.out) hb)
         have n2_ := Aside0.mk (blk_below (g := gb157) (o := .cells #[.int .i64 (wrap64 (rd l0 0)), .int .i64 0, .float .f64 b166, .slice none 0 0] 25 (0, 0)) (bup BK157.out) hb)
         have n3_ := Aside0.mk (below_step (by with_reducible repeat (first | exact HB.out | refine h4 ?_ GE156.out | refine h4 ?_ GE157.out | apply h1 | apply h2 | apply h3)) hb)
         clear BK156
         clear BK157
         clear HB
         have HO170 := n0_
         have BK156 := n1_
         have BK157 := n2_
         have HB := n3_
         clear n0_ n1_ n2_ n3_
         (try clear hb)
         (try clear hb2)
         (try clear hk)
         (try clear hi)
         (try clear ho0)
         have hcv61 := Kd.C_string (P := Try.prog) (A := (some ad158)) (c := c0) Try.underlying22 Try.underlying5 Try.underlying9 (Kd.C_below HR0.out HB.out)
         refine hK.out _ _ ⟨(blk_cell BK157.out 0).trans rfl, (blk_cell BK157.out 1).trans rfl, (blk_cell BK157.out 2).trans rfl, (blk_cell BK157.out 3).trans rfl, (Kd.C_below HR0.out HB.out)⟩ (fun hHeld => ?_)
         clear hK K
         refine norm_ (a' := ?_) ?_ ?_
         rotate_left
         ·show Act.put _ (some 47) _ = _
          simp only [Act.put, List.setIfInBounds_toArray, List.set_cons_zero, List.set_cons_succ, i64_w, i32_w]
          rfl
         refine one_ (i := 2) (N := some 48) #[true, true, true, true, true, false] rfl rfl (by kernel_rfl) (by decide) (fun K hK => ?_)
         have hcv60 := own_string (P := Try.prog) Try.underlying22 Try.underlying5 Try.underlying9 (Kd.own_of_R HO170.out)
         refine value_ (w1 := ?_) (v := ?_) (by rfl) rfl ?_ ?_
         rotate_left 2
         ·go_simp
          constructor
          ·rfl
          ·rfl
         clear hcv60
         refine hK.out _ _ ⟨(blk_cell BK157.out 0).trans rfl, (blk_cell BK157.out 1).trans rfl, (blk_cell BK157.out 2).trans rfl, (blk_cell BK157.out 3).trans rfl, (Kd.C_below HR0.out HB.out)⟩ (fun hHeld => ?_)
         clear hK K
         refine norm_ (a' := ?_) ?_ ?_
         rotate_left
         ·show Act.put _ (some 48) _ = _
          simp only [Act.put, List.setIfInBounds_toArray, List.set_cons_zero, List.set_cons_succ, i64_w, i32_w]
          rfl
         refine pure_ (i := 5) (N := some 51) (v := ?_) (a' := ?_) #[true, true, true, true, true, true] rfl rfl (by kernel_rfl) (fun _ _ _ h => h) (Or.inl ⟨by rfl, ?_⟩) ?_ ?_
         rotate_left
         ·intro w'
          go_simp
          with_reducible rfl
         rotate_left
         ·simp only [Act.put, List.setIfInBounds_toArray, List.set_cons_zero, List.set_cons_succ, i64_w, i32_w]
          rfl
         refine done_ (by kernel_rfl) ?_
         obtain ⟨hcz63_0, hcz63_1, hcz63_2, hcz63_3⟩ := blk_cells4 BK156.out
         obtain ⟨hfz63_0, hfz63_1, hfz63_2, hfz63_3⟩ := blk_frozens4 BK156.out
         try go_wp2
         refine bodyPost_ret (results_ct rfl _ _ gb156 25 #[.int .i64 0, .int .i64 0, .float .f64 0, .slice none 0 0] (0, 0) _ rfl (by (with_reducible repeat (first | refine b1 ?_ _ | refine b2 ?_ | refine b3 ?_ _)); refine blk_put (cs := #[.int .i64 0, .int .i64 0, .float .f64 0, .slice none 0 0]) ?_ 3 _ rfl; (with_reducible repeat (first | refine b1 ?_ _ | refine b2 ?_ | refine b3 ?_ _)); refine blk_put (cs := #[.int .i64 0, .int .i64 0, .float .f64 0, .slice none 0 0]) ?_ 2 _ rfl; (with_reducible repeat (first | refine b1 ?_ _ | refine b2 ?_ | refine b3 ?_ _)); refine blk_put (cs := #[.int .i64 0, .int .i64 0, .float .f64 0, .slice none 0 0]) ?_ 1 _ rfl; (with_reducible repeat (first | refine b1 ?_ _ | refine b2 ?_ | refine b3 ?_ _)); refine blk_put (cs := #[.int .i64 0, .int .i64 0, .float .f64 0, .slice none 0 0]) ?_ 0 _ rfl; exact bup BK156.out) Try.underlying25 rfl (by kernel_rfl)) rfl ?_
         exact ⟨_, _, by first | rfl | (simp [errW_none, errW_some] <;> rfl) | (simp [*, errW_none, errW_some] <;> rfl), by first | exact Kd.R_nil _ _ _ _ _ | exact Kd.N_nil _ _ _ _ _ | exact Kd.V_nil _ _ _ _ _ | exact Kd.Q_nil _ _ _ _ _ | exact Kd.S_nil _ _ _ _ _, by with_reducible repeat (first | exact HB.out | refine h4 ?_ GE156.out | refine h4 ?_ GE157.out | apply h1 | apply h2 | apply h3), (by first | exact ⟨⟨rfl, LTb166.out⟩⟩ | exact ⟨⟨by first | rfl | decide, by decide⟩⟩)⟩
       ·rw [if_neg c38] at H
        exact absurd H (by simp)
      ·rw [if_neg c37] at H
       have c37b0 : ((wrap64 (rd l0 0)) == 2) = false := beq_eq_false_iff_ne.mpr c37
       have c37b1 : ((wrap64 (rd l0 0)) != 2) = true := bne_iff_ne.mpr c37
       by_cases c64 : (wrap64 (rd l0 0)) = 3
       ·rw [if_pos c64] at H
        have c64b0 : ((wrap64 (rd l0 0)) == 3) = true := beq_iff_eq.mpr c64
        have c64b1 : ((wrap64 (rd l0 0)) != 3) = false := bne_eq_false_iff_eq.mpr c64
        clear c64
        obtain ⟨y171, hy171⟩ : ∃ y_ : List Int, y_ = (([] : List Int)) := ⟨_, rfl⟩
        replace H : (if 1 ≤ (l0.length : Int) then (if y171.length + (l0.drop 1).length < 140737488355328 then ((some (y171 ++ (l0.drop 1) : List Int)).bind fun y175 => ((spec_KeyBytes.f kj1 (wrap64 (rd l0 0)) 0 0 y175).bind fun t178 => (if (strOfNums t178).toList = (strOfNums l0).toList then (some (wrap64 (rd l0 0), 0, 0, y175, true)) else (some (0, 0, 0, ([] : List Int), false))))) else (none)) else (none)) = some (r1, r2, r3, r4, r5) := by first | (rw [hy171]; with_reducible exact H) | (have H2_ := (Option.bind_some _ _).symm.trans H; rw [hy171]; with_reducible exact H2_) | (have H2_ := (Option.bind_some _ _).symm.trans H; with_reducible exact H2_) | with_reducible exact H | (rw [hy171]; exact H) | exact H
        have Ny171 := Aside0.mk hy171
        clear hy171
        by_cases c65 : 1 ≤ (l0.length : Int)
        ·rw [if_pos c65] at H
         have c65b0 := eq_true c65
         have c65b1 : decide (1 ≤ (l0.length : Int)) = true := decide_eq_true c65
         clear c65
         by_cases c66 : y171.length + (l0.drop 1).length < 140737488355328
         ·rw [if_pos c66] at H
          have LMc66 := Aside0.mk c66
          clear c66
          obtain ⟨y175, hy175⟩ : ∃ y_ : List Int, y_ = (y171 ++ (l0.drop 1)) := ⟨_, rfl⟩
          replace H : ((spec_KeyBytes.f kj1 (wrap64 (rd l0 0)) 0 0 y175).bind fun t178 => (if (strOfNums t178).toList = (strOfNums l0).toList then (some (wrap64 (rd l0 0), 0, 0, y175, true)) else (some (0, 0, 0, ([] : List Int), false)))) = some (r1, r2, r3, r4, r5) := by first | (rw [hy175]; with_reducible exact H) | (have H2_ := (Option.bind_some _ _).symm.trans H; rw [hy175]; with_reducible exact H2_) | (have H2_ := (Option.bind_some _ _).symm.trans H; with_reducible exact H2_) | with_reducible exact H | (rw [hy175]; exact H) | exact H
          have Ny175 := Aside0.mk hy175
          clear hy175
          replace H := Option.bind_eq_some_iff.mp H
          obtain ⟨t178, A670, H⟩ := H
          replace H : (if (strOfNums t178).toList = (strOfNums l0).toList then (some (wrap64 (rd l0 0), 0, 0, y175, true)) else (some (0, 0, 0, ([] : List Int), false))) = some (r1, r2, r3, r4, r5) := H
          have A67 := Aside0.mk A670
          clear A670
          by_cases c68 : (strOfNums t178).toList = (strOfNums l0).toList
          ·rw [if_pos c68] at H
           have c68b0 : ((strOfNums t178).toList == (strOfNums l0).toList) = true := beq_iff_eq.mpr c68
           have c68b1 : ((strOfNums t178).toList != (strOfNums l0).toList) = false := bne_eq_false_iff_eq.mpr c68
           clear c68
           simp only [Option.some.injEq, Prod.mk.injEq] at H
           obtain ⟨rfl, rfl, rfl, rfl, rfl⟩ := H
           have p158 : 0 ≤ (0 : Int) := (by omega)
           have q158 : 0 < (l0.length : Int) := of_decide_eq_true (by first | (with_reducible assumption) | assumption)
           obtain ⟨ad158, e158, hx158_0⟩ := Kd.at_int HR0.out 0 p158 q158
           cases e158
           have qi158 : (0 < l0.length) = True := eq_true (by omega)
           (try rw [show ((0 : Int)).toNat = 0 from rfl] at hx158_0)
           (try rw [Addr.add_zero'] at hx158_0)
           replace hx158_0 := (HB.out.cell (World.block_lt_of_cell? w _ hx158_0)).trans hx158_0
           replace p158 := eq_true p158
           replace q158 := eq_true q158
           have hnb69 := NB157_156.out
           have hnc69 := NB156_157.out
           obtain ⟨hcz70_0, hcz70_1, hcz70_2, hcz70_3⟩ := blk_cells4 BK157.out
           obtain ⟨hfz70_0, hfz70_1, hfz70_2, hfz70_3⟩ := blk_frozens4 BK157.out
           try go_wp2_with (first | ((with_reducible refine gate_dst (N := 41) rfl ?_); (try (refine gate_guard (by rfl) ?_; dsimp only)); refine Kd.R_lit (Kd.int .u8) _ 5 ?hg (N := 41) ?hd (xs := ([] : List Int)) (inner := []) (ok := fun _ => True) (okp := fun _ => True) ?hr ?hp (fun _ hk => hk) trivial (Below.refl _ _) (Nat.le_refl _) (by simp) ?_; (case hd => rfl); (case hg => rfl); (case hr => first | (go_simp; done) | (go_simp; rfl)); (case hp => exact (Reps.none _ _)); intro v172 w71 ho72 hb hg_ hnew_; clear hg_ hnew_; (first | rw [← Ny171.out] at ho72 | (simp only [Int.reduceToNat] at ho72; rw [← Ny171.out] at ho72)); have n0_ := Aside0.mk (Kd.R_lower ho72 (below_size (by with_reducible repeat (first | exact HB.out | refine h4 ?_ GE156.out | refine h4 ?_ GE157.out | apply h1 | apply h2 | apply h3)))); have n1_ := Aside0.mk (blk_below (g := gb156) (o := .cells #[.int .i64 0, .int .i64 0, .float .f64 0, .slice none 0 0] 25 (0, 0)) (by (with_reducible repeat (first | refine b1 ?_ _ | refine b2 ?_ | refine b3 ?_ _)); refine blk_far ?_ NB156_157.out _; exact bup BK156.out) hb); have n2_ := Aside0.mk (blk_below (g := gb157) (o := .cells #[.int .i64 (wrap64 (rd l0 0)), .int .i64 0, .float .f64 0, .slice none 0 0] 25 (0, 0)) (by (with_reducible repeat (first | refine b1 ?_ _ | refine b2 ?_ | refine b3 ?_ _)); refine blk_put (cs := #[.int .i64 0, .int .i64 0, .float .f64 0, .slice none 0 0]) ?_ 0 _ rfl; exact bup BK157.out) hb); have n3_ := Aside0.mk (below_step (by with_reducible repeat (first | exact HB.out | refine h4 ?_ GE156.out | refine h4 ?_ GE157.out | apply h1 | apply h2 | apply h3)) hb); clear BK156; clear BK157; clear HB; have HO173 := n0_; have BK156 := n1_; have BK157 := n2_; have HB := n3_; clear n0_ n1_ n2_ n3_; clear hb ho72; obtain ⟨i073, hi073, _, hsz73, _⟩ := info_parts info5; obtain ⟨A73, hcut73, hA73, hC73⟩ := print_drop_of (P := Try.prog) (Value.int .u8) 0 22 5 .i64 Try.underlying22 hi073 hsz73 (some ad158) c0 l0 1 (by omega) (of_decide_eq_true (by first | (with_reducible assumption) | assumption)) HC0.out; have HR174 := Aside0.mk (Kd.C_of_reads (h1 := fun _ => rfl) (hA73 _ (Kd.reads_of_C HR0.out))); have HC174 := Aside0.mk hC73; clear hA73 hC73 hi073 hsz73) | ((with_reducible refine gate_builtin (b := .append) (xs := #[.tmp 41, .tmp 43]) rfl ?_); (try (refine gate_guard (by rfl) ?_; dsimp only)); at_builtin; refine Kd.R_append_rows (Kd.int .u8) (w0 := w) w.heap.size rfl (.tmp 41) (.tmp 43) 22 5 (.int .u8 0) 1 rfl Try.underlying22 info5 rfl (by decide) (by omega) v172 y171 (l0.drop 1) _ _ _ (fun _ => True) (fun _ => False) rfl rfl ?aO ?aR (fun _ _ h => h) (fun _ h => h.elim) ?aF ?aB ?aS ?aL ?_; (case aR => first | (rw [← show (l0.drop 1).length = (l0.length - 1) from List.length_drop]; repeat (first | exact (Kd.C_below HR174.out HB.out) | (with_reducible refine Kd.C_alloc ?_ _) | (with_reducible refine Kd.C_drewN ?_ _) | (with_reducible refine Kd.C_drew ?_))) | (repeat (first | exact (Kd.C_below HR174.out HB.out) | (with_reducible refine Kd.C_alloc ?_ _) | (with_reducible refine Kd.C_drewN ?_ _) | (with_reducible refine Kd.C_drew ?_)))); (case aB => exact (by with_reducible repeat (first | exact HB.out | refine h4 ?_ GE156.out | refine h4 ?_ GE157.out | apply h1 | apply h2 | apply h3))); (case aF => exact (fun _ _ => trivial)); (case aO => exact (Kd.rup HO173.out)); (case aS => exact (below_size (by with_reducible repeat (first | exact HB.out | refine h4 ?_ GE156.out | refine h4 ?_ GE157.out | apply h1 | apply h2 | apply h3)))); (case aL => have := LMc66.out; have hlx_ := (show (l0.drop 1).length = (l0.length - 1) from List.length_drop); omega); intro v176 w74 ho hb hg hat; rw [← Ny175.out] at ho; have n0_ := Aside0.mk (blk_grown (g := gb156) (o := .cells #[.int .i64 0, .int .i64 0, .float .f64 0, .slice none 0 0] 25 (0, 0)) (bup BK156.out) hg (Kd.R_ne HO173.out BK156.out (by decide))); have n1_ := Aside0.mk (blk_grown (g := gb157) (o := .cells #[.int .i64 (wrap64 (rd l0 0)), .int .i64 0, .float .f64 0, .slice none 0 0] 25 (0, 0)) (bup BK157.out) hg (Kd.R_ne HO173.out BK157.out (by decide))); have n2_ := Aside0.mk (hb); have n3_ := Aside0.mk (ho); clear BK156; clear BK157; clear HB; clear HO173; have BK156 := n0_; have BK157 := n1_; have HB := n2_; have HO177 := n3_; clear n0_ n1_ n2_ n3_; clear ho hb hg hat; obtain ⟨Ao75, co75, eo75⟩ := Kd.R_slice HO177.out; subst eo75; obtain ⟨hcz76_0, hcz76_1, hcz76_2, hcz76_3⟩ := blk_cells4 BK157.out; obtain ⟨hfz76_0, hfz76_1, hfz76_2, hfz76_3⟩ := blk_frozens4 BK157.out))
           have n0_ : Aside0 (Kd.R (Kd.int .u8) 5 (w74.setCell ⟨gb157, 3, none⟩ (.slice Ao75 y175.length co75)) w.heap.size (fun _ => True) (.slice Ao75 y175.length co75) y175) := ⟨by exact Kd.rup (Kd.R_mono (Kd.R_far (p := ⟨gb157, 3, none⟩) (Kd.R_types HO177.out BK157.out (by decide)) (fun _ hk => hk.2) (.slice Ao75 y175.length co75)) (fun _ hk => trivial))⟩
           have n1_ : Aside0 ((w74.setCell ⟨gb157, 3, none⟩ (.slice Ao75 y175.length co75)).heap[gb156]? = some (.cells #[.int .i64 0, .int .i64 0, .float .f64 0, .slice none 0 0] 25 (0, 0))) := ⟨by (with_reducible repeat (first | refine b1 ?_ _ | refine b2 ?_ | refine b3 ?_ _)); refine blk_far ?_ NB156_157.out _; exact bup BK156.out⟩
           have n2_ : Aside0 ((w74.setCell ⟨gb157, 3, none⟩ (.slice Ao75 y175.length co75)).heap[gb157]? = some (.cells #[.int .i64 (wrap64 (rd l0 0)), .int .i64 0, .float .f64 0, .slice Ao75 y175.length co75] 25 (0, 0))) := ⟨by (with_reducible repeat (first | refine b1 ?_ _ | refine b2 ?_ | refine b3 ?_ _)); refine blk_put (cs := #[.int .i64 (wrap64 (rd l0 0)), .int .i64 0, .float .f64 0, .slice none 0 0]) ?_ 3 _ rfl; exact bup BK157.out⟩
           have n3_ : Aside0 (Below w.heap.size w (w74.setCell ⟨gb157, 3, none⟩ (.slice Ao75 y175.length co75))) := ⟨by with_reducible repeat (first | exact HB.out | refine h4 ?_ GE156.out | refine h4 ?_ GE157.out | apply h1 | apply h2 | apply h3)⟩
           (try clear HO177)
           (try clear BK156)
           (try clear BK157)
           (try clear HB)
           generalize (w74.setCell ⟨gb157, 3, none⟩ (.slice Ao75 y175.length co75)) = w77 at n0_ n1_ n2_ n3_ ⊢
           have HO177 := n0_
           have BK156 := n1_
           have BK157 := n2_
           have HB := n3_
           clear n0_ n1_ n2_ n3_
           have n0_ := Aside0.mk (Kd.R_drew HO177.out)
           have n1_ := Aside0.mk (blk_drew BK156.out)
           have n2_ := Aside0.mk (blk_drew BK157.out)
           have n3_ := Aside0.mk (below_drew1 HB.out)
           clear HO177
           clear BK156
           clear BK157
           clear HB
           have HO177 := n0_
           have BK156 := n1_
           have BK157 := n2_
           have HB := n3_
           clear n0_ n1_ n2_ n3_
           refine start_ (n := 6) (S := fun w' => w'.cell? ⟨gb157, 0, none⟩ = some (.int .i64 (wrap64 (rd l0 0))) ∧ w'.cell? ⟨gb157, 1, none⟩ = some (.int .i64 0) ∧ w'.cell? ⟨gb157, 2, none⟩ = some (.float .f64 0) ∧ w'.cell? ⟨gb157, 3, none⟩ = some (.slice Ao75 y175.length co75) ∧ Kd.C (Kd.int .u8) w' (some ad158) l0.length l0) (ds := []) #[false, false, false, false, false, false] (by kernel_rfl) rfl rfl ⟨(blk_cell BK157.out 0).trans rfl, (blk_cell BK157.out 1).trans rfl, (blk_cell BK157.out 2).trans rfl, (blk_cell BK157.out 3).trans rfl, (Kd.C_below HR0.out HB.out)⟩ (fun hHeld => ?_)
           generalize w77.drew = w78 at HO177 BK156 BK157 HB hHeld ⊢
           refine pure_ (i := 3) (N := some 49) (v := ?_) (a' := ?_) #[false, false, false, true, false, false] rfl rfl (by kernel_rfl) (fun _ _ _ h => h) (Or.inl ⟨by rfl, ?_⟩) ?_ ?_
           rotate_left
           ·intro w'
            go_simp
            with_reducible rfl
           rotate_left
           ·simp only [Act.put, List.setIfInBounds_toArray, List.set_cons_zero, List.set_cons_succ, i64_w, i32_w]
            rfl
           refine take_ (i := 4) (N := some 50) (v := ?_) (a' := ?_) #[false, false, false, true, true, false] rfl rfl (by kernel_rfl) (fun _ _ _ h => h) (Or.inl ⟨by rfl, ?_⟩) hHeld ?_ ?_
           rotate_left
           ·rintro w' ⟨s0, s1, s2, s3, sC⟩
            have hcv_ := Kd.C_string (P := Try.prog) (A := (some ad158)) (c := c0) Try.underlying22 Try.underlying5 Try.underlying9 sC
            go_simp
            with_reducible rfl
           rotate_left
           ·simp only [Act.put, List.setIfInBounds_toArray, List.set_cons_zero, List.set_cons_succ, i64_w, i32_w]
            rfl
           refine take_ (i := 0) (N := some 46) (v := ?_) (a' := ?_) #[true, false, false, true, true, false] rfl rfl (by kernel_rfl) (fun _ _ _ h => h) (Or.inl ⟨by rfl, ?_⟩) hHeld ?_ ?_
           rotate_left
           ·rintro w' ⟨s0, s1, s2, s3, sC⟩
            go_simp
            with_reducible rfl
           rotate_left
           ·simp only [Act.put, List.setIfInBounds_toArray, List.set_cons_zero, List.set_cons_succ, i64_w, i32_w]
            rfl
           refine one_ (i := 1) (N := some 47) #[true, true, false, true, true, false] rfl rfl (by kernel_rfl) (by decide) (fun K hK => ?_)
           refine goes_ Try.func54 (by kernel_rfl) rfl #[.agg #[.int .i64 (wrap64 (rd l0 0)), .int .i64 0, .float .f64 0, .slice Ao75 y175.length co75]] (by rfl) rfl rfl (by (try simp only [List.map_toArray, List.map_cons, List.map_nil]); first | done | rfl) ?_
           with_reducible refine (spec_KeyBytes.calls kj1 (wrap64 (rd l0 0)) 0 0 _ _ y175 t178 _ ?side1 ?side2 A67.out).mono ?_
           (case side1 => repeat (first | exact (Kd.R_reads' HO177.out).2.2 | (with_reducible refine Kd.C_alloc ?_ _) | (with_reducible refine Kd.C_drewN ?_ _) | (with_reducible refine Kd.C_drew ?_)))
           (case side2 => exact (Kd.R_reads' HO177.out).2.1)
           rintro e w79 ⟨v179, rfl, ho0, hb⟩
           refine ⟨_, rfl, ?_⟩
           have n0_ := Aside0.mk (Kd.R_elder' (Kd.rup HO177.out) (Kd.R_base ho0) hb)
           have n1_ := Aside0.mk (Kd.R_lower (Kd.R_new' ho0 (Kd.R_lt (Kd.rup HO177.out))) (below_size (by with_reducible repeat (first | exact HB.out | refine h4 ?_ GE156.out | refine h4 ?_ GE157.out | apply h1 | apply h2 | apply h3))))
           have n2_ := Aside0.mk (blk_below (g := gb156) (o := .cells #[.int .i64 0, .int .i64 0, .float .f64 0, .slice none 0 0] 25 (0, 0)) (bup BK156.out) hb)
           have n3_ := Aside0.mk (blk_below (g := gb157) (o := .cells #[.int .i64 (wrap64 (rd l0 0)), .int .i64 0, .float .f64 0, .slice Ao75 y175.length co75] 25 (0, 0)) (bup BK157.out) hb)
           have n4_ := Aside0.mk (below_step (by with_reducible repeat (first | exact HB.out | refine h4 ?_ GE156.out | refine h4 ?_ GE157.out | apply h1 | apply h2 | apply h3)) hb)
           clear HO177
           clear BK156
           clear BK157
           clear HB
           have HO177 := n0_
           have HO180 := n1_
           have BK156 := n2_
           have BK157 := n3_
           have HB := n4_
           clear n0_ n1_ n2_ n3_ n4_
           (try clear hb)
           (try clear hb2)
           (try clear hk)
           (try clear hi)
           (try clear ho0)
           have hcv81 := Kd.C_string (P := Try.prog) (A := (some ad158)) (c := c0) Try.underlying22 Try.underlying5 Try.underlying9 (Kd.C_below HR0.out HB.out)
           refine hK.out _ _ ⟨(blk_cell BK157.out 0).trans rfl, (blk_cell BK157.out 1).trans rfl, (blk_cell BK157.out 2).trans rfl, (blk_cell BK157.out 3).trans rfl, (Kd.C_below HR0.out HB.out)⟩ (fun hHeld => ?_)
           clear hK K
           refine norm_ (a' := ?_) ?_ ?_
           rotate_left
           ·show Act.put _ (some 47) _ = _
            simp only [Act.put, List.setIfInBounds_toArray, List.set_cons_zero, List.set_cons_succ, i64_w, i32_w]
            rfl
           refine one_ (i := 2) (N := some 48) #[true, true, true, true, true, false] rfl rfl (by kernel_rfl) (by decide) (fun K hK => ?_)
           have hcv80 := own_string (P := Try.prog) Try.underlying22 Try.underlying5 Try.underlying9 (Kd.own_of_R HO180.out)
           refine value_ (w1 := ?_) (v := ?_) (by rfl) rfl ?_ ?_
           rotate_left 2
           ·go_simp
            constructor
            ·rfl
            ·rfl
           clear hcv80
           refine hK.out _ _ ⟨(blk_cell BK157.out 0).trans rfl, (blk_cell BK157.out 1).trans rfl, (blk_cell BK157.out 2).trans rfl, (blk_cell BK157.out 3).trans rfl, (Kd.C_below HR0.out HB.out)⟩ (fun hHeld => ?_)
           clear hK K
           refine norm_ (a' := ?_) ?_ ?_
           rotate_left
           ·show Act.put _ (some 48) _ = _
            simp only [Act.put, List.setIfInBounds_toArray, List.set_cons_zero, List.set_cons_succ, i64_w, i32_w]
            rfl
           refine pure_ (i := 5) (N := some 51) (v := ?_) (a' := ?_) #[true, true, true, true, true, true] rfl rfl (by kernel_rfl) (fun _ _ _ h => h) (Or.inl ⟨by rfl, ?_⟩) ?_ ?_
           rotate_left
           ·intro w'
            go_simp
            with_reducible rfl
           rotate_left
           ·simp only [Act.put, List.setIfInBounds_toArray, List.set_cons_zero, List.set_cons_succ, i64_w, i32_w]
            rfl
           refine done_ (by kernel_rfl) ?_
           obtain ⟨hcz83_0, hcz83_1, hcz83_2, hcz83_3⟩ := blk_cells4 BK157.out
           obtain ⟨hfz83_0, hfz83_1, hfz83_2, hfz83_3⟩ := blk_frozens4 BK157.out
           obtain ⟨hcz84_0, hcz84_1, hcz84_2, hcz84_3⟩ := blk_cells4 BK156.out
           obtain ⟨hfz84_0, hfz84_1, hfz84_2, hfz84_3⟩ := blk_frozens4 BK156.out
           try go_wp2
           refine bodyPost_ret (results_ct rfl _ _ gb156 25 #[.int .i64 (wrap64 (rd l0 0)), .int .i64 0, .float .f64 0, .slice Ao75 y175.length co75] (0, 0) _ rfl (by (with_reducible repeat (first | refine b1 ?_ _ | refine b2 ?_ | refine b3 ?_ _)); refine blk_put (cs := #[.int .i64 (wrap64 (rd l0 0)), .int .i64 0, .float .f64 0, .slice none 0 0]) ?_ 3 _ rfl; (with_reducible repeat (first | refine b1 ?_ _ | refine b2 ?_ | refine b3 ?_ _)); refine blk_put (cs := #[.int .i64 (wrap64 (rd l0 0)), .int .i64 0, .float .f64 0, .slice none 0 0]) ?_ 2 _ rfl; (with_reducible repeat (first | refine b1 ?_ _ | refine b2 ?_ | refine b3 ?_ _)); refine blk_put (cs := #[.int .i64 (wrap64 (rd l0 0)), .int .i64 0, .float .f64 0, .slice none 0 0]) ?_ 1 _ rfl; (with_reducible repeat (first | refine b1 ?_ _ | refine b2 ?_ | refine b3 ?_ _)); refine blk_put (cs := #[.int .i64 0, .int .i64 0, .float .f64 0, .slice none 0 0]) ?_ 0 _ rfl; exact bup BK156.out) Try.underlying25 rfl (by kernel_rfl)) rfl ?_
           exact ⟨_, _, by first | rfl | (simp [errW_none, errW_some] <;> rfl) | (simp [*, errW_none, errW_some] <;> rfl), by exact Kd.rup (Kd.R_mono (Kd.R_far (p := ⟨gb156, 3, none⟩) (Kd.R_far (p := ⟨gb156, 2, none⟩) (Kd.R_far (p := ⟨gb156, 1, none⟩) (Kd.R_far (p := ⟨gb156, 0, none⟩) (Kd.R_types HO177.out BK156.out (by decide)) (fun _ hk => hk.2) (.int .i64 (wrap64 (rd l0 0)))) (fun _ hk => hk.2) (.int .i64 0)) (fun _ hk => hk.2) (.float .f64 0)) (fun _ hk => hk.2) (.slice Ao75 y175.length co75)) (fun _ hk => trivial)), by with_reducible repeat (first | exact HB.out | refine h4 ?_ GE156.out | refine h4 ?_ GE157.out | apply h1 | apply h2 | apply h3), (by first | exact ⟨⟨by first | rfl | decide, by decide⟩⟩)⟩
          ·rw [if_neg c68] at H
           have c68b0 : ((strOfNums t178).toList == (strOfNums l0).toList) = false := beq_eq_false_iff_ne.mpr c68
           have c68b1 : ((strOfNums t178).toList != (strOfNums l0).toList) = true := bne_iff_ne.mpr c68
           simp only [Option.some.injEq, Prod.mk.injEq] at H
           obtain ⟨rfl, rfl, rfl, rfl, rfl⟩ := H
           have p158 : 0 ≤ (0 : Int) := (by omega)
           have q158 : 0 < (l0.length : Int) := of_decide_eq_true (by first | (with_reducible assumption) | assumption)
           obtain ⟨ad158, e158, hx158_0⟩ := Kd.at_int HR0.out 0 p158 q158
           cases e158
           have qi158 : (0 < l0.length) = True := eq_true (by omega)
           (try rw [show ((0 : Int)).toNat = 0 from rfl] at hx158_0)
           (try rw [Addr.add_zero'] at hx158_0)
           replace hx158_0 := (HB.out.cell (World.block_lt_of_cell? w _ hx158_0)).trans hx158_0
           replace p158 := eq_true p158
           replace q158 := eq_true q158
           have hnb85 := NB157_156.out
           have hnc85 := NB156_157.out
           obtain ⟨hcz86_0, hcz86_1, hcz86_2, hcz86_3⟩ := blk_cells4 BK157.out
           obtain ⟨hfz86_0, hfz86_1, hfz86_2, hfz86_3⟩ := blk_frozens4 BK157.out
           try go_wp2_with (first | ((with_reducible refine gate_dst (N := 41) rfl ?_); (try (refine gate_guard (by rfl) ?_; dsimp only)); refine Kd.R_lit (Kd.int .u8) _ 5 ?hg (N := 41) ?hd (xs := ([] : List Int)) (inner := []) (ok := fun _ => True) (okp := fun _ => True) ?hr ?hp (fun _ hk => hk) trivial (Below.refl _ _) (Nat.le_refl _) (by simp) ?_; (case hd => rfl); (case hg => rfl); (case hr => first | (go_simp; done) | (go_simp; rfl)); (case hp => exact (Reps.none _ _)); intro v172 w87 ho88 hb hg_ hnew_; clear hg_ hnew_; (first | rw [← Ny171.out] at ho88 | (simp only [Int.reduceToNat] at ho88; rw [← Ny171.out] at ho88)); have n0_ := Aside0.mk (Kd.R_lower ho88 (below_size (by with_reducible repeat (first | exact HB.out | refine h4 ?_ GE156.out | refine h4 ?_ GE157.out | apply h1 | apply h2 | apply h3)))); have n1_ := Aside0.mk (blk_below (g := gb156) (o := .cells #[.int .i64 0, .int .i64 0, .float .f64 0, .slice none 0 0] 25 (0, 0)) (by (with_reducible repeat (first | refine b1 ?_ _ | refine b2 ?_ | refine b3 ?_ _)); refine blk_far ?_ NB156_157.out _; exact bup BK156.out) hb); have n2_ := Aside0.mk (blk_below (g := gb157) (o := .cells #[.int .i64 (wrap64 (rd l0 0)), .int .i64 0, .float .f64 0, .slice none 0 0] 25 (0, 0)) (by (with_reducible repeat (first | refine b1 ?_ _ | refine b2 ?_ | refine b3 ?_ _)); refine blk_put (cs := #[.int .i64 0, .int .i64 0, .float .f64 0, .slice none 0 0]) ?_ 0 _ rfl; exact bup BK157.out) hb); have n3_ := Aside0.mk (below_step (by with_reducible repeat (first | exact HB.out | refine h4 ?_ GE156.out | refine h4 ?_ GE157.out | apply h1 | apply h2 | apply h3)) hb); clear BK156; clear BK157; clear HB; have HO173 := n0_; have BK156 := n1_; have BK157 := n2_; have HB := n3_; clear n0_ n1_ n2_ n3_; clear hb ho88; obtain ⟨i089, hi089, _, hsz89, _⟩ := info_parts info5; obtain ⟨A89, hcut89, hA89, hC89⟩ := print_drop_of (P := Try.prog) (Value.int .u8) 0 22 5 .i64 Try.underlying22 hi089 hsz89 (some ad158) c0 l0 1 (by omega) (of_decide_eq_true (by first | (with_reducible assumption) | assumption)) HC0.out; have HR174 := Aside0.mk (Kd.C_of_reads (h1 := fun _ => rfl) (hA89 _ (Kd.reads_of_C HR0.out))); have HC174 := Aside0.mk hC89; clear hA89 hC89 hi089 hsz89) | ((with_reducible refine gate_builtin (b := .append) (xs := #[.tmp 41, .tmp 43]) rfl ?_); (try (refine gate_guard (by rfl) ?_; dsimp only)); at_builtin; refine Kd.R_append_rows (Kd.int .u8) (w0 := w) w.heap.size rfl (.tmp 41) (.tmp 43) 22 5 (.int .u8 0) 1 rfl Try.underlying22 info5 rfl (by decide) (by omega) v172 y171 (l0.drop 1) _ _ _ (fun _ => True) (fun _ => False) rfl rfl ?aO ?aR (fun _ _ h => h) (fun _ h => h.elim) ?aF ?aB ?aS ?aL ?_; (case aR => first | (rw [← show (l0.drop 1).length = (l0.length - 1) from List.length_drop]; repeat (first | exact (Kd.C_below HR174.out HB.out) | (with_reducible refine Kd.C_alloc ?_ _) | (with_reducible refine Kd.C_drewN ?_ _) | (with_reducible refine Kd.C_drew ?_))) | (repeat (first | exact (Kd.C_below HR174.out HB.out) | (with_reducible refine Kd.C_alloc ?_ _) | (with_reducible refine Kd.C_drewN ?_ _) | (with_reducible refine Kd.C_drew ?_)))); (case aB => exact (by with_reducible repeat (first | exact HB.out | refine h4 ?_ GE156.out | refine h4 ?_ GE157.out | apply h1 | apply h2 | apply h3))); (case aF => exact (fun _ _ => trivial)); (case aO => exact (Kd.rup HO173.out)); (case aS => exact (below_size (by with_reducible repeat (first | exact HB.out | refine h4 ?_ GE156.out | refine h4 ?_ GE157.out | apply h1 | apply h2 | apply h3)))); (case aL => have := LMc66.out; have hlx_ := (show (l0.drop 1).length = (l0.length - 1) from List.length_drop); omega); intro v176 w90 ho hb hg hat; rw [← Ny175.out] at ho; have n0_ := Aside0.mk (blk_grown (g := gb156) (o := .cells #[.int .i64 0, .int .i64 0, .float .f64 0, .slice none 0 0] 25 (0, 0)) (bup BK156.out) hg (Kd.R_ne HO173.out BK156.out (by decide))); have n1_ := Aside0.mk (blk_grown (g := gb157) (o := .cells #[.int .i64 (wrap64 (rd l0 0)), .int .i64 0, .float .f64 0, .slice none 0 0] 25 (0, 0)) (bup BK157.out) hg (Kd.R_ne HO173.out BK157.out (by decide))); have n2_ := Aside0.mk (hb); have n3_ := Aside0.mk (ho); clear BK156; clear BK157; clear HB; clear HO173; have BK156 := n0_; have BK157 := n1_; have HB := n2_; have HO177 := n3_; clear n0_ n1_ n2_ n3_; clear ho hb hg hat; obtain ⟨Ao91, co91, eo91⟩ := Kd.R_slice HO177.out; subst eo91; obtain ⟨hcz92_0, hcz92_1, hcz92_2, hcz92_3⟩ := blk_cells4 BK157.out; obtain ⟨hfz92_0, hfz92_1, hfz92_2, hfz92_3⟩ := blk_frozens4 BK157.out))
           have n0_ : Aside0 (Kd.R (Kd.int .u8) 5 (w90.setCell ⟨gb157, 3, none⟩ (.slice Ao91 y175.length co91)) w.heap.size (fun _ => True) (.slice Ao91 y175.length co91) y175) := ⟨by exact Kd.rup (Kd.R_mono (Kd.R_far (p := ⟨gb157, 3, none⟩) (Kd.R_types HO177.out BK157.out (by decide)) (fun _ hk => hk.2) (.slice Ao91 y175.length co91)) (fun _ hk => trivial))⟩
           have n1_ : Aside0 ((w90.setCell ⟨gb157, 3, none⟩ (.slice Ao91 y175.length co91)).heap[gb156]? = some (.cells #[.int .i64 0, .int .i64 0, .float .f64 0, .slice none 0 0] 25 (0, 0))) := ⟨by (with_reducible repeat (first | refine b1 ?_ _ | refine b2 ?_ | refine b3 ?_ _)); refine blk_far ?_ NB156_157.out _; exact bup BK156.out⟩
           have n2_ : Aside0 ((w90.setCell ⟨gb157, 3, none⟩ (.slice Ao91 y175.length co91)).heap[gb157]? = some (.cells #[.int .i64 (wrap64 (rd l0 0)), .int .i64 0, .float .f64 0, .slice Ao91 y175.length co91] 25 (0, 0))) := ⟨by (with_reducible repeat (first | refine b1 ?_ _ | refine b2 ?_ | refine b3 ?_ _)); refine blk_put (cs := #[.int .i64 (wrap64 (rd l0 0)), .int .i64 0, .float .f64 0, .slice none 0 0]) ?_ 3 _ rfl; exact bup BK157.out⟩
           have n3_ : Aside0 (Below w.heap.size w (w90.setCell ⟨gb157, 3, none⟩ (.slice Ao91 y175.length co91))) := ⟨by with_reducible repeat (first | exact HB.out | refine h4 ?_ GE156.out | refine h4 ?_ GE157.out | apply h1 | apply h2 | apply h3)⟩
           (try clear HO177)
           (try clear BK156)
           (try clear BK157)
           (try clear HB)
           generalize (w90.setCell ⟨gb157, 3, none⟩ (.slice Ao91 y175.length co91)) = w93 at n0_ n1_ n2_ n3_ ⊢
           have HO177 := n0_
           have BK156 := n1_
           have BK157 := n2_
           have HB := n3_
           clear n0_ n1_ n2_ n3_
           have n0_ := Aside0.mk (Kd.R_drew HO177.out)
           have n1_ := Aside0.mk (blk_drew BK156.out)
           have n2_ := Aside0.mk (blk_drew BK157.out)
           have n3_ := Aside0.mk (below_drew1 HB.out)
           clear HO177
           clear BK156
           clear BK157
           clear HB
           have HO177 := n0_
           have BK156 := n1_
           have BK157 := n2_
           have HB := n3_
           clear n0_ n1_ n2_ n3_
           refine start_ (n := 6) (S := fun w' => w'.cell? ⟨gb157, 0, none⟩ = some (.int .i64 (wrap64 (rd l0 0))) ∧ w'.cell? ⟨gb157, 1, none⟩ = some (.int .i64 0) ∧ w'.cell? ⟨gb157, 2, none⟩ = some (.float .f64 0) ∧ w'.cell? ⟨gb157, 3, none⟩ = some (.slice Ao91 y175.length co91) ∧ Kd.C (Kd.int .u8) w' (some ad158) l0.length l0) (ds := []) #[false, false, false, false, false, false] (by kernel_rfl) rfl rfl ⟨(blk_cell BK157.out 0).trans rfl, (blk_cell BK157.out 1).trans rfl, (blk_cell BK157.out 2).trans rfl, (blk_cell BK157.out 3).trans rfl, (Kd.C_below HR0.out HB.out)⟩ (fun hHeld => ?_)
           generalize w93.drew = w94 at HO177 BK156 BK157 HB hHeld ⊢
           refine pure_ (i := 3) (N := some 49) (v := ?_) (a' := ?_) #[false, false, false, true, false, false] rfl rfl (by kernel_rfl) (fun _ _ _ h => h) (Or.inl ⟨by rfl, ?_⟩) ?_ ?_
           rotate_left
           ·intro w'
            go_simp
            with_reducible rfl
           rotate_left
           ·simp only [Act.put, List.setIfInBounds_toArray, List.set_cons_zero, List.set_cons_succ, i64_w, i32_w]
            rfl
           refine take_ (i := 4) (N := some 50) (v := ?_) (a' := ?_) #[false, false, false, true, true, false] rfl rfl (by kernel_rfl) (fun _ _ _ h => h) (Or.inl ⟨by rfl, ?_⟩) hHeld ?_ ?_
           rotate_left
           ·rintro w' ⟨s0, s1, s2, s3, sC⟩
            have hcv_ := Kd.C_string (P := Try.prog) (A := (some ad158)) (c := c0) Try.underlying22 Try.underlying5 Try.underlying9 sC
            go_simp
            with_reducible rfl
           rotate_left
           ·simp only [Act.put, List.setIfInBounds_toArray, List.set_cons_zero, List.set_cons_succ, i64_w, i32_w]
            rfl
           refine take_ (i := 0) (N := some 46) (v := ?_) (a' := ?_) #[true, false, false, true, true, false] rfl rfl (by kernel_rfl) (fun _ _ _ h => h) (Or.inl ⟨by rfl, ?_⟩) hHeld ?_ ?_
           rotate_left
           ·rintro w' ⟨s0, s1, s2, s3, sC⟩
            go_simp
            with_reducible rfl
           rotate_left
           ·simp only [Act.put, List.setIfInBounds_toArray, List.set_cons_zero, List.set_cons_succ, i64_w, i32_w]
            rfl
           refine one_ (i := 1) (N := some 47) #[true, true, false, true, true, false] rfl rfl (by kernel_rfl) (by decide) (fun K hK => ?_)
           refine goes_ Try.func54 (by kernel_rfl) rfl #[.agg #[.int .i64 (wrap64 (rd l0 0)), .int .i64 0, .float .f64 0, .slice Ao91 y175.length co91]] (by rfl) rfl rfl (by (try simp only [List.map_toArray, List.map_cons, List.map_nil]); first | done | rfl) ?_
           with_reducible refine (spec_KeyBytes.calls kj1 (wrap64 (rd l0 0)) 0 0 _ _ y175 t178 _ ?side1 ?side2 A67.out).mono ?_
           (case side1 => repeat (first | exact (Kd.R_reads' HO177.out).2.2 | (with_reducible refine Kd.C_alloc ?_ _) | (with_reducible refine Kd.C_drewN ?_ _) | (with_reducible refine Kd.C_drew ?_)))
           (case side2 => exact (Kd.R_reads' HO177.out).2.1)
           rintro e w95 ⟨v179, rfl, ho0, hb⟩
           refine ⟨_, rfl, ?_⟩
           have n0_ := Aside0.mk (Kd.R_elder' (Kd.rup HO177.out) (Kd.R_base ho0) hb)
           have n1_ := Aside0.mk (Kd.R_lower (Kd.R_new' ho0 (Kd.R_lt (Kd.rup HO177.out))) (below_size (by with_reducible repeat (first | exact HB.out | refine h4 ?_ GE156.out | refine h4 ?_ GE157.out | apply h1 | apply h2 | apply h3))))
           have n2_ := Aside0.mk (blk_below (g := gb156) (o := .cells #[.int .i64 0, .int .i64 0, .float .f64 0, .slice none 0 0] 25 (0, 0)) (bup BK156.out) hb)
           have n3_ := Aside0.mk (blk_below (g := gb157) (o := .cells #[.int .i64 (wrap64 (rd l0 0)), .int .i64 0, .float .f64 0, .slice Ao91 y175.length co91] 25 (0, 0)) (bup BK157.out) hb)
           have n4_ := Aside0.mk (below_step (by with_reducible repeat (first | exact HB.out | refine h4 ?_ GE156.out | refine h4 ?_ GE157.out | apply h1 | apply h2 | apply h3)) hb)
           clear HO177
           clear BK156
           clear BK157
           clear HB
           have HO177 := n0_
           have HO180 := n1_
           have BK156 := n2_
           have BK157 := n3_
           have HB := n4_
           clear n0_ n1_ n2_ n3_ n4_
           (try clear hb)
           (try clear hb2)
           (try clear hk)
           (try clear hi)
           (try clear ho0)
           have hcv97 := Kd.C_string (P := Try.prog) (A := (some ad158)) (c := c0) Try.underlying22 Try.underlying5 Try.underlying9 (Kd.C_below HR0.out HB.out)
           refine hK.out _ _ ⟨(blk_cell BK157.out 0).trans rfl, (blk_cell BK157.out 1).trans rfl, (blk_cell BK157.out 2).trans rfl, (blk_cell BK157.out 3).trans rfl, (Kd.C_below HR0.out HB.out)⟩ (fun hHeld => ?_)
           clear hK K
           refine norm_ (a' := ?_) ?_ ?_
           rotate_left
           ·show Act.put _ (some 47) _ = _
            simp only [Act.put, List.setIfInBounds_toArray, List.set_cons_zero, List.set_cons_succ, i64_w, i32_w]
            rfl
           refine one_ (i := 2) (N := some 48) #[true, true, true, true, true, false] rfl rfl (by kernel_rfl) (by decide) (fun K hK => ?_)
           have hcv96 := own_string (P := Try.prog) Try.underlying22 Try.underlying5 Try.underlying9 (Kd.own_of_R HO180.out)
           refine value_ (w1 := ?_) (v := ?_) (by rfl) rfl ?_ ?_
           rotate_left 2
           ·go_simp
            constructor
            ·rfl
            ·rfl
           clear hcv96
           refine hK.out _ _ ⟨(blk_cell BK157.out 0).trans rfl, (blk_cell BK157.out 1).trans rfl, (blk_cell BK157.out 2).trans rfl, (blk_cell BK157.out 3).trans rfl, (Kd.C_below HR0.out HB.out)⟩ (fun hHeld => ?_)
           clear hK K
           refine norm_ (a' := ?_) ?_ ?_
           rotate_left
           ·show Act.put _ (some 48) _ = _
            simp only [Act.put, List.setIfInBounds_toArray, List.set_cons_zero, List.set_cons_succ, i64_w, i32_w]
            rfl
           refine pure_ (i := 5) (N := some 51) (v := ?_) (a' := ?_) #[true, true, true, true, true, true] rfl rfl (by kernel_rfl) (fun _ _ _ h => h) (Or.inl ⟨by rfl, ?_⟩) ?_ ?_
           rotate_left
           ·intro w'
            go_simp
            with_reducible rfl
           rotate_left
           ·simp only [Act.put, List.setIfInBounds_toArray, List.set_cons_zero, List.set_cons_succ, i64_w, i32_w]
            rfl
           refine done_ (by kernel_rfl) ?_
           obtain ⟨hcz99_0, hcz99_1, hcz99_2, hcz99_3⟩ := blk_cells4 BK156.out
           obtain ⟨hfz99_0, hfz99_1, hfz99_2, hfz99_3⟩ := blk_frozens4 BK156.out
           try go_wp2
           refine bodyPost_ret (results_ct rfl _ _ gb156 25 #[.int .i64 0, .int .i64 0, .float .f64 0, .slice none 0 0] (0, 0) _ rfl (by (with_reducible repeat (first | refine b1 ?_ _ | refine b2 ?_ | refine b3 ?_ _)); refine blk_put (cs := #[.int .i64 0, .int .i64 0, .float .f64 0, .slice none 0 0]) ?_ 3 _ rfl; (with_reducible repeat (first | refine b1 ?_ _ | refine b2 ?_ | refine b3 ?_ _)); refine blk_put (cs := #[.int .i64 0, .int .i64 0, .float .f64 0, .slice none 0 0]) ?_ 2 _ rfl; (with_reducible repeat (first | refine b1 ?_ _ | refine b2 ?_ | refine b3 ?_ _)); refine blk_put (cs := #[.int .i64 0, .int .i64 0, .float .f64 0, .slice none 0 0]) ?_ 1 _ rfl; (with_reducible repeat (first | refine b1 ?_ _ | refine b2 ?_ | refine b3 ?_ _)); refine blk_put (cs := #[.int .i64 0, .int .i64 0, .float .f64 0, .slice none 0 0]) ?_ 0 _ rfl; exact bup BK156.out) Try.underlying25 rfl (by kernel_rfl)) rfl ?_
           exact ⟨_, _, by first | rfl | (simp [errW_none, errW_some] <;> rfl) | (simp [*, errW_none, errW_some] <;> rfl), by first | exact Kd.R_nil _ _ _ _ _ | exact Kd.N_nil _ _ _ _ _ | exact Kd.V_nil _ _ _ _ _ | exact Kd.Q_nil _ _ _ _ _ | exact Kd.S_nil _ _ _ _ _, by with_reducible repeat (first | exact HB.out | refine h4 ?_ GE156.out | refine h4 ?_ GE157.out | apply h1 | apply h2 | apply h3), (by first | exact ⟨⟨by first | rfl | decide, by decide⟩⟩)⟩
         ·rw [if_neg c66] at H
          exact absurd H (by simp)
        ·rw [if_neg c65] at H
         exact absurd H (by simp)
       ·rw [if_neg c64] at H
        have c64b0 : ((wrap64 (rd l0 0)) == 3) = false := beq_eq_false_iff_ne.mpr c64
        have c64b1 : ((wrap64 (rd l0 0)) != 3) = true := bne_iff_ne.mpr c64
        replace H := Option.bind_eq_some_iff.mp H
        obtain ⟨t181, A1000, H⟩ := H
        replace H : (if (strOfNums t181).toList = (strOfNums l0).toList then (some (wrap64 (rd l0 0), 0, 0, ([] : List Int), true)) else (some (0, 0, 0, ([] : List Int), false))) = some (r1, r2, r3, r4, r5) := H
        have A100 := Aside0.mk A1000
        clear A1000
        by_cases c101 : (strOfNums t181).toList = (strOfNums l0).toList
        ·rw [if_pos c101] at H
         have c101b0 : ((strOfNums t181).toList == (strOfNums l0).toList) = true := beq_iff_eq.mpr c101
         have c101b1 : ((strOfNums t181).toList != (strOfNums l0).toList) = false := bne_eq_false_iff_eq.mpr c101
         clear c101
         simp only [Option.some.injEq, Prod.mk.injEq] at H
         obtain ⟨rfl, rfl, rfl, rfl, rfl⟩ := H
         have p158 : 0 ≤ (0 : Int) := (by omega)
         have q158 : 0 < (l0.length : Int) := of_decide_eq_true (by first | (with_reducible assumption) | assumption)
         obtain ⟨ad158, e158, hx158_0⟩ := Kd.at_int HR0.out 0 p158 q158
         cases e158
         have qi158 : (0 < l0.length) = True := eq_true (by omega)
         (try rw [show ((0 : Int)).toNat = 0 from rfl] at hx158_0)
         (try rw [Addr.add_zero'] at hx158_0)
         replace hx158_0 := (HB.out.cell (World.block_lt_of_cell? w _ hx158_0)).trans hx158_0
         replace p158 := eq_true p158
         replace q158 := eq_true q158
         have hnb102 := NB157_156.out
         have hnc102 := NB156_157.out
         obtain ⟨hcz103_0, hcz103_1, hcz103_2, hcz103_3⟩ := blk_cells4 BK157.out
         obtain ⟨hfz103_0, hfz103_1, hfz103_2, hfz103_3⟩ := blk_frozens4 BK157.out
         try go_wp2
         have n0_ : Aside0 ((wc.setCell ⟨gb157, 0, none⟩ (.int .i64 (wrap64 (rd l0 0)))).heap[gb156]? = some (.cells #[.int .i64 0, .int .i64 0, .float .f64 0, .slice none 0 0] 25 (0, 0))) := ⟨by (with_reducible repeat (first | refine b1 ?_ _ | refine b2 ?_ | refine b3 ?_ _)); refine blk_far ?_ NB156_157.out _; exact bup BK156.out⟩
         have n1_ : Aside0 ((wc.setCell ⟨gb157, 0, none⟩ (.int .i64 (wrap64 (rd l0 0)))).heap[gb157]? = some (.cells #[.int .i64 (wrap64 (rd l0 0)), .int .i64 0, .float .f64 0, .slice none 0 0] 25 (0, 0))) := ⟨by (with_reducible repeat (first | refine b1 ?_ _ | refine b2 ?_ | refine b3 ?_ _)); refine blk_put (cs := #[.int .i64 0, .int .i64 0, .float .f64 0, .slice none 0 0]) ?_ 0 _ rfl; exact bup BK157.out⟩
         have n2_ : Aside0 (Below w.heap.size w (wc.setCell ⟨gb157, 0, none⟩ (.int .i64 (wrap64 (rd l0 0))))) := ⟨by with_reducible repeat (first | exact HB.out | refine h4 ?_ GE156.out | refine h4 ?_ GE157.out | apply h1 | apply h2 | apply h3)⟩
         (try clear BK156)
         (try clear BK157)
         (try clear HB)
         generalize (wc.setCell ⟨gb157, 0, none⟩ (.int .i64 (wrap64 (rd l0 0)))) = w104 at n0_ n1_ n2_ ⊢
         have BK156 := n0_
         have BK157 := n1_
         have HB := n2_
         clear n0_ n1_ n2_
         have n0_ := Aside0.mk (blk_drew BK156.out)
         have n1_ := Aside0.mk (blk_drew BK157.out)
         have n2_ := Aside0.mk (below_drew1 HB.out)
         clear BK156
         clear BK157
         clear HB
         have BK156 := n0_
         have BK157 := n1_
         have HB := n2_
         clear n0_ n1_ n2_
         refine start_ (n := 6) (S := fun w' => w'.cell? ⟨gb157, 0, none⟩ = some (.int .i64 (wrap64 (rd l0 0))) ∧ w'.cell? ⟨gb157, 1, none⟩ = some (.int .i64 0) ∧ w'.cell? ⟨gb157, 2, none⟩ = some (.float .f64 0) ∧ w'.cell? ⟨gb157, 3, none⟩ = some (.slice none 0 0) ∧ Kd.C (Kd.int .u8) w' (some ad158) l0.length l0) (ds := []) #[false, false, false, false, false, false] (by kernel_rfl) rfl rfl ⟨(blk_cell BK157.out 0).trans rfl, (blk_cell BK157.out 1).trans rfl, (blk_cell BK157.out 2).trans rfl, (blk_cell BK157.out 3).trans rfl, (Kd.C_below HR0.out HB.out)⟩ (fun hHeld => ?_)
         generalize w104.drew = w105 at BK156 BK157 HB hHeld ⊢
         refine pure_ (i := 3) (N := some 49) (v := ?_) (a' := ?_) #[false, false, false, true, false, false] rfl rfl (by kernel_rfl) (fun _ _ _ h => h) (Or.inl ⟨by rfl, ?_⟩) ?_ ?_
         rotate_left
         ·intro w'
          go_simp
          with_reducible rfl
         rotate_left
         ·simp only [Act.put, List.setIfInBounds_toArray, List.set_cons_zero, List.set_cons_succ, i64_w, i32_w]
          rfl
         refine take_ (i := 4) (N := some 50) (v := ?_) (a' := ?_) #[false, false, false, true, true, false] rfl rfl (by kernel_rfl) (fun _ _ _ h => h) (Or.inl ⟨by rfl, ?_⟩) hHeld ?_ ?_
         rotate_left
         ·rintro w' ⟨s0, s1, s2, s3, sC⟩
          have hcv_ := Kd.C_string (P := Try.prog) (A := (some ad158)) (c := c0) Try.underlying22 Try.underlying5 Try.underlying9 sC
          go_simp
          with_reducible rfl
         rotate_left
         ·simp only [Act.put, List.setIfInBounds_toArray, List.set_cons_zero, List.set_cons_succ, i64_w, i32_w]
          rfl
         refine take_ (i := 0) (N := some 46) (v := ?_) (a' := ?_) #[true, false, false, true, true, false] rfl rfl (by kernel_rfl) (fun _ _ _ h => h) (Or.inl ⟨by rfl, ?_⟩) hHeld ?_ ?_
         rotate_left
         ·rintro w' ⟨s0, s1, s2, s3, sC⟩
          go_simp
          with_reducible rfl
         rotate_left
         ·simp only [Act.put, List.setIfInBounds_toArray, List.set_cons_zero, List.set_cons_succ, i64_w, i32_w]
          rfl
         refine one_ (i := 1) (N := some 47) #[true, true, false, true, true, false] rfl rfl (by kernel_rfl) (by decide) (fun K hK => ?_)
         refine goes_ Try.func54 (by kernel_rfl) rfl #[.agg #[.int .i64 (wrap64 (rd l0 0)), .int .i64 0, .float .f64 0, .slice none 0 0]] (by rfl) rfl rfl (by (try simp only [List.map_toArray, List.map_cons, List.map_nil]); first | done | rfl) ?_
         refine (spec_KeyBytes.calls kj1 (wrap64 (rd l0 0)) 0 0 _ _ ([] : List Int) t181 _ ?side1 ?side2 A100.out).mono ?_
         (case side1 => exact Kd.C_nil _ _)
         (case side2 => exact Nat.le_refl _)
         rintro e w106 ⟨v182, rfl, ho0, hb⟩
         refine ⟨_, rfl, ?_⟩
         have n0_ := Aside0.mk (Kd.R_lower ho0 (below_size (by with_reducible repeat (first | exact HB.out | refine h4 ?_ GE156.out | refine h4 ?_ GE157.out | apply h1 | apply h2 | apply h3))))
         have n1_ := Aside0.mk (blk_below (g := gb156) (o := .cells #[.int .i64 0, .int .i64 0, .float .f64 0, .slice none 0 0] 25 (0, 0)) (bup BK156.out) hb)
         have n2_ := Aside0.mk (blk_below (g := gb157) (o := .cells #[.int .i64 (wrap64 (rd l0 0)), .int .i64 0, .float .f64 0, .slice none 0 0] 25 (0, 0)) (bup BK157.out) hb)
         have n3_ := Aside0.mk (below_step (by with_reducible repeat (first | exact HB.out | refine h4 ?_ GE156.out | refine h4 ?_ GE157.out | apply h1 | apply h2 | apply h3)) hb)
         clear BK156
         clear BK157
         clear HB
         have HO183 := n0_
         have BK156 := n1_
         have BK157 := n2_
         have HB := n3_
         clear n0_ n1_ n2_ n3_
         (try clear hb)
         (try clear hb2)
         (try clear hk)
         (try clear hi)
         (try clear ho0)
         have hcv108 := Kd.C_string (P := Try.prog) (A := (some ad158)) (c := c0) Try.underlying22 Try.underlying5 Try.underlying9 (Kd.C_below HR0.out HB.out)
         refine hK.out _ _ ⟨(blk_cell BK157.out 0).trans rfl, (blk_cell BK157.out 1).trans rfl, (blk_cell BK157.out 2).trans rfl, (blk_cell BK157.out 3).trans rfl, (Kd.C_below HR0.out HB.out)⟩ (fun hHeld => ?_)
         clear hK K
         refine norm_ (a' := ?_) ?_ ?_
         rotate_left
         ·show Act.put _ (some 47) _ = _
          simp only [Act.put, List.setIfInBounds_toArray, List.set_cons_zero, List.set_cons_succ, i64_w, i32_w]
          rfl
         refine one_ (i := 2) (N := some 48) #[true, true, true, true, true, false] rfl rfl (by kernel_rfl) (by decide) (fun K hK => ?_)
         have hcv107 := own_string (P := Try.prog) Try.underlying22 Try.underlying5 Try.underlying9 (Kd.own_of_R HO183.out)
         refine value_ (w1 := ?_) (v := ?_) (by rfl) rfl ?_ ?_
         rotate_left 2
         ·go_simp
          constructor
          ·rfl
          ·rfl
         clear hcv107
         refine hK.out _ _ ⟨(blk_cell BK157.out 0).trans rfl, (blk_cell BK157.out 1).trans rfl, (blk_cell BK157.out 2).trans rfl, (blk_cell BK157.out 3).trans rfl, (Kd.C_below HR0.out HB.out)⟩ (fun hHeld => ?_)
         clear hK K
         refine norm_ (a' := ?_) ?_ ?_
         rotate_left
         ·show Act.put _ (some 48) _ = _
          simp only [Act.put, List.setIfInBounds_toArray, List.set_cons_zero, List.set_cons_succ, i64_w, i32_w]
          rfl
         refine pure_ (i := 5) (N := some 51) (v := ?_) (a' := ?_) #[true, true, true, true, true, true] rfl rfl (by kernel_rfl) (fun _ _ _ h => h) (Or.inl ⟨by rfl, ?_⟩) ?_ ?_
         rotate_left
         ·intro w'
          go_simp
          with_reducible rfl
         rotate_left
         ·simp only [Act.put, List.setIfInBounds_toArray, List.set_cons_zero, List.set_cons_succ, i64_w, i32_w]
          rfl
         refine done_ (by kernel_rfl) ?_
         obtain ⟨hcz110_0, hcz110_1, hcz110_2, hcz110_3⟩ := blk_cells4 BK157.out
         obtain ⟨hfz110_0, hfz110_1, hfz110_2, hfz110_3⟩ := blk_frozens4 BK157.out
         obtain ⟨hcz111_0, hcz111_1, hcz111_2, hcz111_3⟩ := blk_cells4 BK156.out
         obtain ⟨hfz111_0, hfz111_1, hfz111_2, hfz111_3⟩ := blk_frozens4 BK156.out
         try go_wp2
         refine bodyPost_ret (results_ct rfl _ _ gb156 25 #[.int .i64 (wrap64 (rd l0 0)), .int .i64 0, .float .f64 0, .slice none 0 0] (0, 0) _ rfl (by (with_reducible repeat (first | refine b1 ?_ _ | refine b2 ?_ | refine b3 ?_ _)); refine blk_put (cs := #[.int .i64 (wrap64 (rd l0 0)), .int .i64 0, .float .f64 0, .slice none 0 0]) ?_ 3 _ rfl; (with_reducible repeat (first | refine b1 ?_ _ | refine b2 ?_ | refine b3 ?_ _)); refine blk_put (cs := #[.int .i64 (wrap64 (rd l0 0)), .int .i64 0, .float .f64 0, .slice none 0 0]) ?_ 2 _ rfl; (with_reducible repeat (first | refine b1 ?_ _ | refine b2 ?_ | refine b3 ?_ _)); refine blk_put (cs := #[.int .i64 (wrap64 (rd l0 0)), .int .i64 0, .float .f64 0, .slice none 0 0]) ?_ 1 _ rfl; (with_reducible repeat (first | refine b1 ?_ _ | refine b2 ?_ | refine b3 ?_ _)); refine blk_put (cs := #[.int .i64 0, .int .i64 0, .float .f64 0, .slice none 0 0]) ?_ 0 _ rfl; exact bup BK156.out) Try.underlying25 rfl (by kernel_rfl)) rfl ?_
         exact ⟨_, _, by first | rfl | (simp [errW_none, errW_some] <;> rfl) | (simp [*, errW_none, errW_some] <;> rfl), by first | exact Kd.R_nil _ _ _ _ _ | exact Kd.N_nil _ _ _ _ _ | exact Kd.V_nil _ _ _ _ _ | exact Kd.Q_nil _ _ _ _ _ | exact Kd.S_nil _ _ _ _ _, by with_reducible repeat (first | exact HB.out | refine h4 ?_ GE156.out | refine h4 ?_ GE157.out | apply h1 | apply h2 | apply h3), (by first | exact ⟨⟨by first | rfl | decide, by decide⟩⟩)⟩
        ·rw [if_neg c101] at H
         have c101b0 : ((strOfNums t181).toList == (strOfNums l0).toList) = false := beq_eq_false_iff_ne.mpr c101
         have c101b1 : ((strOfNums t181).toList != (strOfNums l0).toList) = true := bne_iff_ne.mpr c101
         simp only [Option.some.injEq, Prod.mk.injEq] at H
         obtain ⟨rfl, rfl, rfl, rfl, rfl⟩ := H
         have p158 : 0 ≤ (0 : Int) := (by omega)
         have q158 : 0 < (l0.length : Int) := of_decide_eq_true (by first | (with_reducible assumption) | assumption)
         obtain ⟨ad158, e158, hx158_0⟩ := Kd.at_int HR0.out 0 p158 q158
         cases e158
         have qi158 : (0 < l0.length) = True := eq_true (by omega)
         (try rw [show ((0 : Int)).toNat = 0 from rfl] at hx158_0)
         (try rw [Addr.add_zero'] at hx158_0)
         replace hx158_0 := (HB.out.cell (World.block_lt_of_cell? w _ hx158_0)).trans hx158_0
         replace p158 := eq_true p158
         replace q158 := eq_true q158
         have hnb112 := NB157_156.out
         have hnc112 := NB156_157.out
         obtain ⟨hcz113_0, hcz113_1, hcz113_2, hcz113_3⟩ := blk_cells4 BK157.out
         obtain ⟨hfz113_0, hfz113_1, hfz113_2, hfz113_3⟩ := blk_frozens4 BK157.out
         try go_wp2
         have n0_ : Aside0 ((wc.setCell ⟨gb157, 0, none⟩ (.int .i64 (wrap64 (rd l0 0)))).heap[gb156]? = some (.cells #[.int .i64 0, .int .i64 0, .float .f64 0, .slice none 0 0] 25 (0, 0))) := ⟨by (with_reducible repeat (first | refine b1 ?_ _ | refine b2 ?_ | refine b3 ?_ _)); refine blk_far ?_ NB156_157.out _; exact bup BK156.out⟩
         have n1_ : Aside0 ((wc.setCell ⟨gb157, 0, none⟩ (.int .i64 (wrap64 (rd l0 0)))).heap[gb157]? = some (.cells #[.int .i64 (wrap64 (rd l0 0)), .int .i64 0, .float .f64 0, .slice none 0 0] 25 (0, 0))) := ⟨by (with_reducible repeat (first | refine b1 ?_ _ | refine b2 ?_ | refine b3 ?_ _)); refine blk_put (cs := #[.int .i64 0, .int .i64 0, .float .f64 0, .slice none 0 0]) ?_ 0 _ rfl; exact bup BK157.out⟩
         have n2_ : Aside0 (Below w.heap.size w (wc.setCell ⟨gb157, 0, none⟩ (.int .i64 (wrap64 (rd l0 0))))) := ⟨by with_reducible repeat (first | exact HB.out | refine h4 ?_ GE156.out | refine h4 ?_ GE157.out | apply h1 | apply h2 | apply h3)⟩
         (try clear BK156)
         (try clear BK157)
         (try clear HB)
         generalize (wc.setCell ⟨gb157, 0, none⟩ (.int .i64 (wrap64 (rd l0 0)))) = w114 at n0_ n1_ n2_ ⊢
         have BK156 := n0_
         have BK157 := n1_
         have HB := n2_
         clear n0_ n1_ n2_
         have n0_ := Aside0.mk (blk_drew BK156.out)
         have n1_ := Aside0.mk (blk_drew BK157.out)
         have n2_ := Aside0.mk (below_drew1 HB.out)
         clear BK156
         clear BK157
         clear HB
         have BK156 := n0_
         have BK157 := n1_
         have HB := n2_
         clear n0_ n1_ n2_
         refine start_ (n := 6) (S := fun w' => w'.cell? ⟨gb157, 0, none⟩ = some (.int .i64 (wrap64 (rd l0 0))) ∧ w'.cell? ⟨gb157, 1, none⟩ = some (.int .i64 0) ∧ w'.cell? ⟨gb157, 2, none⟩ = some (.float .f64 0) ∧ w'.cell? ⟨gb157, 3, none⟩ = some (.slice none 0 0) ∧ Kd.C (Kd.int .u8) w' (some ad158) l0.length l0) (ds := []) #[false, false, false, false, false, false] (by kernel_rfl) rfl rfl ⟨(blk_cell BK157.out 0).trans rfl, (blk_cell BK157.out 1).trans rfl, (blk_cell BK157.out 2).trans rfl, (blk_cell BK157.out 3).trans rfl, (Kd.C_below HR0.out HB.out)⟩ (fun hHeld => ?_)
         generalize w114.drew = w115 at BK156 BK157 HB hHeld ⊢
         refine pure_ (i := 3) (N := some 49) (v := ?_) (a' := ?_) #[false, false, false, true, false, false] rfl rfl (by kernel_rfl) (fun _ _ _ h => h) (Or.inl ⟨by rfl, ?_⟩) ?_ ?_
         rotate_left
         ·intro w'
          go_simp
          with_reducible rfl
         rotate_left
         ·simp only [Act.put, List.setIfInBounds_toArray, List.set_cons_zero, List.set_cons_succ, i64_w, i32_w]
          rfl
         refine take_ (i := 4) (N := some 50) (v := ?_) (a' := ?_) #[false, false, false, true, true, false] rfl rfl (by kernel_rfl) (fun _ _ _ h => h) (Or.inl ⟨by rfl, ?_⟩) hHeld ?_ ?_
         rotate_left
         ·rintro w' ⟨s0, s1, s2, s3, sC⟩
          have hcv_ := Kd.C_string (P := Try.prog) (A := (some ad158)) (c := c0) Try.underlying22 Try.underlying5 Try.underlying9 sC
          go_simp
          with_reducible rfl
         rotate_left
         ·simp only [Act.put, List.setIfInBounds_toArray, List.set_cons_zero, List.set_cons_succ, i64_w, i32_w]
          rfl
         refine take_ (i := 0) (N := some 46) (v := ?_) (a' := ?_) #[true, false, false, true, true, false] rfl rfl (by kernel_rfl) (fun _ _ _ h => h) (Or.inl ⟨by rfl, ?_⟩) hHeld ?_ ?_
         rotate_left
         ·rintro w' ⟨s0, s1, s2, s3, sC⟩
          go_simp
          with_reducible rfl
         rotate_left
         ·simp only [Act.put, List.setIfInBounds_toArray, List.set_cons_zero, List.set_cons_succ, i64_w, i32_w]
          rfl
         refine one_ (i := 1) (N := some 47) #[true, true, false, true, true, false] rfl rfl (by kernel_rfl) (by decide) (fun K hK => ?_)
         refine goes_ Try.func54 (by kernel_rfl) rfl #[.agg #[.int .i64 (wrap64 (rd l0 0)), .int .i64 0, .float .f64 0, .slice none 0 0]] (by rfl) rfl rfl (by (try simp only [List.map_toArray, List.map_cons, List.map_nil]); first | done | rfl) ?_
         refine (spec_KeyBytes.calls kj1 (wrap64 (rd l0 0)) 0 0 _ _ ([] : List Int) t181 _ ?side1 ?side2 A100.out).mono ?_
         (case side1 => exact Kd.C_nil _ _)
         (case side2 => exact Nat.le_refl _)
         rintro e w116 ⟨v182, rfl, ho0, hb⟩
         refine ⟨_, rfl, ?_⟩
         have n0_ := Aside0.mk (Kd.R_lower ho0 (below_size (by with_reducible repeat (first | exact HB.out | refine h4 ?_ GE156.out | refine h4 ?_ GE157.out | apply h1 | apply h2 | apply h3))))
         have n1_ := Aside0.mk (blk_below (g := gb156) (o := .cells #[.int .i64 0, .int .i64 0, .float .f64 0, .slice none 0 0] 25 (0, 0)) (bup BK156.out) hb)
         have n2_ := Aside0.mk (blk_below (g := gb157) (o := .cells #[.int .i64 (wrap64 (rd l0 0)), .int .i64 0, .float .f64 0, .slice none 0 0] 25 (0, 0)) (bup BK157.out) hb)
         have n3_ := Aside0.mk (below_step (by with_reducible repeat (first | exact HB.out | refine h4 ?_ GE156.out | refine h4 ?_ GE157.out | apply h1 | apply h2 | apply h3)) hb)
         clear BK156
         clear BK157
         clear HB
         have HO183 := n0_
         have BK156 := n1_
         have BK157 := n2_
         have HB := n3_
         clear n0_ n1_ n2_ n3_
         (try clear hb)
         (try clear hb2)
         (try clear hk)
         (try clear hi)
         (try clear ho0)
         have hcv118 := Kd.C_string (P := Try.prog) (A := (some ad158)) (c := c0) Try.underlying22 Try.underlying5 Try.underlying9 (Kd.C_below HR0.out HB.out)
         refine hK.out _ _ ⟨(blk_cell BK157.out 0).trans rfl, (blk_cell BK157.out 1).trans rfl, (blk_cell BK157.out 2).trans rfl, (blk_cell BK157.out 3).trans rfl, (Kd.C_below HR0.out HB.out)⟩ (fun hHeld => ?_)
         clear hK K
         refine norm_ (a' := ?_) ?_ ?_
         rotate_left
         ·show Act.put _ (some 47) _ = _
          simp only [Act.put, List.setIfInBounds_toArray, List.set_cons_zero, List.set_cons_succ, i64_w, i32_w]
          rfl
         refine one_ (i := 2) (N := some 48) #[true, true, true, true, true, false] rfl rfl (by kernel_rfl) (by decide) (fun K hK => ?_)
         have hcv117 := own_string (P := Try.prog) Try.underlying22 Try.underlying5 Try.underlying9 (Kd.own_of_R HO183.out)
         refine value_ (w1 := ?_) (v := ?_) (by rfl) rfl ?_ ?_
         rotate_left 2
         ·go_simp
          constructor
          ·rfl
          ·rfl
         clear hcv117
         refine hK.out _ _ ⟨(blk_cell BK157.out 0).trans rfl, (blk_cell BK157.out 1).trans rfl, (blk_cell BK157.out 2).trans rfl, (blk_cell BK157.out 3).trans rfl, (Kd.C_below HR0.out HB.out)⟩ (fun hHeld => ?_)
         clear hK K
         refine norm_ (a' := ?_) ?_ ?_
         rotate_left
         ·show Act.put _ (some 48) _ = _
          simp only [Act.put, List.setIfInBounds_toArray, List.set_cons_zero, List.set_cons_succ, i64_w, i32_w]
          rfl
         refine pure_ (i := 5) (N := some 51) (v := ?_) (a' := ?_) #[true, true, true, true, true, true] rfl rfl (by kernel_rfl) (fun _ _ _ h => h) (Or.inl ⟨by rfl, ?_⟩) ?_ ?_
         rotate_left
         ·intro w'
          go_simp
          with_reducible rfl
         rotate_left
         ·simp only [Act.put, List.setIfInBounds_toArray, List.set_cons_zero, List.set_cons_succ, i64_w, i32_w]
          rfl
         refine done_ (by kernel_rfl) ?_
         obtain ⟨hcz120_0, hcz120_1, hcz120_2, hcz120_3⟩ := blk_cells4 BK156.out
         obtain ⟨hfz120_0, hfz120_1, hfz120_2, hfz120_3⟩ := blk_frozens4 BK156.out
         try go_wp2
         refine bodyPost_ret (results_ct rfl _ _ gb156 25 #[.int .i64 0, .int .i64 0, .float .f64 0, .slice none 0 0] (0, 0) _ rfl (by (with_reducible repeat (first | refine b1 ?_ _ | refine b2 ?_ | refine b3 ?_ _)); refine blk_put (cs := #[.int .i64 0, .int .i64 0, .float .f64 0, .slice none 0 0]) ?_ 3 _ rfl; (with_reducible repeat (first | refine b1 ?_ _ | refine b2 ?_ | refine b3 ?_ _)); refine blk_put (cs := #[.int .i64 0, .int .i64 0, .float .f64 0, .slice none 0 0]) ?_ 2 _ rfl; (with_reducible repeat (first | refine b1 ?_ _ | refine b2 ?_ | refine b3 ?_ _)); refine blk_put (cs := #[.int .i64 0, .int .i64 0, .float .f64 0, .slice none 0 0]) ?_ 1 _ rfl; (with_reducible repeat (first | refine b1 ?_ _ | refine b2 ?_ | refine b3 ?_ _)); refine blk_put (cs := #[.int .i64 0, .int .i64 0, .float .f64 0, .slice none 0 0]) ?_ 0 _ rfl; exact bup BK156.out) Try.underlying25 rfl (by kernel_rfl)) rfl ?_
         exact ⟨_, _, by first | rfl | (simp [errW_none, errW_some] <;> rfl) | (simp [*, errW_none, errW_some] <;> rfl), by first | exact Kd.R_nil _ _ _ _ _ | exact Kd.N_nil _ _ _ _ _ | exact Kd.V_nil _ _ _ _ _ | exact Kd.Q_nil _ _ _ _ _ | exact Kd.S_nil _ _ _ _ _, by with_reducible repeat (first | exact HB.out | refine h4 ?_ GE156.out | refine h4 ?_ GE157.out | apply h1 | apply h2 | apply h3), (by first | exact ⟨⟨by first | rfl | decide, by decide⟩⟩)⟩
    ·rw [if_neg c10] at H
     exact absurd H (by simp)

end Go.Proofs.Ytjjkhlphdbmdfaa.PFnExactKeyRead
