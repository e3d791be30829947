import Derived.Test.YtjjkhlphdbmdfaaZFnExactTupleRead30
import Derived.Test.YtjjkhlphdbmdfaaZFnExactTupleRead31
import Derived.Test.YtjjkhlphdbmdfaaZFnExactTupleRead35
namespace Go.Proofs.Ytjjkhlphdbmdfaa.PFnExactTupleRead
open Go.RowKit Go.Proofs.YtjjkhlphdbmdfaaW.PrintWords Go.Proofs.YtjjkhlphdbmdfaaW.PrintLast Go.Proofs.YtjjkhlphdbmdfaaW.PrintMore
attribute [local go_sem] max2_int min2_int max_two min_two max_three min_three max_four min_four   -- for this text's walks alone
attribute [local go_sem high] fl_eql fl_neq fl_lss fl_leq fl_gtr fl_geq fl_add fl_sub fl_mul fl_quo fl_neg fl_ofInt fl_toInt fl_store sub_sign ext_bits ext_from fl_nan_quo fl_nan_add fl_nan_mul fl_nan_sub
open Go.Proofs.YtjjkhlphdbmdfaaW.PrintWords renaming below_alloc → h1, pw_below_drewN → h2, below_drew1 → h3, below_set → h4, blk_drewN → b1, blk_drew → b2, blk_alloc → b3
set_option linter.unusedVariables false
set_option linter.unusedSimpArgs false
def spec_KeyRead.j0 : Nat → List Int → Bool → Int → Int → Nat → Option (Int × Int × Nat × List Int × Bool)
 | 0, _, _, _, _, _ => none
 | k + 1, x0, x12, x197000, x197001, x197002 => if x12 = true then (some (x197000, x197001, x197002, ([] : List Int), false)) else (if 0 < (x0.length : Int) then (if (wrap64 (rd x0 0)) = 1 then (if 1 ≤ (x0.length : Int) then ((spec_l3low.f k (x0.drop 1)).bind fun t199 => ((spec_KeyBytes.f k (wrap64 (rd x0 0)) (wrap64 (Go.bits .xor .u64 t199 9223372036854775808)) x197002 ([] : List Int)).bind fun t200 => (if (strOfNums t200).toList = (strOfNums x0).toList then (some (wrap64 (rd x0 0), wrap64 (Go.bits .xor .u64 t199 9223372036854775808), x197002, ([] : List Int), true)) else (some (0, 0, 0, ([] : List Int), false))))) else (none)) else (if (wrap64 (rd x0 0)) = 2 then (if 1 ≤ (x0.length : Int) then ((spec_l3low.f k (x0.drop 1)).bind fun t204 => ((spec_FloatUnrank.f k t204).bind fun bt205 => ((spec_KeyBytes.f k (wrap64 (rd x0 0)) x197001 bt205.1 ([] : List Int)).bind fun t207 => (if (strOfNums t207).toList = (strOfNums x0).toList then (some (wrap64 (rd x0 0), x197001, bt205.1, ([] : List Int), true)) else (some (0, 0, 0, ([] : List Int), false)))))) else (none)) else (if (wrap64 (rd x0 0)) = 3 then ((some (([] : List Int) : List Int)).bind fun y210 => (if 1 ≤ (x0.length : Int) then (if y210.length + (x0.drop 1).length < 140737488355328 then ((some (y210 ++ (x0.drop 1) : List Int)).bind fun y214 => ((spec_KeyBytes.f k (wrap64 (rd x0 0)) x197001 x197002 y214).bind fun t217 => (if (strOfNums t217).toList = (strOfNums x0).toList then (some (wrap64 (rd x0 0), x197001, x197002, y214, true)) else (some (0, 0, 0, ([] : List Int), false))))) else (none)) else (none))) else ((spec_KeyBytes.f k (wrap64 (rd x0 0)) x197001 x197002 ([] : List Int)).bind fun t220 => (if (strOfNums t220).toList = (strOfNums x0).toList then (some (wrap64 (rd x0 0), x197001, x197002, ([] : List Int), true)) else (some (0, 0, 0, ([] : List Int), false))))))) else (none))
def spec_KeyRead.f (k : Nat) (l0 : List Int) : Option (Int × Int × Nat × List Int × Bool) := if (l0.length : Int) < 1 then (spec_KeyRead.j0 k l0 true 0 0 0) else (spec_KeyRead.j0 k l0 (decide ((l0.length : Int) > 41)) 0 0 0)
theorem spec_KeyRead.mono_l : ∀ k, (∀ y0 y1 y2 y3 y4, LeO (spec_KeyRead.j0 k y0 y1 y2 y3 y4) (spec_KeyRead.j0 (k + 1) y0 y1 y2 y3 y4))
 | 0 => fun _ _ _ _ _ r h => by simp [spec_KeyRead.j0] at h
 | k + 1 => by
  have ih0 := spec_KeyRead.mono_l k
  ·intro y0 y1 y2 y3 y4
   unfold spec_KeyRead.j0
   repeat' with_reducible first | exact ih0 _ _ _ _ _ | exact spec_FloatUnrank.mono _ _ | exact spec_KeyBytes.mono _ _ _ _ _ | exact spec_l3low.mono _ _ | exact LeO.refl _ | exact LeO.none _ | refine LeO.ite ?_ ?_ | refine LeO.bind ?_ (fun _ => ?_)
theorem spec_KeyRead.mono : ∀ a0 k, LeO (spec_KeyRead.f k a0) (spec_KeyRead.f (k + 1) a0) := by
 intro a0 k
 have ih0 := spec_KeyRead.mono_l k
 unfold spec_KeyRead.f
 repeat' with_reducible first | exact ih0 _ _ _ _ _ | exact spec_FloatUnrank.mono _ _ | exact spec_KeyBytes.mono _ _ _ _ _ | exact spec_l3low.mono _ _ | exact LeO.refl _ | exact LeO.none _ | refine LeO.ite ?_ ?_ | refine LeO.bind ?_ (fun _ => ?_)
set_option maxHeartbeats 8000000 in
set_option maxRecDepth 100000 in
theorem spec_KeyRead.callsC (k : Nat) (A0 : Option Addr) (c0 : Nat) (l0 : List Int) (r1 : Int) (r2 : Int) (r3 : Nat) (r4 : List Int) (r5 : Bool) (w : World) (hr0 : Kd.C (Kd.int .u8) w A0 l0.length l0) (hc0 : l0.length ≤ c0) (h : spec_KeyRead.f k l0 = some (r1, r2, r3, r4, r5)) :
  Calls Try.prog 17 #[.slice A0 l0.length c0] w fun e w' => ∃ b1_ : Nat, ∃ v3_ : Value, e = .returned (.tuple #[.agg #[.int .i64 r1, .int .i64 r2, .float .f64 b1_, v3_], .bool r5]) ∧ Kd.R (Kd.int .u8) 5 w' w.heap.size (fun _ => True) v3_ r4 ∧ Below w.heap.size w w' ∧ Aside0 (cn b1_ = r3 ∧ b1_ < 2 ^ 64) := by
 have hu25 := Try.underlying25
 have HR0 := Aside0.mk hr0
 have HC0 := Aside0.mk hc0
 clear hr0 hc0
 have HB := Aside0.mk (Below.refl w.heap.size w)
 have H := h
 clear h
 unfold spec_KeyRead.f at H
 have HC2 := Aside0.mk H
 clear H
 go_enter Try.func17, Try.ntmps17
 go_upto_region 2 with (first | ((with_reducible refine gate_dst (N := 2) rfl ?_); (try (refine gate_guard (by rfl) ?_; dsimp only)); refine box_event ?hg (N := 2) ?hd (cs := #[.int .i64 0, .int .i64 0, .float .f64 0, .slice none 0 0]) (t := 25) ?hr ?_; (case hd => rfl); (case hg => rfl); (case hr => first | (go_simp; done) | (go_simp; rfl)); intro gb195 hg w3 hbox hb; have n0_ := Aside0.mk (below_step (hup HB.out) hb); have n1_ := Aside0.mk (hbox); have n2_ := Geq.mk ((by rw [hg]; exact (below_size (hup HB.out)) : w.heap.size ≤ gb195)); have n3_ := Geq.mk ((by rw [hg]; exact (below_size (hup HB.out)) : w.heap.size ≤ gb195)); clear HB; have HB := n0_; have BK195 := n1_; have GW195 := n2_; have GE195 := n3_; clear n0_ n1_ n2_ n3_; clear hb hbox hg) | ((with_reducible refine gate_dst (N := 4) rfl ?_); (try (refine gate_guard (by rfl) ?_; dsimp only)); refine box_event ?hg (N := 4) ?hd (cs := #[.int .i64 0, .int .i64 0, .float .f64 0, .slice none 0 0]) (t := 25) ?hr ?_; (case hd => rfl); (case hg => rfl); (case hr => first | (go_simp; done) | (go_simp; rfl)); intro gb196 hg w4 hbox hb; have n0_ := Aside0.mk (blk_below (bup BK195.out) hb); have n1_ := Aside0.mk (below_step (hset HB.out) hb); have n2_ := Aside0.mk (hbox); have n3_ := Geq.mk ((by rw [hg]; exact (below_size (hset HB.out)) : w.heap.size ≤ gb196)); have n4_ := Geq.mk ((by rw [hg]; exact (below_size (hset HB.out)) : w.heap.size ≤ gb196)); have n5_ := Neq.mk ((by rw [hg]; exact Nat.ne_of_lt (blk_lt (g := gb195) (o := .cells #[.int .i64 0, .int .i64 0, .float .f64 0, .slice none 0 0] 25 (0, 0)) (bup BK195.out)) : gb195 ≠ gb196)); have n6_ := Neq.mk ((by rw [hg]; exact Nat.ne_of_gt (blk_lt (g := gb195) (o := .cells #[.int .i64 0, .int .i64 0, .float .f64 0, .slice none 0 0] 25 (0, 0)) (bup BK195.out)) : gb196 ≠ gb195)); clear BK195; clear HB; have BK195 := n0_; have HB := n1_; have BK196 := n2_; have GW196 := n3_; have GE196 := n4_; have NB195_196 := n5_; have NB196_195 := n6_; clear n0_ n1_ n2_ n3_ n4_ n5_ n6_; clear hb hbox hg))
 (try simp only [Act.put, List.setIfInBounds_toArray, List.set_cons_zero, List.set_cons_succ])
 go_cut [12] (fun v12 wc => ∃ (kq : Nat) (x12_1 : Bool), v12 = .bool x12_1 ∧ Aside0 (spec_KeyRead.j0 kq l0 x12_1 0 0 0 = some (r1, r2, r3, r4, r5)) ∧ Aside0 (kq ≤ k) ∧ Aside0 (wc.heap[gb195]? = some (.cells #[.int .i64 0, .int .i64 0, .float .f64 0, (.slice none 0 0)] 25 (0, 0))) ∧ Aside0 (wc.heap[gb196]? = some (.cells #[.int .i64 0, .int .i64 0, .float .f64 0, (.slice none 0 0)] 25 (0, 0))) ∧ Aside0 (Below w.heap.size w wc))
 case first =>
  have H := HC2.out
  clear HC2
  by_cases c5 : (l0.length : Int) < 1
  ·rw [if_pos c5] at H
   have c5b0 : decide ((l0.length : Int) < 1) = true := decide_eq_true c5
   have c5b1 : decide (l0.length < 1) = true := decide_eq_true (by omega)
   clear c5
   (first | rw [c5b0] | (simp only [i64_w, i32_w]; rw [c5b0]) | skip)
   have H' := Aside0.mk H
   clear H
   go_wp2
   go_meet
   case rel => exact ⟨_, (true), (by first | rfl | (simp; done) | (simp [*]; done)), H', ⟨by first | omega | exact Nat.le_refl _⟩, ⟨by exact bup BK195.out⟩, ⟨by exact bup BK196.out⟩, ⟨hset HB.out⟩⟩
  ·rw [if_neg c5] at H
   have c5b0 : decide ((l0.length : Int) < 1) = false := decide_eq_false c5
   have c5b1 : decide (l0.length < 1) = false := decide_eq_false (by omega)
   clear c5
   (first | rw [c5b0] | (simp only [i64_w, i32_w]; rw [c5b0]) | skip)
   have H' := Aside0.mk H
   clear H
   go_wp2
   go_meet
   case rel => exact ⟨_, (decide ((l0.length : Int) > 41)), (by first | rfl | (simp; done) | (simp [*]; done)), H', ⟨by first | omega | exact Nat.le_refl _⟩, ⟨by exact bup BK195.out⟩, ⟨by exact bup BK196.out⟩, ⟨hset HB.out⟩⟩
 case rest =>
  clear HC2
  try clear c1
  try clear p2
  try clear c5
  try clear c5b0
  try clear c5b1
  obtain ⟨kq, x12_1, rfl, HA, HJ1, BK195, BK196, HB⟩ := hcut
  cases kq with
  | zero => exact absurd HA.out (by simp [spec_KeyRead.j0])
  | succ kj1 =>
   have H := HA.out
   clear HA
   simp only [spec_KeyRead.j0] at H
   by_cases c6 : x12_1 = true
   ·subst c6
    rw [if_pos rfl] at H
    (try dsimp only at H)
    simp only [Option.some.injEq, Prod.mk.injEq] at H
    obtain ⟨rfl, rfl, rfl, rfl, rfl⟩ := H
    have hnb7 := NB196_195.out
    have hnc7 := NB195_196.out
    obtain ⟨hcz8_0, hcz8_1, hcz8_2, hcz8_3⟩ := blk_cells4 BK196.out
    obtain ⟨hfz8_0, hfz8_1, hfz8_2, hfz8_3⟩ := blk_frozens4 BK196.out
    obtain ⟨hcz9_0, hcz9_1, hcz9_2, hcz9_3⟩ := blk_cells4 BK195.out
    obtain ⟨hfz9_0, hfz9_1, hfz9_2, hfz9_3⟩ := blk_frozens4 BK195.out
    go_wp2
    refine bodyPost_ret (results_ct rfl _ _ gb195 25 #[.int .i64 0, .int .i64 0, .float .f64 0, .slice none 0 0] (0, 0) _ rfl (bput BK195.out) Try.underlying25 rfl (by kernel_rfl)) rfl ?_
    exact ⟨_, _, by first | rfl | (simp [errW_none, errW_some] <;> rfl) | (simp [*, errW_none, errW_some] <;> rfl), by first | exact Kd.R_nil _ _ _ _ _ | exact Kd.N_nil _ _ _ _ _ | exact Kd.V_nil _ _ _ _ _ | exact Kd.Q_nil _ _ _ _ _ | exact Kd.S_nil _ _ _ _ _, hset HB.out, (by first | exact ⟨⟨by first | rfl | decide, by decide⟩⟩)⟩
   ·replace c6 := Bool.eq_false_iff.mpr c6
    subst c6
    rw [if_neg (show ¬ (false = true) by decide)] at H
    (try dsimp only at H)
    by_cases c10 : 0 < (l0.length : Int)
    ·rw [if_pos c10] at H
     have c10b0 : decide (0 < (l0.length : Int)) = true := decide_eq_true c10
     have c10b1 : decide (0 < l0.length) = true := decide_eq_true (by omega)
     clear c10
     by_cases c11 : (wrap64 (rd l0 0)) = 1
     ·rw [if_pos c11] at H
      have c11b0 : ((wrap64 (rd l0 0)) == 1) = true := beq_iff_eq.mpr c11
      have c11b1 : ((wrap64 (rd l0 0)) != 1) = false := bne_eq_false_iff_eq.mpr c11
      clear c11
      by_cases c12 : 1 ≤ (l0.length : Int)
      ·rw [if_pos c12] at H
       have c12b0 := eq_true c12
       have c12b1 : decide (1 ≤ (l0.length : Int)) = true := decide_eq_true c12
       clear c12
       replace H := Option.bind_eq_some_iff.mp H
       obtain ⟨t199, A130, H⟩ := H
       (try dsimp only at H)
       have A13 := Aside0.mk A130
       clear A130
       replace H := Option.bind_eq_some_iff.mp H
       obtain ⟨t200, A140, H⟩ := H
       (try dsimp only at H)
       have A14 := Aside0.mk A140
       clear A140
       have p197 : 0 ≤ (0 : Int) := (by omega)
       have q197 : 0 < (l0.length : Int) := of_decide_eq_true (by first | (with_reducible assumption) | assumption)
       obtain ⟨ad197, e197, hx197_0⟩ := Kd.at_int HR0.out 0 p197 q197
       cases e197
       have qi197 : (0 < l0.length) = True := eq_true (by omega)
       (try rw [show ((0 : Int)).toNat = 0 from rfl] at hx197_0)
       (try rw [Addr.add_zero'] at hx197_0)
       replace hx197_0 := (HB.out.cell (World.block_lt_of_cell? w _ hx197_0)).trans hx197_0
       replace p197 := eq_true p197
       replace q197 := eq_true q197
       have hnb16 := NB196_195.out
       have hnc16 := NB195_196.out
       obtain ⟨hcz17_0, hcz17_1, hcz17_2, hcz17_3⟩ := blk_cells4 BK196.out
       obtain ⟨hfz17_0, hfz17_1, hfz17_2, hfz17_3⟩ := blk_frozens4 BK196.out
       obtain ⟨i018, hi018, _, hsz18, _⟩ := info_parts info5
       obtain ⟨A18, hcut18, hA18, hC18⟩ := print_drop_of (P := Try.prog) (Value.int .u8) 0 22 5 .i64 Try.underlying22 hi018 hsz18 (some ad197) c0 l0 1 (by omega) (of_decide_eq_true (by first | (with_reducible assumption) | assumption)) HC0.out
       have HR198 := Aside0.mk (Kd.C_of_reads (h1 := fun _ => rfl) (hA18 _ (Kd.reads_of_C HR0.out)))
       have HC198 := Aside0.mk hC18
       clear hA18 hC18 hi018 hsz18
       try go_wp2_with (first | ((with_reducible refine gate_callee (f := 45) rfl ?_); refine goesL_ (some 25) rfl rfl Try.func45 (by kernel_rfl) rfl #[.slice A18 (l0.drop 1).length (c0 - 1)] rfl (by (try simp only [List.map_toArray, List.map_cons, List.map_nil]); first | done | (rw [show (l0.drop 1).length = (l0.length - 1) from List.length_drop] <;> rfl) | rfl | (simp only [List.length_drop, List.length_take]; rfl)) ?_; (with_reducible refine (spec_l3low.calls kj1 _ _ (l0.drop 1) t199 _ ?side1 ?side2 A13.out).mono ?_); (case side1 => exact Kd.C_below HR198.out (hset HB.out)); (case side2 => exact HC198.out); rintro e w' ⟨rfl, ⟨nd, rfl⟩⟩; refine ⟨_, rfl, ?_⟩))
       (try rw [setCell_drewN])
       have n0_ : Aside0 (((wc.setCell ⟨gb196, 0, none⟩ (.int .i64 (wrap64 (rd l0 0)))).setCell ⟨gb196, 1, none⟩ (.int .i64 (wrap64 (Go.bits .xor .u64 t199 9223372036854775808)))).heap[gb195]? = some (.cells #[.int .i64 0, .int .i64 0, .float .f64 0, .slice none 0 0] 25 (0, 0))) := ⟨bput BK195.out⟩
       have n1_ : Aside0 (((wc.setCell ⟨gb196, 0, none⟩ (.int .i64 (wrap64 (rd l0 0)))).setCell ⟨gb196, 1, none⟩ (.int .i64 (wrap64 (Go.bits .xor .u64 t199 9223372036854775808)))).heap[gb196]? = some (.cells #[.int .i64 (wrap64 (rd l0 0)), .int .i64 (wrap64 (Go.bits .xor .u64 t199 9223372036854775808)), .float .f64 0, .slice none 0 0] 25 (0, 0))) := ⟨bput BK196.out⟩
       have n2_ : Aside0 (Below w.heap.size w ((wc.setCell ⟨gb196, 0, none⟩ (.int .i64 (wrap64 (rd l0 0)))).setCell ⟨gb196, 1, none⟩ (.int .i64 (wrap64 (Go.bits .xor .u64 t199 9223372036854775808))))) := ⟨hset HB.out⟩
       (try clear BK195)
       (try clear BK196)
       (try clear HB)
       generalize ((wc.setCell ⟨gb196, 0, none⟩ (.int .i64 (wrap64 (rd l0 0)))).setCell ⟨gb196, 1, none⟩ (.int .i64 (wrap64 (Go.bits .xor .u64 t199 9223372036854775808)))) = w19 at n0_ n1_ n2_ ⊢
       have BK195 := n0_
       have BK196 := n1_
       have HB := n2_
       clear n0_ n1_ n2_
       (try (rw [drewN_self w19]; generalize hq_ : World.drewN w19 _ = w19; have n0_ : Aside0 (w19.heap[gb195]? = some (.cells #[.int .i64 0, .int .i64 0, .float .f64 0, .slice none 0 0] 25 (0, 0))) := ⟨by rw [← hq_]; exact (bup BK195.out)⟩; have n1_ : Aside0 (w19.heap[gb196]? = some (.cells #[.int .i64 (wrap64 (rd l0 0)), .int .i64 (wrap64 (Go.bits .xor .u64 t199 9223372036854775808)), .float .f64 0, .slice none 0 0] 25 (0, 0))) := ⟨by rw [← hq_]; exact (bup BK196.out)⟩; have n2_ : Aside0 (Below w.heap.size w w19) := ⟨by rw [← hq_]; exact (hset HB.out)⟩; clear BK195 BK196 HB hq_; have BK195 := n0_; have BK196 := n1_; have HB := n2_; clear n0_ n1_ n2_))
       have n0_ := Aside0.mk (blk_drew BK195.out)
       have n1_ := Aside0.mk (blk_drew BK196.out)
       have n2_ := Aside0.mk (below_drew1 HB.out)
       clear BK195
       clear BK196
       clear HB
       have BK195 := n0_
       have BK196 := n1_
       have HB := n2_
       clear n0_ n1_ n2_
       refine start_ (n := 6) (S := fun w' => w'.cell? ⟨gb196, 0, none⟩ = some (.int .i64 (wrap64 (rd l0 0))) ∧ w'.cell? ⟨gb196, 1, none⟩ = some (.int .i64 (wrap64 (Go.bits .xor .u64 t199 9223372036854775808))) ∧ w'.cell? ⟨gb196, 2, none⟩ = some (.float .f64 0) ∧ w'.cell? ⟨gb196, 3, none⟩ = some (.slice none 0 0) ∧ Kd.C (Kd.int .u8) w' (some ad197) l0.length l0) (ds := []) #[false, false, false, false, false, false] (by kernel_rfl) rfl rfl ⟨(blk_cell BK196.out 0).trans rfl, (blk_cell BK196.out 1).trans rfl, (blk_cell BK196.out 2).trans rfl, (blk_cell BK196.out 3).trans rfl, (Kd.C_below HR0.out HB.out)⟩ (fun hHeld => ?_)
       generalize w19.drew = w20 at BK195 BK196 HB hHeld ⊢
       refine pure_ (i := 3) (N := some 49) (v := ?_) (a' := ?_) #[false, false, false, true, false, false] rfl rfl (by kernel_rfl) (fun _ _ _ h => h) (Or.inl ⟨by rfl, ?_⟩) ?_ ?_
       rotate_left
       ·intro w'
        go_simp
        with_reducible rfl
       rotate_left
       ·simp only [Act.put, List.setIfInBounds_toArray, List.set_cons_zero, List.set_cons_succ, i64_w, i32_w]
        rfl
       refine take_ (i := 4) (N := some 50) (v := ?_) (a' := ?_) #[false, false, false, true, true, false] rfl rfl (by kernel_rfl) (fun _ _ _ h => h) (Or.inl ⟨by rfl, ?_⟩) hHeld ?_ ?_
       rotate_left
       ·rintro w' ⟨s0, s1, s2, s3, sC⟩
        have hcv_ := Kd.C_string (P := Try.prog) (A := (some ad197)) (c := c0) Try.underlying22 Try.underlying5 Try.underlying9 sC
        go_simp
        with_reducible rfl
       rotate_left
       ·simp only [Act.put, List.setIfInBounds_toArray, List.set_cons_zero, List.set_cons_succ, i64_w, i32_w]
        rfl
       refine take_ (i := 0) (N := some 46) (v := ?_) (a' := ?_) #[true, false, false, true, true, false] rfl rfl (by kernel_rfl) (fun _ _ _ h => h) (Or.inl ⟨by rfl, ?_⟩) hHeld ?_ ?_
       rotate_left
       ·rintro w' ⟨s0, s1, s2, s3, sC⟩
        go_simp
        with_reducible rfl
       rotate_left
       ·simp only [Act.put, List.setIfInBounds_toArray, List.set_cons_zero, List.set_cons_succ, i64_w, i32_w]
        rfl
       refine one_ (i := 1) (N := some 47) #[true, true, false, true, true, false] rfl rfl (by kernel_rfl) (by decide) (fun K hK => ?_)
       refine goes_ Try.func54 (by kernel_rfl) rfl #[.agg #[.int .i64 (wrap64 (rd l0 0)), .int .i64 (wrap64 (Go.bits .xor .u64 t199 9223372036854775808)), .float .f64 0, .slice none 0 0]] (by rfl) rfl rfl (by (try simp only [List.map_toArray, List.map_cons, List.map_nil]); first | done | rfl) ?_
       refine (spec_KeyBytes.calls kj1 (wrap64 (rd l0 0)) (wrap64 (Go.bits .xor .u64 t199 9223372036854775808)) 0 _ _ ([] : List Int) t200 _ ?side1 ?side2 A14.out).mono ?_
       (case side1 => exact Kd.C_nil _ _)
       (case side2 => exact Nat.le_refl _)
       rintro e w21 ⟨v201, rfl, ho0, hb⟩
       refine ⟨_, rfl, ?_⟩
       have n0_ := Aside0.mk (Kd.R_lower ho0 (below_size (hset HB.out)))
       have n1_ := Aside0.mk (blk_below (bup BK195.out) hb)
       have n2_ := Aside0.mk (blk_below (bup BK196.out) hb)
       have n3_ := Aside0.mk (below_step (hset HB.out) hb)
       clear BK195
       clear BK196
       clear HB
       have HO202 := n0_
       have BK195 := n1_
       have BK196 := n2_
       have HB := n3_
       clear n0_ n1_ n2_ n3_
       (try clear hb)
       (try clear hb2)
       (try clear hk)
       (try clear hi)
       (try clear ho0)
       have hcv23 := Kd.C_string (P := Try.prog) (A := (some ad197)) (c := c0) Try.underlying22 Try.underlying5 Try.underlying9 (Kd.C_below HR0.out HB.out)
       refine hK.out _ _ ⟨(blk_cell BK196.out 0).trans rfl, (blk_cell BK196.out 1).trans rfl, (blk_cell BK196.out 2).trans rfl, (blk_cell BK196.out 3).trans rfl, (Kd.C_below HR0.out HB.out)⟩ (fun hHeld => ?_)
       clear hK K
       refine norm_ (a' := ?_) ?_ ?_
       rotate_left
       ·show Act.put _ (some 47) _ = _
        simp only [Act.put, List.setIfInBounds_toArray, List.set_cons_zero, List.set_cons_succ, i64_w, i32_w]
        rfl
       refine one_ (i := 2) (N := some 48) #[true, true, true, true, true, false] rfl rfl (by kernel_rfl) (by decide) (fun K hK => ?_)
       have hcv22 := own_string (P := Try.prog) Try.underlying22 Try.underlying5 Try.underlying9 (Kd.own_of_R HO202.out)
       refine value_ (w1 := ?_) (v := ?_) (by rfl) rfl ?_ ?_
       rotate_left 2
       ·go_simp
        constructor
        ·rfl
        ·rfl
       clear hcv22
       refine hK.out _ _ ⟨(blk_cell BK196.out 0).trans rfl, (blk_cell BK196.out 1).trans rfl, (blk_cell BK196.out 2).trans rfl, (blk_cell BK196.out 3).trans rfl, (Kd.C_below HR0.out HB.out)⟩ (fun hHeld => ?_)
       clear hK K
       refine norm_ (a' := ?_) ?_ ?_
       rotate_left
       ·show Act.put _ (some 48) _ = _
        simp only [Act.put, List.setIfInBounds_toArray, List.set_cons_zero, List.set_cons_succ, i64_w, i32_w]
        rfl
       refine pure_ (i := 5) (N := some 51) (v := ?_) (a' := ?_) #[true, true, true, true, true, true] rfl rfl (by kernel_rfl) (fun _ _ _ h => h) (Or.inl ⟨by rfl, ?_⟩) ?_ ?_
       rotate_left
       ·intro w'
        go_simp
        with_reducible rfl
       rotate_left
       ·simp only [Act.put, List.setIfInBounds_toArray, List.set_cons_zero, List.set_cons_succ, i64_w, i32_w]
        rfl
       refine done_ (by kernel_rfl) ?_
       by_cases c15 : (strOfNums t200).toList = (strOfNums l0).toList
       ·rw [if_pos c15] at H
        have c15b0 : ((strOfNums t200).toList == (strOfNums l0).toList) = true := beq_iff_eq.mpr c15
        have c15b1 : ((strOfNums t200).toList != (strOfNums l0).toList) = false := bne_eq_false_iff_eq.mpr c15
        (try simp only [c15b0, c15b1, Bool.not_true, Bool.not_false])
        clear c15
        simp only [Option.some.injEq, Prod.mk.injEq] at H
        obtain ⟨rfl, rfl, rfl, rfl, rfl⟩ := H
        obtain ⟨hcz25_0, hcz25_1, hcz25_2, hcz25_3⟩ := blk_cells4 BK196.out
        obtain ⟨hfz25_0, hfz25_1, hfz25_2, hfz25_3⟩ := blk_frozens4 BK196.out
        obtain ⟨hcz26_0, hcz26_1, hcz26_2, hcz26_3⟩ := blk_cells4 BK195.out
        obtain ⟨hfz26_0, hfz26_1, hfz26_2, hfz26_3⟩ := blk_frozens4 BK195.out
        try go_wp2
        refine bodyPost_ret (results_ct rfl _ _ gb195 25 #[.int .i64 (wrap64 (rd l0 0)), .int .i64 (wrap64 (Go.bits .xor .u64 t199 9223372036854775808)), .float .f64 0, .slice none 0 0] (0, 0) _ rfl (bput BK195.out) Try.underlying25 rfl (by kernel_rfl)) rfl ?_
        exact ⟨_, _, by first | rfl | (simp [errW_none, errW_some] <;> rfl) | (simp [*, errW_none, errW_some] <;> rfl), by first | exact Kd.R_nil _ _ _ _ _ | exact Kd.N_nil _ _ _ _ _ | exact Kd.V_nil _ _ _ _ _ | exact Kd.Q_nil _ _ _ _ _ | exact Kd.S_nil _ _ _ _ _, hset HB.out, (by first | exact ⟨⟨by first | rfl | decide, by decide⟩⟩)⟩
       ·rw [if_neg c15] at H
        have c15b0 : ((strOfNums t200).toList == (strOfNums l0).toList) = false := beq_eq_false_iff_ne.mpr c15
        have c15b1 : ((strOfNums t200).toList != (strOfNums l0).toList) = true := bne_iff_ne.mpr c15
        (try simp only [c15b0, c15b1, Bool.not_true, Bool.not_false])
        simp only [Option.some.injEq, Prod.mk.injEq] at H
        obtain ⟨rfl, rfl, rfl, rfl, rfl⟩ := H
        obtain ⟨hcz36_0, hcz36_1, hcz36_2, hcz36_3⟩ := blk_cells4 BK195.out
        obtain ⟨hfz36_0, hfz36_1, hfz36_2, hfz36_3⟩ := blk_frozens4 BK195.out
        try go_wp2
        refine bodyPost_ret (results_ct rfl _ _ gb195 25 #[.int .i64 0, .int .i64 0, .float .f64 0, .slice none 0 0] (0, 0) _ rfl (bput BK195.out) Try.underlying25 rfl (by kernel_rfl)) rfl ?_
        exact ⟨_, _, by first | rfl | (simp [errW_none, errW_some] <;> rfl) | (simp [*, errW_none, errW_some] <;> rfl), by first | exact Kd.R_nil _ _ _ _ _ | exact Kd.N_nil _ _ _ _ _ | exact Kd.V_nil _ _ _ _ _ | exact Kd.Q_nil _ _ _ _ _ | exact Kd.S_nil _ _ _ _ _, hset HB.out, (by first | exact ⟨⟨by first | rfl | decide, by decide⟩⟩)⟩
      ·rw [if_neg c12] at H
       exact absurd H (by simp)
     ·rw [if_neg c11] at H
      have c11b0 : ((wrap64 (rd l0 0)) == 1) = false := beq_eq_false_iff_ne.mpr c11
      have c11b1 : ((wrap64 (rd l0 0)) != 1) = true := bne_iff_ne.mpr c11
      by_cases c37 : (wrap64 (rd l0 0)) = 2
      ·rw [if_pos c37] at H
       have c37b0 : ((wrap64 (rd l0 0)) == 2) = true := beq_iff_eq.mpr c37
       have c37b1 : ((wrap64 (rd l0 0)) != 2) = false := bne_eq_false_iff_eq.mpr c37
       clear c37
       by_cases c38 : 1 ≤ (l0.length : Int)
       ·rw [if_pos c38] at H
        have c38b0 := eq_true c38
        have c38b1 : decide (1 ≤ (l0.length : Int)) = true := decide_eq_true c38
        clear c38
        replace H := Option.bind_eq_some_iff.mp H
        obtain ⟨t204, A390, H⟩ := H
        (try dsimp only at H)
        have A39 := Aside0.mk A390
        clear A390
        replace H := Option.bind_eq_some_iff.mp H
        obtain ⟨⟨t205, t206⟩, A400, H⟩ := H
        (try dsimp only at H)
        have A40 := Aside0.mk A400
        clear A400
        replace H := Option.bind_eq_some_iff.mp H
        obtain ⟨t207, A410, H⟩ := H
        (try dsimp only at H)
        have A41 := Aside0.mk A410
        clear A410
        have p197 : 0 ≤ (0 : Int) := (by omega)
        have q197 : 0 < (l0.length : Int) := of_decide_eq_true (by first | (with_reducible assumption) | assumption)
        obtain ⟨ad197, e197, hx197_0⟩ := Kd.at_int HR0.out 0 p197 q197
        cases e197
        have qi197 : (0 < l0.length) = True := eq_true (by omega)
        (try rw [show ((0 : Int)).toNat = 0 from rfl] at hx197_0)
        (try rw [Addr.add_zero'] at hx197_0)
        replace hx197_0 := (HB.out.cell (World.block_lt_of_cell? w _ hx197_0)).trans hx197_0
        replace p197 := eq_true p197
        replace q197 := eq_true q197
        have hnb43 := NB196_195.out
        have hnc43 := NB195_196.out
        obtain ⟨hcz44_0, hcz44_1, hcz44_2, hcz44_3⟩ := blk_cells4 BK196.out
        obtain ⟨hfz44_0, hfz44_1, hfz44_2, hfz44_3⟩ := blk_frozens4 BK196.out
        obtain ⟨i045, hi045, _, hsz45, _⟩ := info_parts info5
        obtain ⟨A45, hcut45, hA45, hC45⟩ := print_drop_of (P := Try.prog) (Value.int .u8) 0 22 5 .i64 Try.underlying22 hi045 hsz45 (some ad197) c0 l0 1 (by omega) (of_decide_eq_true (by first | (with_reducible assumption) | assumption)) HC0.out
        have HR203 := Aside0.mk (Kd.C_of_reads (h1 := fun _ => rfl) (hA45 _ (Kd.reads_of_C HR0.out)))
        have HC203 := Aside0.mk hC45
        clear hA45 hC45 hi045 hsz45
        try go_wp2_with (first | ((with_reducible refine gate_callee (f := 45) rfl ?_); refine goesL_ (some 34) rfl rfl Try.func45 (by kernel_rfl) rfl #[.slice A45 (l0.drop 1).length (c0 - 1)] rfl (by (try simp only [List.map_toArray, List.map_cons, List.map_nil]); first | done | (rw [show (l0.drop 1).length = (l0.length - 1) from List.length_drop] <;> rfl) | rfl | (simp only [List.length_drop, List.length_take]; rfl)) ?_; (with_reducible refine (spec_l3low.calls kj1 _ _ (l0.drop 1) t204 _ ?side1 ?side2 A39.out).mono ?_); (case side1 => exact Kd.C_below HR203.out (hset HB.out)); (case side2 => exact HC203.out); rintro e w' ⟨rfl, ⟨nd, rfl⟩⟩; refine ⟨_, rfl, ?_⟩) | ((with_reducible refine gate_callee (f := 53) rfl ?_); refine goesL_ (some 35) rfl rfl Try.func53 (by kernel_rfl) rfl #[.int .u64 t204] rfl (by (try simp only [List.map_toArray, List.map_cons, List.map_nil]); first | done | rfl) ?_; (with_reducible refine (spec_FloatUnrank.callsC kj1 t204 t205 t206 _ A40.out).mono ?_); rintro e w' ⟨b205, rfl, ⟨nd, rfl⟩, ⟨⟨hcnb205, hltb205⟩⟩⟩; refine ⟨_, rfl, ?_⟩; have LTb205 := Aside0.mk hltb205; clear hltb205; subst hcnb205))
        (try rw [setCell_drewN])
        have n0_ : Aside0 (((wc.setCell ⟨gb196, 0, none⟩ (.int .i64 (wrap64 (rd l0 0)))).setCell ⟨gb196, 2, none⟩ (.float .f64 b205)).heap[gb195]? = some (.cells #[.int .i64 0, .int .i64 0, .float .f64 0, .slice none 0 0] 25 (0, 0))) := ⟨bput BK195.out⟩
        have n1_ : Aside0 (((wc.setCell ⟨gb196, 0, none⟩ (.int .i64 (wrap64 (rd l0 0)))).setCell ⟨gb196, 2, none⟩ (.float .f64 b205)).heap[gb196]? = some (.cells #[.int .i64 (wrap64 (rd l0 0)), .int .i64 0, .float .f64 b205, .slice none 0 0] 25 (0, 0))) := ⟨bput BK196.out⟩
        have n2_ : Aside0 (Below w.heap.size w ((wc.setCell ⟨gb196, 0, none⟩ (.int .i64 (wrap64 (rd l0 0)))).setCell ⟨gb196, 2, none⟩ (.float .f64 b205))) := ⟨hset HB.out⟩
        (try clear BK195)
        (try clear BK196)
        (try clear HB)
        generalize ((wc.setCell ⟨gb196, 0, none⟩ (.int .i64 (wrap64 (rd l0 0)))).setCell ⟨gb196, 2, none⟩ (.float .f64 b205)) = w46 at n0_ n1_ n2_ ⊢
        have BK195 := n0_
        have BK196 := n1_
        have HB := n2_
        clear n0_ n1_ n2_
        (try (rw [drewN_self w46]; generalize hq_ : World.drewN w46 _ = w46; have n0_ : Aside0 (w46.heap[gb195]? = some (.cells #[.int .i64 0, .int .i64 0, .float .f64 0, .slice none 0 0] 25 (0, 0))) := ⟨by rw [← hq_]; exact (bup BK195.out)⟩; have n1_ : Aside0 (w46.heap[gb196]? = some (.cells #[.int .i64 (wrap64 (rd l0 0)), .int .i64 0, .float .f64 b205, .slice none 0 0] 25 (0, 0))) := ⟨by rw [← hq_]; exact (bup BK196.out)⟩; have n2_ : Aside0 (Below w.heap.size w w46) := ⟨by rw [← hq_]; exact (hset HB.out)⟩; clear BK195 BK196 HB hq_; have BK195 := n0_; have BK196 := n1_; have HB := n2_; clear n0_ n1_ n2_))
        have n0_ := Aside0.mk (blk_drew BK195.out)
        have n1_ := Aside0.mk (blk_drew BK196.out)
        have n2_ := Aside0.mk (below_drew1 HB.out)
        clear BK195
        clear BK196
        clear HB
        have BK195 := n0_
        have BK196 := n1_
        have HB := n2_
        clear n0_ n1_ n2_
        refine start_ (n := 6) (S := fun w' => w'.cell? ⟨gb196, 0, none⟩ = some (.int .i64 (wrap64 (rd l0 0))) ∧ w'.cell? ⟨gb196, 1, none⟩ = some (.int .i64 0) ∧ w'.cell? ⟨gb196, 2, none⟩ = some (.float .f64 b205) ∧ w'.cell? ⟨gb196, 3, none⟩ = some (.slice none 0 0) ∧ Kd.C (Kd.int .u8) w' (some ad197) l0.length l0) (ds := []) #[false, false, false, false, false, false] (by kernel_rfl) rfl rfl ⟨(blk_cell BK196.out 0).trans rfl, (blk_cell BK196.out 1).trans rfl, (blk_cell BK196.out 2).trans rfl, (blk_cell BK196.out 3).trans rfl, (Kd.C_below HR0.out HB.out)⟩ (fun hHeld => ?_)
        generalize w46.drew = w47 at BK195 BK196 HB hHeld ⊢
        refine pure_ (i := 3) (N := some 49) (v := ?_) (a' := ?_) #[false, false, false, true, false, false] rfl rfl (by kernel_rfl) (fun _ _ _ h => h) (Or.inl ⟨by rfl, ?_⟩) ?_ ?_
        rotate_left
        ·intro w'
         go_simp
         with_reducible rfl
        rotate_left
        ·simp only [Act.put, List.setIfInBounds_toArray, List.set_cons_zero, List.set_cons_succ, i64_w, i32_w]
         rfl
        refine take_ (i := 4) (N := some 50) (v := ?_) (a' := ?_) #[false, false, false, true, true, false] rfl rfl (by kernel_rfl) (fun _ _ _ h => h) (Or.inl ⟨by rfl, ?_⟩) hHeld ?_ ?_
        rotate_left
        ·rintro w' ⟨s0, s1, s2, s3, sC⟩
         have hcv_ := Kd.C_string (P := Try.prog) (A := (some ad197)) (c := c0) Try.underlying22 Try.underlying5 Try.underlying9 sC
         go_simp
         with_reducible rfl
        rotate_left
        ·simp only [Act.put, List.setIfInBounds_toArray, List.set_cons_zero, List.set_cons_succ, i64_w, i32_w]
         rfl
        refine take_ (i := 0) (N := some 46) (v := ?_) (a' := ?_) #[true, false, false, true, true, false] rfl rfl (by kernel_rfl) (fun _ _ _ h => h) (Or.inl ⟨by rfl, ?_⟩) hHeld ?_ ?_
        rotate_left
        ·rintro w' ⟨s0, s1, s2, s3, sC⟩
         go_simp
         with_reducible rfl
        rotate_left
        ·simp only [Act.put, List.setIfInBounds_toArray, List.set_cons_zero, List.set_cons_succ, i64_w, i32_w]
         rfl
        refine one_ (i := 1) (N := some 47) #[true, true, false, true, true, false] rfl rfl (by kernel_rfl) (by decide) (fun K hK => ?_)
        refine goes_ Try.func54 (by kernel_rfl) rfl #[.agg #[.int .i64 (wrap64 (rd l0 0)), .int .i64 0, .float .f64 b205, .slice none 0 0]] (by rfl) rfl rfl (by (try simp only [List.map_toArray, List.map_cons, List.map_nil]); first | done | rfl) ?_
        refine (spec_KeyBytes.calls kj1 (wrap64 (rd l0 0)) 0 b205 _ _ ([] : List Int) t207 _ ?side1 ?side2 ((spec_KeyBytes.inv0 _ _ _ _ _).symm.trans A41.out)).mono ?_
        (case side1 => exact Kd.C_nil _ _)
        (case side2 => exact Nat.le_refl _)
        rintro e w48 ⟨v208, rfl, ho0, hb⟩
        refine ⟨_, rfl, ?_⟩
        have n0_ := Aside0.mk (Kd.R_lower ho0 (below_size (hset HB.out)))
        have n1_ := Aside0.mk (blk_below (bup BK195.out) hb)
        have n2_ := Aside0.mk (blk_below (bup BK196.out) hb)
        have n3_ := Aside0.mk (below_step (hset HB.out) hb)
        clear BK195
        clear BK196
        clear HB
        have HO209 := n0_
        have BK195 := n1_
        have BK196 := n2_
        have HB := n3_
        clear n0_ n1_ n2_ n3_
        (try clear hb)
        (try clear hb2)
        (try clear hk)
        (try clear hi)
        (try clear ho0)
        have hcv50 := Kd.C_string (P := Try.prog) (A := (some ad197)) (c := c0) Try.underlying22 Try.underlying5 Try.underlying9 (Kd.C_below HR0.out HB.out)
        refine hK.out _ _ ⟨(blk_cell BK196.out 0).trans rfl, (blk_cell BK196.out 1).trans rfl, (blk_cell BK196.out 2).trans rfl, (blk_cell BK196.out 3).trans rfl, (Kd.C_below HR0.out HB.out)⟩ (fun hHeld => ?_)
        clear hK K
        refine norm_ (a' := ?_) ?_ ?_
        rotate_left
        ·show Act.put _ (some 47) _ = _
         simp only [Act.put, List.setIfInBounds_toArray, List.set_cons_zero, List.set_cons_succ, i64_w, i32_w]
         rfl
        refine one_ (i := 2) (N := some 48) #[true, true, true, true, true, false] rfl rfl (by kernel_rfl) (by decide) (fun K hK => ?_)
        have hcv49 := own_string (P := Try.prog) Try.underlying22 Try.underlying5 Try.underlying9 (Kd.own_of_R HO209.out)
        refine value_ (w1 := ?_) (v := ?_) (by rfl) rfl ?_ ?_
        rotate_left 2
        ·go_simp
         constructor
         ·rfl
         ·rfl
        clear hcv49
        refine hK.out _ _ ⟨(blk_cell BK196.out 0).trans rfl, (blk_cell BK196.out 1).trans rfl, (blk_cell BK196.out 2).trans rfl, (blk_cell BK196.out 3).trans rfl, (Kd.C_below HR0.out HB.out)⟩ (fun hHeld => ?_)
        clear hK K
        refine norm_ (a' := ?_) ?_ ?_
        rotate_left
        ·show Act.put _ (some 48) _ = _
         simp only [Act.put, List.setIfInBounds_toArray, List.set_cons_zero, List.set_cons_succ, i64_w, i32_w]
         rfl
        refine pure_ (i := 5) (N := some 51) (v := ?_) (a' := ?_) #[true, true, true, true, true, true] rfl rfl (by kernel_rfl) (fun _ _ _ h => h) (Or.inl ⟨by rfl, ?_⟩) ?_ ?_
        rotate_left
        ·intro w'
         go_simp
         with_reducible rfl
        rotate_left
        ·simp only [Act.put, List.setIfInBounds_toArray, List.set_cons_zero, List.set_cons_succ, i64_w, i32_w]
         rfl
        refine done_ (by kernel_rfl) ?_
        by_cases c42 : (strOfNums t207).toList = (strOfNums l0).toList
        ·rw [if_pos c42] at H
         have c42b0 : ((strOfNums t207).toList == (strOfNums l0).toList) = true := beq_iff_eq.mpr c42
         have c42b1 : ((strOfNums t207).toList != (strOfNums l0).toList) = false := bne_eq_false_iff_eq.mpr c42
         (try simp only [c42b0, c42b1, Bool.not_true, Bool.not_false])
         clear c42
         simp only [Option.some.injEq, Prod.mk.injEq] at H
         obtain ⟨rfl, rfl, rfl, rfl, rfl⟩ := H
         obtain ⟨hcz52_0, hcz52_1, hcz52_2, hcz52_3⟩ := blk_cells4 BK196.out
         obtain ⟨hfz52_0, hfz52_1, hfz52_2, hfz52_3⟩ := blk_frozens4 BK196.out
         obtain ⟨hcz53_0, hcz53_1, hcz53_2, hcz53_3⟩ := blk_cells4 BK195.out
         obtain ⟨hfz53_0, hfz53_1, hfz53_2, hfz53_3⟩ := blk_frozens4 BK195.out
         try go_wp2
         refine bodyPost_ret (results_ct rfl _ _ gb195 25 #[.int .i64 (wrap64 (rd l0 0)), .int .i64 0, .float .f64 b205, .slice none 0 0] (0, 0) _ rfl (bput BK195.out) Try.underlying25 rfl (by kernel_rfl)) rfl ?_
         exact ⟨_, _, by first | rfl | (simp [errW_none, errW_some] <;> rfl) | (simp [*, errW_none, errW_some] <;> rfl), by first | exact Kd.R_nil _ _ _ _ _ | exact Kd.N_nil _ _ _ _ _ | exact Kd.V_nil _ _ _ _ _ | exact Kd.Q_nil _ _ _ _ _ | exact Kd.S_nil _ _ _ _ _, hset HB.out, (by first | exact ⟨⟨rfl, LTb205.out⟩⟩ | exact ⟨⟨by first | rfl | decide, by decide⟩⟩)⟩
        ·rw [if_neg c42] at H
         have c42b0 : ((strOfNums t207).toList == (strOfNums l0).toList) = false := beq_eq_false_iff_ne.mpr c42
         have c42b1 : ((strOfNums t207).toList != (strOfNums l0).toList) = true := bne_iff_ne.mpr c42
         (try simp only [c42b0, c42b1, Bool.not_true, Bool.not_false])
         simp only [Option.some.injEq, Prod.mk.injEq] at H
         obtain ⟨rfl, rfl, rfl, rfl, rfl⟩ := H
         obtain ⟨hcz63_0, hcz63_1, hcz63_2, hcz63_3⟩ := blk_cells4 BK195.out
         obtain ⟨hfz63_0, hfz63_1, hfz63_2, hfz63_3⟩ := blk_frozens4 BK195.out
         try go_wp2
         refine bodyPost_ret (results_ct rfl _ _ gb195 25 #[.int .i64 0, .int .i64 0, .float .f64 0, .slice none 0 0] (0, 0) _ rfl (bput BK195.out) Try.underlying25 rfl (by kernel_rfl)) rfl ?_
         exact ⟨_, _, by first | rfl | (simp [errW_none, errW_some] <;> rfl) | (simp [*, errW_none, errW_some] <;> rfl), by first | exact Kd.R_nil _ _ _ _ _ | exact Kd.N_nil _ _ _ _ _ | exact Kd.V_nil _ _ _ _ _ | exact Kd.Q_nil _ _ _ _ _ | exact Kd.S_nil _ _ _ _ _, hset HB.out, (by first | exact ⟨⟨rfl, LTb205.out⟩⟩ | exact ⟨⟨by first | rfl | decide, by decide⟩⟩)⟩
       ·rw [if_neg c38] at H
        exact absurd H (by simp)
      ·rw [if_neg c37] at H
       have c37b0 : ((wrap64 (rd l0 0)) == 2) = false := beq_eq_false_iff_ne.mpr c37
       have c37b1 : ((wrap64 (rd l0 0)) != 2) = true := bne_iff_ne.mpr c37
       by_cases c64 : (wrap64 (rd l0 0)) = 3
       ·rw [if_pos c64] at H
        have c64b0 : ((wrap64 (rd l0 0)) == 3) = true := beq_iff_eq.mpr c64
        have c64b1 : ((wrap64 (rd l0 0)) != 3) = false := bne_eq_false_iff_eq.mpr c64
        clear c64
        obtain ⟨y210, hy210⟩ : ∃ y_ : List Int, y_ = (([] : List Int)) := ⟨_, rfl⟩
        replace H : (if 1 ≤ (l0.length : Int) then (if y210.length + (l0.drop 1).length < 140737488355328 then ((some (y210 ++ (l0.drop 1) : List Int)).bind fun y214 => ((spec_KeyBytes.f kj1 (wrap64 (rd l0 0)) 0 0 y214).bind fun t217 => (if (strOfNums t217).toList = (strOfNums l0).toList then (some (wrap64 (rd l0 0), 0, 0, y214, true)) else (some (0, 0, 0, ([] : List Int), false))))) else (none)) else (none)) = some (r1, r2, r3, r4, r5) := by first | (rw [hy210]; with_reducible exact H) | (have H2_ := (Option.bind_some _ _).symm.trans H; rw [hy210]; with_reducible exact H2_) | (have H2_ := (Option.bind_some _ _).symm.trans H; with_reducible exact H2_) | with_reducible exact H | (rw [hy210]; exact H) | exact H
        have Ny210 := Aside0.mk hy210
        clear hy210
        by_cases c65 : 1 ≤ (l0.length : Int)
        ·rw [if_pos c65] at H
         have c65b0 := eq_true c65
         have c65b1 : decide (1 ≤ (l0.length : Int)) = true := decide_eq_true c65
         clear c65
         by_cases c66 : y210.length + (l0.drop 1).length < 140737488355328
         ·rw [if_pos c66] at H
          have LMc66 := Aside0.mk c66
          clear c66
          obtain ⟨y214, hy214⟩ : ∃ y_ : List Int, y_ = (y210 ++ (l0.drop 1)) := ⟨_, rfl⟩
          replace H : ((spec_KeyBytes.f kj1 (wrap64 (rd l0 0)) 0 0 y214).bind fun t217 => (if (strOfNums t217).toList = (strOfNums l0).toList then (some (wrap64 (rd l0 0), 0, 0, y214, true)) else (some (0, 0, 0, ([] : List Int), false)))) = some (r1, r2, r3, r4, r5) := by first | (rw [hy214]; with_reducible exact H) | (have H2_ := (Option.bind_some _ _).symm.trans H; rw [hy214]; with_reducible exact H2_) | (have H2_ := (Option.bind_some _ _).symm.trans H; with_reducible exact H2_) | with_reducible exact H | (rw [hy214]; exact H) | exact H
          have Ny214 := Aside0.mk hy214
          clear hy214
          replace H := Option.bind_eq_some_iff.mp H
          obtain ⟨t217, A670, H⟩ := H
          (try dsimp only at H)
          have A67 := Aside0.mk A670
          clear A670
          have p197 : 0 ≤ (0 : Int) := (by omega)
          have q197 : 0 < (l0.length : Int) := of_decide_eq_true (by first | (with_reducible assumption) | assumption)
          obtain ⟨ad197, e197, hx197_0⟩ := Kd.at_int HR0.out 0 p197 q197
          cases e197
          have qi197 : (0 < l0.length) = True := eq_true (by omega)
          (try rw [show ((0 : Int)).toNat = 0 from rfl] at hx197_0)
          (try rw [Addr.add_zero'] at hx197_0)
          replace hx197_0 := (HB.out.cell (World.block_lt_of_cell? w _ hx197_0)).trans hx197_0
          replace p197 := eq_true p197
          replace q197 := eq_true q197
          have hnb69 := NB196_195.out
          have hnc69 := NB195_196.out
          obtain ⟨hcz70_0, hcz70_1, hcz70_2, hcz70_3⟩ := blk_cells4 BK196.out
          obtain ⟨hfz70_0, hfz70_1, hfz70_2, hfz70_3⟩ := blk_frozens4 BK196.out
          try go_wp2_with (first | ((with_reducible refine gate_dst (N := 41) rfl ?_); (try (refine gate_guard (by rfl) ?_; dsimp only)); refine Kd.R_lit (Kd.int .u8) _ 5 ?hg (N := 41) ?hd (xs := ([] : List Int)) (inner := []) (ok := fun _ => True) (okp := fun _ => True) ?hr ?hp (fun _ hk => hk) trivial (Below.refl _ _) (Nat.le_refl _) (by simp) ?_; (case hd => rfl); (case hg => rfl); (case hr => first | (go_simp; done) | (go_simp; rfl)); (case hp => exact (Reps.none _ _)); intro v211 w71 ho72 hb hg_ hnew_; clear hg_ hnew_; (first | rw [← Ny210.out] at ho72 | (simp only [Int.reduceToNat] at ho72; rw [← Ny210.out] at ho72)); have n0_ := Aside0.mk (Kd.R_lower ho72 (below_size (hset HB.out))); have n1_ := Aside0.mk (blk_below (g := gb195) (o := .cells #[.int .i64 0, .int .i64 0, .float .f64 0, .slice none 0 0] 25 (0, 0)) (bput BK195.out) hb); have n2_ := Aside0.mk (blk_below (g := gb196) (o := .cells #[.int .i64 (wrap64 (rd l0 0)), .int .i64 0, .float .f64 0, .slice none 0 0] 25 (0, 0)) (bput BK196.out) hb); have n3_ := Aside0.mk (below_step (hset HB.out) hb); clear BK195; clear BK196; clear HB; have HO212 := n0_; have BK195 := n1_; have BK196 := n2_; have HB := n3_; clear n0_ n1_ n2_ n3_; clear hb ho72; obtain ⟨i073, hi073, _, hsz73, _⟩ := info_parts info5; obtain ⟨A73, hcut73, hA73, hC73⟩ := print_drop_of (P := Try.prog) (Value.int .u8) 0 22 5 .i64 Try.underlying22 hi073 hsz73 (some ad197) c0 l0 1 (by omega) (of_decide_eq_true (by first | (with_reducible assumption) | assumption)) HC0.out; have HR213 := Aside0.mk (Kd.C_of_reads (h1 := fun _ => rfl) (hA73 _ (Kd.reads_of_C HR0.out))); have HC213 := Aside0.mk hC73; clear hA73 hC73 hi073 hsz73) | ((with_reducible refine gate_builtin (b := .append) (xs := #[.tmp 41, .tmp 43]) rfl ?_); (try (refine gate_guard (by rfl) ?_; dsimp only)); at_builtin; refine Kd.R_append_rows (Kd.int .u8) (w0 := w) w.heap.size rfl (.tmp 41) (.tmp 43) 22 5 (.int .u8 0) 1 rfl Try.underlying22 info5 rfl (by decide) (by omega) v211 y210 (l0.drop 1) _ _ _ (fun _ => True) (fun _ => False) rfl rfl ?aO ?aR (fun _ _ h => h) (fun _ h => h.elim) ?aF ?aB ?aS ?aL ?_; (case aR => first | (rw [← show (l0.drop 1).length = (l0.length - 1) from List.length_drop]; repeat (first | exact (Kd.C_below HR213.out HB.out) | (with_reducible refine Kd.C_alloc ?_ _) | (with_reducible refine Kd.C_drewN ?_ _) | (with_reducible refine Kd.C_drew ?_))) | (repeat (first | exact (Kd.C_below HR213.out HB.out) | (with_reducible refine Kd.C_alloc ?_ _) | (with_reducible refine Kd.C_drewN ?_ _) | (with_reducible refine Kd.C_drew ?_)))); (case aB => exact (hset HB.out)); (case aF => exact (fun _ _ => trivial)); (case aO => exact (Kd.rup HO212.out)); (case aS => exact (below_size (hset HB.out))); (case aL => have := LMc66.out; have hlx_ := (show (l0.drop 1).length = (l0.length - 1) from List.length_drop); omega); intro v215 w74 ho hb hg hat; rw [← Ny214.out] at ho; have n0_ := Aside0.mk (blk_grown (g := gb195) (o := .cells #[.int .i64 0, .int .i64 0, .float .f64 0, .slice none 0 0] 25 (0, 0)) (bup BK195.out) hg (Kd.R_ne HO212.out BK195.out (by decide))); have n1_ := Aside0.mk (blk_grown (g := gb196) (o := .cells #[.int .i64 (wrap64 (rd l0 0)), .int .i64 0, .float .f64 0, .slice none 0 0] 25 (0, 0)) (bup BK196.out) hg (Kd.R_ne HO212.out BK196.out (by decide))); have n2_ := Aside0.mk (hb); have n3_ := Aside0.mk (ho); clear BK195; clear BK196; clear HB; clear HO212; have BK195 := n0_; have BK196 := n1_; have HB := n2_; have HO216 := n3_; clear n0_ n1_ n2_ n3_; clear ho hb hg hat; obtain ⟨Ao75, co75, eo75⟩ := Kd.R_slice HO216.out; subst eo75; obtain ⟨hcz76_0, hcz76_1, hcz76_2, hcz76_3⟩ := blk_cells4 BK196.out; obtain ⟨hfz76_0, hfz76_1, hfz76_2, hfz76_3⟩ := blk_frozens4 BK196.out))
          have n0_ : Aside0 (Kd.R (Kd.int .u8) 5 (w74.setCell ⟨gb196, 3, none⟩ (.slice Ao75 y214.length co75)) w.heap.size (fun _ => True) (.slice Ao75 y214.length co75) y214) := ⟨by exact Kd.rup (Kd.R_mono (Kd.R_far (p := ⟨gb196, 3, none⟩) (Kd.R_types HO216.out BK196.out (by decide)) (fun _ hk => hk.2) (.slice Ao75 y214.length co75)) (fun _ hk => trivial))⟩
          have n1_ : Aside0 ((w74.setCell ⟨gb196, 3, none⟩ (.slice Ao75 y214.length co75)).heap[gb195]? = some (.cells #[.int .i64 0, .int .i64 0, .float .f64 0, .slice none 0 0] 25 (0, 0))) := ⟨bput BK195.out⟩
          have n2_ : Aside0 ((w74.setCell ⟨gb196, 3, none⟩ (.slice Ao75 y214.length co75)).heap[gb196]? = some (.cells #[.int .i64 (wrap64 (rd l0 0)), .int .i64 0, .float .f64 0, .slice Ao75 y214.length co75] 25 (0, 0))) := ⟨bput BK196.out⟩
          have n3_ : Aside0 (Below w.heap.size w (w74.setCell ⟨gb196, 3, none⟩ (.slice Ao75 y214.length co75))) := ⟨hset HB.out⟩
          (try clear HO216)
          (try clear BK195)
          (try clear BK196)
          (try clear HB)
          generalize (w74.setCell ⟨gb196, 3, none⟩ (.slice Ao75 y214.length co75)) = w77 at n0_ n1_ n2_ n3_ ⊢
          have HO216 := n0_
          have BK195 := n1_
          have BK196 := n2_
          have HB := n3_
          clear n0_ n1_ n2_ n3_
          have n0_ := Aside0.mk (Kd.R_drew HO216.out)
          have n1_ := Aside0.mk (blk_drew BK195.out)
          have n2_ := Aside0.mk (blk_drew BK196.out)
          have n3_ := Aside0.mk (below_drew1 HB.out)
          clear HO216
          clear BK195
          clear BK196
          clear HB
          have HO216 := n0_
          have BK195 := n1_
          have BK196 := n2_
          have HB := n3_
          clear n0_ n1_ n2_ n3_
          refine start_ (n := 6) (S := fun w' => w'.cell? ⟨gb196, 0, none⟩ = some (.int .i64 (wrap64 (rd l0 0))) ∧ w'.cell? ⟨gb196, 1, none⟩ = some (.int .i64 0) ∧ w'.cell? ⟨gb196, 2, none⟩ = some (.float .f64 0) ∧ w'.cell? ⟨gb196, 3, none⟩ = some (.slice Ao75 y214.length co75) ∧ Kd.C (Kd.int .u8) w' (some ad197) l0.length l0) (ds := []) #[false, false, false, false, false, false] (by kernel_rfl) rfl rfl ⟨(blk_cell BK196.out 0).trans rfl, (blk_cell BK196.out 1).trans rfl, (blk_cell BK196.out 2).trans rfl, (blk_cell BK196.out 3).trans rfl, (Kd.C_below HR0.out HB.out)⟩ (fun hHeld => ?_)
          generalize w77.drew = w78 at HO216 BK195 BK196 HB hHeld ⊢
          refine pure_ (i := 3) (N := some 49) (v := ?_) (a' := ?_) #[false, false, false, true, false, false] rfl rfl (by kernel_rfl) (fun _ _ _ h => h) (Or.inl ⟨by rfl, ?_⟩) ?_ ?_
          rotate_left
          ·intro w'
           go_simp
           with_reducible rfl
          rotate_left
          ·simp only [Act.put, List.setIfInBounds_toArray, List.set_cons_zero, List.set_cons_succ, i64_w, i32_w]
           rfl
          refine take_ (i := 4) (N := some 50) (v := ?_) (a' := ?_) #[false, false, false, true, true, false] rfl rfl (by kernel_rfl) (fun _ _ _ h => h) (Or.inl ⟨by rfl, ?_⟩) hHeld ?_ ?_
          rotate_left
          ·rintro w' ⟨s0, s1, s2, s3, sC⟩
           have hcv_ := Kd.C_string (P := Try.prog) (A := (some ad197)) (c := c0) Try.underlying22 Try.underlying5 Try.underlying9 sC
           go_simp
           with_reducible rfl
          rotate_left
          ·simp only [Act.put, List.setIfInBounds_toArray, List.set_cons_zero, List.set_cons_succ, i64_w, i32_w]
           rfl
          refine take_ (i := 0) (N := some 46) (v := ?_) (a' := ?_) #[true, false, false, true, true, false] rfl rfl (by kernel_rfl) (fun _ _ _ h => h) (Or.inl ⟨by rfl, ?_⟩) hHeld ?_ ?_
          rotate_left
          ·rintro w' ⟨s0, s1, s2, s3, sC⟩
           go_simp
           with_reducible rfl
          rotate_left
          ·simp only [Act.put, List.setIfInBounds_toArray, List.set_cons_zero, List.set_cons_succ, i64_w, i32_w]
           rfl
          refine one_ (i := 1) (N := some 47) #[true, true, false, true, true, false] rfl rfl (by kernel_rfl) (by decide) (fun K hK => ?_)
          refine goes_ Try.func54 (by kernel_rfl) rfl #[.agg #[.int .i64 (wrap64 (rd l0 0)), .int .i64 0, .float .f64 0, .slice Ao75 y214.length co75]] (by rfl) rfl rfl (by (try simp only [List.map_toArray, List.map_cons, List.map_nil]); first | done | rfl) ?_
          with_reducible refine (spec_KeyBytes.calls kj1 (wrap64 (rd l0 0)) 0 0 _ _ y214 t217 _ ?side1 ?side2 A67.out).mono ?_
          (case side1 => repeat (first | exact (Kd.R_reads' HO216.out).2.2 | (with_reducible refine Kd.C_alloc ?_ _) | (with_reducible refine Kd.C_drewN ?_ _) | (with_reducible refine Kd.C_drew ?_)))
          (case side2 => exact (Kd.R_reads' HO216.out).2.1)
          rintro e w79 ⟨v218, rfl, ho0, hb⟩
          refine ⟨_, rfl, ?_⟩
          have n0_ := Aside0.mk (Kd.R_elder' (Kd.rup HO216.out) (Kd.R_base ho0) hb)
          have n1_ := Aside0.mk (Kd.R_lower (Kd.R_new' ho0 (Kd.R_lt (Kd.rup HO216.out))) (below_size (hset HB.out)))
          have n2_ := Aside0.mk (blk_below (bup BK195.out) hb)
          have n3_ := Aside0.mk (blk_below (bup BK196.out) hb)
          have n4_ := Aside0.mk (below_step (hset HB.out) hb)
          clear HO216
          clear BK195
          clear BK196
          clear HB
          have HO216 := n0_
          have HO219 := n1_
          have BK195 := n2_
          have BK196 := n3_
          have HB := n4_
          clear n0_ n1_ n2_ n3_ n4_
          (try clear hb)
          (try clear hb2)
          (try clear hk)
          (try clear hi)
          (try clear ho0)
          have hcv81 := Kd.C_string (P := Try.prog) (A := (some ad197)) (c := c0) Try.underlying22 Try.underlying5 Try.underlying9 (Kd.C_below HR0.out HB.out)
          refine hK.out _ _ ⟨(blk_cell BK196.out 0).trans rfl, (blk_cell BK196.out 1).trans rfl, (blk_cell BK196.out 2).trans rfl, (blk_cell BK196.out 3).trans rfl, (Kd.C_below HR0.out HB.out)⟩ (fun hHeld => ?_)
          clear hK K
          refine norm_ (a' := ?_) ?_ ?_
          rotate_left
          ·show Act.put _ (some 47) _ = _
           simp only [Act.put, List.setIfInBounds_toArray, List.set_cons_zero, List.set_cons_succ, i64_w, i32_w]
           rfl
          refine one_ (i := 2) (N := some 48) #[true, true, true, true, true, false] rfl rfl (by kernel_rfl) (by decide) (fun K hK => ?_)
          have hcv80 := own_string (P := Try.prog) Try.underlying22 Try.underlying5 Try.underlying9 (Kd.own_of_R HO219.out)
          refine value_ (w1 := ?_) (v := ?_) (by rfl) rfl ?_ ?_
          rotate_left 2
          ·go_simp
           constructor
           ·rfl
           ·rfl
          clear hcv80
          refine hK.out _ _ ⟨(blk_cell BK196.out 0).trans rfl, (blk_cell BK196.out 1).trans rfl, (blk_cell BK196.out 2).trans rfl, (blk_cell BK196.out 3).trans rfl, (Kd.C_below HR0.out HB.out)⟩ (fun hHeld => ?_)
          clear hK K
          refine norm_ (a' := ?_) ?_ ?_
          rotate_left
          ·show Act.put _ (some 48) _ = _
           simp only [Act.put, List.setIfInBounds_toArray, List.set_cons_zero, List.set_cons_succ, i64_w, i32_w]
           rfl
          refine pure_ (i := 5) (N := some 51) (v := ?_) (a' := ?_) #[true, true, true, true, true, true] rfl rfl (by kernel_rfl) (fun _ _ _ h => h) (Or.inl ⟨by rfl, ?_⟩) ?_ ?_
          rotate_left
          ·intro w'
           go_simp
           with_reducible rfl
          rotate_left
          ·simp only [Act.put, List.setIfInBounds_toArray, List.set_cons_zero, List.set_cons_succ, i64_w, i32_w]
           rfl
          refine done_ (by kernel_rfl) ?_
          by_cases c68 : (strOfNums t217).toList = (strOfNums l0).toList
          ·rw [if_pos c68] at H
           have c68b0 : ((strOfNums t217).toList == (strOfNums l0).toList) = true := beq_iff_eq.mpr c68
           have c68b1 : ((strOfNums t217).toList != (strOfNums l0).toList) = false := bne_eq_false_iff_eq.mpr c68
           (try simp only [c68b0, c68b1, Bool.not_true, Bool.not_false])
           clear c68
           simp only [Option.some.injEq, Prod.mk.injEq] at H
           obtain ⟨rfl, rfl, rfl, rfl, rfl⟩ := H
           obtain ⟨hcz83_0, hcz83_1, hcz83_2, hcz83_3⟩ := blk_cells4 BK196.out
           obtain ⟨hfz83_0, hfz83_1, hfz83_2, hfz83_3⟩ := blk_frozens4 BK196.out
           obtain ⟨hcz84_0, hcz84_1, hcz84_2, hcz84_3⟩ := blk_cells4 BK195.out
           obtain ⟨hfz84_0, hfz84_1, hfz84_2, hfz84_3⟩ := blk_frozens4 BK195.out
           try go_wp2
           refine bodyPost_ret (results_ct rfl _ _ gb195 25 #[.int .i64 (wrap64 (rd l0 0)), .int .i64 0, .float .f64 0, .slice Ao75 y214.length co75] (0, 0) _ rfl (bput BK195.out) Try.underlying25 rfl (by kernel_rfl)) rfl ?_
           exact ⟨_, _, by first | rfl | (simp [errW_none, errW_some] <;> rfl) | (simp [*, errW_none, errW_some] <;> rfl), by exact Kd.rup (Kd.R_mono (Kd.R_far (p := ⟨gb195, 3, none⟩) (Kd.R_far (p := ⟨gb195, 2, none⟩) (Kd.R_far (p := ⟨gb195, 1, none⟩) (Kd.R_far (p := ⟨gb195, 0, none⟩) (Kd.R_types HO216.out BK195.out (by decide)) (fun _ hk => hk.2) (.int .i64 (wrap64 (rd l0 0)))) (fun _ hk => hk.2) (.int .i64 0)) (fun _ hk => hk.2) (.float .f64 0)) (fun _ hk => hk.2) (.slice Ao75 y214.length co75)) (fun _ hk => trivial)), hset HB.out, (by first | exact ⟨⟨by first | rfl | decide, by decide⟩⟩)⟩
          ·rw [if_neg c68] at H
           have c68b0 : ((strOfNums t217).toList == (strOfNums l0).toList) = false := beq_eq_false_iff_ne.mpr c68
           have c68b1 : ((strOfNums t217).toList != (strOfNums l0).toList) = true := bne_iff_ne.mpr c68
           (try simp only [c68b0, c68b1, Bool.not_true, Bool.not_false])
           simp only [Option.some.injEq, Prod.mk.injEq] at H
           obtain ⟨rfl, rfl, rfl, rfl, rfl⟩ := H
           obtain ⟨hcz99_0, hcz99_1, hcz99_2, hcz99_3⟩ := blk_cells4 BK195.out
           obtain ⟨hfz99_0, hfz99_1, hfz99_2, hfz99_3⟩ := blk_frozens4 BK195.out
           try go_wp2
           refine bodyPost_ret (results_ct rfl _ _ gb195 25 #[.int .i64 0, .int .i64 0, .float .f64 0, .slice none 0 0] (0, 0) _ rfl (bput BK195.out) Try.underlying25 rfl (by kernel_rfl)) rfl ?_
           exact ⟨_, _, by first | rfl | (simp [errW_none, errW_some] <;> rfl) | (simp [*, errW_none, errW_some] <;> rfl), by first | exact Kd.R_nil _ _ _ _ _ | exact Kd.N_nil _ _ _ _ _ | exact Kd.V_nil _ _ _ _ _ | exact Kd.Q_nil _ _ _ _ _ | exact Kd.S_nil _ _ _ _ _, hset HB.out, (by first | exact ⟨⟨by first | rfl | decide, by decide⟩⟩)⟩
         ·rw [if_neg c66] at H
          exact absurd H (by simp)
        ·rw [if_neg c65] at H
         exact absurd H (by simp)
       ·rw [if_neg c64] at H
        have c64b0 : ((wrap64 (rd l0 0)) == 3) = false := beq_eq_false_iff_ne.mpr c64
        have c64b1 : ((wrap64 (rd l0 0)) != 3) = true := bne_iff_ne.mpr c64
        replace H := Option.bind_eq_some_iff.mp H
        obtain ⟨t220, A1000, H⟩ := H
        (try dsimp only at H)
        have A100 := Aside0.mk A1000
        clear A1000
        have p197 : 0 ≤ (0 : Int) := (by omega)
        have q197 : 0 < (l0.length : Int) := of_decide_eq_true (by first | (with_reducible assumption) | assumption)
        obtain ⟨ad197, e197, hx197_0⟩ := Kd.at_int HR0.out 0 p197 q197
        cases e197
        have qi197 : (0 < l0.length) = True := eq_true (by omega)
        (try rw [show ((0 : Int)).toNat = 0 from rfl] at hx197_0)
        (try rw [Addr.add_zero'] at hx197_0)
        replace hx197_0 := (HB.out.cell (World.block_lt_of_cell? w _ hx197_0)).trans hx197_0
        replace p197 := eq_true p197
        replace q197 := eq_true q197
        have hnb102 := NB196_195.out
        have hnc102 := NB195_196.out
        obtain ⟨hcz103_0, hcz103_1, hcz103_2, hcz103_3⟩ := blk_cells4 BK196.out
        obtain ⟨hfz103_0, hfz103_1, hfz103_2, hfz103_3⟩ := blk_frozens4 BK196.out
        try go_wp2
        have n0_ : Aside0 ((wc.setCell ⟨gb196, 0, none⟩ (.int .i64 (wrap64 (rd l0 0)))).heap[gb195]? = some (.cells #[.int .i64 0, .int .i64 0, .float .f64 0, .slice none 0 0] 25 (0, 0))) := ⟨bput BK195.out⟩
        have n1_ : Aside0 ((wc.setCell ⟨gb196, 0, none⟩ (.int .i64 (wrap64 (rd l0 0)))).heap[gb196]? = some (.cells #[.int .i64 (wrap64 (rd l0 0)), .int .i64 0, .float .f64 0, .slice none 0 0] 25 (0, 0))) := ⟨bput BK196.out⟩
        have n2_ : Aside0 (Below w.heap.size w (wc.setCell ⟨gb196, 0, none⟩ (.int .i64 (wrap64 (rd l0 0))))) := ⟨hset HB.out⟩
        (try clear BK195)
        (try clear BK196)
        (try clear HB)
        generalize (wc.setCell ⟨gb196, 0, none⟩ (.int .i64 (wrap64 (rd l0 0)))) = w104 at n0_ n1_ n2_ ⊢
        have BK195 := n0_
        have BK196 := n1_
        have HB := n2_
        clear n0_ n1_ n2_
        have n0_ := Aside0.mk (blk_drew BK195.out)
        have n1_ := Aside0.mk (blk_drew BK196.out)
        have n2_ := Aside0.mk (below_drew1 HB.out)
        clear BK195
        clear BK196
        clear HB
        have BK195 := n0_
        have BK196 := n1_
        have HB := n2_
        clear n0_ n1_ n2_
        refine start_ (n := 6) (S := fun w' => w'.cell? ⟨gb196, 0, none⟩ = some (.int .i64 (wrap64 (rd l0 0))) ∧ w'.cell? ⟨gb196, 1, none⟩ = some (.int .i64 0) ∧ w'.cell? ⟨gb196, 2, none⟩ = some (.float .f64 0) ∧ w'.cell? ⟨gb196, 3, none⟩ = some (.slice none 0 0) ∧ Kd.C (Kd.int .u8) w' (some ad197) l0.length l0) (ds := []) #[false, false, false, false, false, false] (by kernel_rfl) rfl rfl ⟨(blk_cell BK196.out 0).trans rfl, (blk_cell BK196.out 1).trans rfl, (blk_cell BK196.out 2).trans rfl, (blk_cell BK196.out 3).trans rfl, (Kd.C_below HR0.out HB.out)⟩ (fun hHeld => ?_)
        generalize w104.drew = w105 at BK195 BK196 HB hHeld ⊢
        refine pure_ (i := 3) (N := some 49) (v := ?_) (a' := ?_) #[false, false, false, true, false, false] rfl rfl (by kernel_rfl) (fun _ _ _ h => h) (Or.inl ⟨by rfl, ?_⟩) ?_ ?_
        rotate_left
        ·intro w'
         go_simp
         with_reducible rfl
        rotate_left
        ·simp only [Act.put, List.setIfInBounds_toArray, List.set_cons_zero, List.set_cons_succ, i64_w, i32_w]
         rfl
        refine take_ (i := 4) (N := some 50) (v := ?_) (a' := ?_) #[false, false, false, true, true, false] rfl rfl (by kernel_rfl) (fun _ _ _ h => h) (Or.inl ⟨by rfl, ?_⟩) hHeld ?_ ?_
        rotate_left
        ·rintro w' ⟨s0, s1, s2, s3, sC⟩
         have hcv_ := Kd.C_string (P := Try.prog) (A := (some ad197)) (c := c0) Try.underlying22 Try.underlying5 Try.underlying9 sC
         go_simp
         with_reducible rfl
        rotate_left
        ·simp only [Act.put, List.setIfInBounds_toArray, List.set_cons_zero, List.set_cons_succ, i64_w, i32_w]
         rfl
        refine take_ (i := 0) (N := some 46) (v := ?_) (a' := ?_) #[true, false, false, true, true, false] rfl rfl (by kernel_rfl) (fun _ _ _ h => h) (Or.inl ⟨by rfl, ?_⟩) hHeld ?_ ?_
        rotate_left
        ·rintro w' ⟨s0, s1, s2, s3, sC⟩
         go_simp
         with_reducible rfl
        rotate_left
        ·simp only [Act.put, List.setIfInBounds_toArray, List.set_cons_zero, List.set_cons_succ, i64_w, i32_w]
         rfl
        refine one_ (i := 1) (N := some 47) #[true, true, false, true, true, false] rfl rfl (by kernel_rfl) (by decide) (fun K hK => ?_)
        refine goes_ Try.func54 (by kernel_rfl) rfl #[.agg #[.int .i64 (wrap64 (rd l0 0)), .int .i64 0, .float .f64 0, .slice none 0 0]] (by rfl) rfl rfl (by (try simp only [List.map_toArray, List.map_cons, List.map_nil]); first | done | rfl) ?_
        refine (spec_KeyBytes.calls kj1 (wrap64 (rd l0 0)) 0 0 _ _ ([] : List Int) t220 _ ?side1 ?side2 A100.out).mono ?_
        (case side1 => exact Kd.C_nil _ _)
        (case side2 => exact Nat.le_refl _)
        rintro e w106 ⟨v221, rfl, ho0, hb⟩
        refine ⟨_, rfl, ?_⟩
        have n0_ := Aside0.mk (Kd.R_lower ho0 (below_size (hset HB.out)))
        have n1_ := Aside0.mk (blk_below (bup BK195.out) hb)
        have n2_ := Aside0.mk (blk_below (bup BK196.out) hb)
        have n3_ := Aside0.mk (below_step (hset HB.out) hb)
        clear BK195
        clear BK196
        clear HB
        have HO222 := n0_
        have BK195 := n1_
        have BK196 := n2_
        have HB := n3_
        clear n0_ n1_ n2_ n3_
        (try clear hb)
        (try clear hb2)
        (try clear hk)
        (try clear hi)
        (try clear ho0)
        have hcv108 := Kd.C_string (P := Try.prog) (A := (some ad197)) (c := c0) Try.underlying22 Try.underlying5 Try.underlying9 (Kd.C_below HR0.out HB.out)
        refine hK.out _ _ ⟨(blk_cell BK196.out 0).trans rfl, (blk_cell BK196.out 1).trans rfl, (blk_cell BK196.out 2).trans rfl, (blk_cell BK196.out 3).trans rfl, (Kd.C_below HR0.out HB.out)⟩ (fun hHeld => ?_)
        clear hK K
        refine norm_ (a' := ?_) ?_ ?_
        rotate_left
        ·show Act.put _ (some 47) _ = _
         simp only [Act.put, List.setIfInBounds_toArray, List.set_cons_zero, List.set_cons_succ, i64_w, i32_w]
         rfl
        refine one_ (i := 2) (N := some 48) #[true, true, true, true, true, false] rfl rfl (by kernel_rfl) (by decide) (fun K hK => ?_)
        have hcv107 := own_string (P := Try.prog) Try.underlying22 Try.underlying5 Try.underlying9 (Kd.own_of_R HO222.out)
        refine value_ (w1 := ?_) (v := ?_) (by rfl) rfl ?_ ?_
        rotate_left 2
        ·go_simp
         constructor
         ·rfl
         ·rfl
        clear hcv107
        refine hK.out _ _ ⟨(blk_cell BK196.out 0).trans rfl, (blk_cell BK196.out 1).trans rfl, (blk_cell BK196.out 2).trans rfl, (blk_cell BK196.out 3).trans rfl, (Kd.C_below HR0.out HB.out)⟩ (fun hHeld => ?_)
        clear hK K
        refine norm_ (a' := ?_) ?_ ?_
        rotate_left
        ·show Act.put _ (some 48) _ = _
         simp only [Act.put, List.setIfInBounds_toArray, List.set_cons_zero, List.set_cons_succ, i64_w, i32_w]
         rfl
        refine pure_ (i := 5) (N := some 51) (v := ?_) (a' := ?_) #[true, true, true, true, true, true] rfl rfl (by kernel_rfl) (fun _ _ _ h => h) (Or.inl ⟨by rfl, ?_⟩) ?_ ?_
        rotate_left
        ·intro w'
         go_simp
         with_reducible rfl
        rotate_left
        ·simp only [Act.put, List.setIfInBounds_toArray, List.set_cons_zero, List.set_cons_succ, i64_w, i32_w]
         rfl
        refine done_ (by kernel_rfl) ?_
        by_cases c101 : (strOfNums t220).toList = (strOfNums l0).toList
        ·rw [if_pos c101] at H
         have c101b0 : ((strOfNums t220).toList == (strOfNums l0).toList) = true := beq_iff_eq.mpr c101
         have c101b1 : ((strOfNums t220).toList != (strOfNums l0).toList) = false := bne_eq_false_iff_eq.mpr c101
         (try simp only [c101b0, c101b1, Bool.not_true, Bool.not_false])
         clear c101
         simp only [Option.some.injEq, Prod.mk.injEq] at H
         obtain ⟨rfl, rfl, rfl, rfl, rfl⟩ := H
         obtain ⟨hcz110_0, hcz110_1, hcz110_2, hcz110_3⟩ := blk_cells4 BK196.out
         obtain ⟨hfz110_0, hfz110_1, hfz110_2, hfz110_3⟩ := blk_frozens4 BK196.out
         obtain ⟨hcz111_0, hcz111_1, hcz111_2, hcz111_3⟩ := blk_cells4 BK195.out
         obtain ⟨hfz111_0, hfz111_1, hfz111_2, hfz111_3⟩ := blk_frozens4 BK195.out
         try go_wp2
         refine bodyPost_ret (results_ct rfl _ _ gb195 25 #[.int .i64 (wrap64 (rd l0 0)), .int .i64 0, .float .f64 0, .slice none 0 0] (0, 0) _ rfl (bput BK195.out) Try.underlying25 rfl (by kernel_rfl)) rfl ?_
         exact ⟨_, _, by first | rfl | (simp [errW_none, errW_some] <;> rfl) | (simp [*, errW_none, errW_some] <;> rfl), by first | exact Kd.R_nil _ _ _ _ _ | exact Kd.N_nil _ _ _ _ _ | exact Kd.V_nil _ _ _ _ _ | exact Kd.Q_nil _ _ _ _ _ | exact Kd.S_nil _ _ _ _ _, hset HB.out, (by first | exact ⟨⟨by first | rfl | decide, by decide⟩⟩)⟩
        ·rw [if_neg c101] at H
         have c101b0 : ((strOfNums t220).toList == (strOfNums l0).toList) = false := beq_eq_false_iff_ne.mpr c101
         have c101b1 : ((strOfNums t220).toList != (strOfNums l0).toList) = true := bne_iff_ne.mpr c101
         (try simp only [c101b0, c101b1, Bool.not_true, Bool.not_false])
         simp only [Option.some.injEq, Prod.mk.injEq] at H
         obtain ⟨rfl, rfl, rfl, rfl, rfl⟩ := H
         obtain ⟨hcz120_0, hcz120_1, hcz120_2, hcz120_3⟩ := blk_cells4 BK195.out
         obtain ⟨hfz120_0, hfz120_1, hfz120_2, hfz120_3⟩ := blk_frozens4 BK195.out
         try go_wp2
         refine bodyPost_ret (results_ct rfl _ _ gb195 25 #[.int .i64 0, .int .i64 0, .float .f64 0, .slice none 0 0] (0, 0) _ rfl (bput BK195.out) Try.underlying25 rfl (by kernel_rfl)) rfl ?_
         exact ⟨_, _, by first | rfl | (simp [errW_none, errW_some] <;> rfl) | (simp [*, errW_none, errW_some] <;> rfl), by first | exact Kd.R_nil _ _ _ _ _ | exact Kd.N_nil _ _ _ _ _ | exact Kd.V_nil _ _ _ _ _ | exact Kd.Q_nil _ _ _ _ _ | exact Kd.S_nil _ _ _ _ _, hset HB.out, (by first | exact ⟨⟨by first | rfl | decide, by decide⟩⟩)⟩
    ·rw [if_neg c10] at H
     exact absurd H (by simp)
def spec_l5in.f (a0 : Int) (a1 : Int) (a2 : Int) : Option (Bool) := if a0 ≥ a1 then (some (decide (a0 ≤ a2))) else (some false)
set_option maxHeartbeats 8000000 in
set_option maxRecDepth 100000 in
theorem spec_l5in.calls (a0 : Int) (a1 : Int) (a2 : Int) (r : Bool) (w : World) (h : spec_l5in.f a0 a1 a2 = some r) :
    Calls Try.prog 78 #[.int .i64 a0, .int .i64 a1, .int .i64 a2] w fun e w' => e = .returned (.bool r) ∧ Drawn0 w w' := by
  have H := h
  clear h
  unfold spec_l5in.f at H
  by_cases c4 : a0 ≥ a1
  · rw [if_pos c4] at H
    have c4b0 : decide (a1 ≤ a0) = true := decide_eq_true c4
    clear c4
    obtain rfl := Option.some.inj H
    go_enter Try.func78, Try.ntmps78
    go_wp2
    go_ret
    exact ⟨by first | rfl | (simp; done) | (simp [*]; done), by repeat (first | exact Drawn0.refl _ | apply Drawn0.step)⟩
  · rw [if_neg c4] at H
    have c4b0 : decide (a1 ≤ a0) = false := decide_eq_false c4
    clear c4
    obtain rfl := Option.some.inj H
    go_enter Try.func78, Try.ntmps78
    go_wp2
    go_ret
    exact ⟨by first | rfl | (simp; done) | (simp [*]; done), by repeat (first | exact Drawn0.refl _ | apply Drawn0.step)⟩
end Go.Proofs.Ytjjkhlphdbmdfaa.PFnExactTupleRead
