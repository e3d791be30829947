import Derived.Test.YtjjkhlphdbmdfaaZFnKeys29
import Derived.Test.YtjjkhlphdbmdfaaZFnKeys30
import Derived.Test.YtjjkhlphdbmdfaaZFnKeys32
import Derived.Test.YtjjkhlphdbmdfaaZFnKeys33
import Derived.Test.YtjjkhlphdbmdfaaZFnKeys35
import Derived.Test.YtjjkhlphdbmdfaaZFnKeys36
namespace Go.Proofs.Ytjjkhlphdbmdfaa.PFnKeys
open Go.RowKit Go.Proofs.YtjjkhlphdbmdfaaW.PrintWords Go.Proofs.YtjjkhlphdbmdfaaW.PrintLast Go.Proofs.YtjjkhlphdbmdfaaW.PrintMore
attribute [local go_sem] max2_int min2_int max_two min_two max_three min_three max_four min_four   -- for this text's walks alone
attribute [local go_sem high] fl_eql fl_neq fl_lss fl_leq fl_gtr fl_geq fl_add fl_sub fl_mul fl_quo fl_neg fl_ofInt fl_toInt fl_store sub_sign ext_bits ext_from fl_nan_quo fl_nan_add fl_nan_mul fl_nan_sub
open Go.Proofs.YtjjkhlphdbmdfaaW.PrintWords renaming below_alloc → h1, pw_below_drewN → h2, below_drew1 → h3, below_set → h4, blk_drewN → b1, blk_drew → b2, blk_alloc → b3
set_option linter.unusedVariables false
set_option linter.unusedSimpArgs false
def spec_DrawValueBytes.f (k : Nat) (l0 : List Int) : Option (Int × Int × Nat × List Int) := (spec_l1New.f k l0).bind fun bt498 => ((spec_l3value.f k bt498.1 bt498.2.1 bt498.2.2).bind fun bt502 => ((spec_l1Once.f bt498.1 bt502.2.2.2.2.1 bt502.2.2.2.2.2 4).bind fun bt511 => (if bt511.1 = true then ((spec_l3any.f k bt498.1 bt511.2.1 bt511.2.2).bind fun bt514 => (some (bt514.1, bt514.2.1, bt514.2.2.1, bt514.2.2.2.1))) else (some (bt502.1, bt502.2.1, bt502.2.2.1, bt502.2.2.2.1)))))
theorem spec_DrawValueBytes.mono : ∀ a0 k, LeO (spec_DrawValueBytes.f k a0) (spec_DrawValueBytes.f (k + 1) a0) := by
 intro a0 k
 unfold spec_DrawValueBytes.f
 repeat' with_reducible first | exact spec_l1New.mono _ _ | exact spec_l3any.mono _ _ _ _ | exact spec_l3value.mono _ _ _ _ | exact LeO.refl _ | exact LeO.none _ | refine LeO.ite ?_ ?_ | refine LeO.bind ?_ (fun _ => ?_)
set_option maxHeartbeats 8000000 in
set_option maxRecDepth 100000 in
theorem spec_DrawValueBytes.callsC (k : Nat) (A0 : Option Addr) (c0 : Nat) (l0 : List Int) (r1 : Int) (r2 : Int) (r3 : Nat) (r4 : List Int) (w : World) (hr0 : Kd.C (Kd.int .u8) w A0 l0.length l0) (hc0 : l0.length ≤ c0) (h : spec_DrawValueBytes.f k l0 = some (r1, r2, r3, r4)) :
  Calls Try.prog 26 #[.slice A0 l0.length c0] w fun e w' => ∃ b1_ : Nat, ∃ v3_ : Value, e = .returned (.agg #[.int .i64 r1, .int .i64 r2, .float .f64 b1_, v3_]) ∧ Kd.R (Kd.int .u8) 5 w' w.heap.size (fun _ => True) v3_ r4 ∧ Below w.heap.size w w' ∧ Aside0 (cn b1_ = r3 ∧ b1_ < 2 ^ 64) := by
 have hu25 := Try.underlying25
 have HR0 := Aside0.mk hr0
 have HC0 := Aside0.mk hc0
 clear hr0 hc0
 have HB := Aside0.mk (Below.refl w.heap.size w)
 have H := h
 clear h
 unfold spec_DrawValueBytes.f at H
 replace H := Option.bind_eq_some_iff.mp H
 obtain ⟨⟨t498, t499, t500⟩, A20, H⟩ := H
 (try dsimp only at H)
 have A2 := Aside0.mk A20
 clear A20
 replace H := Option.bind_eq_some_iff.mp H
 obtain ⟨⟨t502, t503, t504, t505, t508, t509⟩, A30, H⟩ := H
 (try dsimp only at H)
 have A3 := Aside0.mk A30
 clear A30
 replace H := Option.bind_eq_some_iff.mp H
 obtain ⟨⟨t511, t512, t513⟩, A40, H⟩ := H
 (try dsimp only at H)
 have A4 := Aside0.mk A40
 clear A40
 go_enter Try.func26, Try.ntmps26
 repeat (first | ((with_reducible refine gate_dst (N := 2) rfl ?_); refine box_event ?hg (N := 2) ?hd (cs := #[.int .i64 0, .int .i64 0, .float .f64 0, .slice none 0 0]) (t := 25) ?hr ?_; (case hd => rfl); (case hg => rfl); (case hr => first | (go_simp; done) | (go_simp; rfl)); intro gb497 hg w7 hbox hb; have n0_ := Aside0.mk (below_step (hup HB.out) hb); have n1_ := Aside0.mk (hbox); have n2_ := Geq.mk ((by rw [hg]; exact (below_size (hup HB.out)) : w.heap.size ≤ gb497)); have n3_ := Geq.mk ((by rw [hg]; exact (below_size (hup HB.out)) : w.heap.size ≤ gb497)); clear HB; have HB := n0_; have BK497 := n1_; have GW497 := n2_; have GE497 := n3_; clear n0_ n1_ n2_ n3_; clear hb hbox hg) | ((with_reducible refine gate_callee (f := 57) rfl ?_); refine goesL_ (some 6) rfl rfl Try.func57 (by kernel_rfl) rfl #[.slice A0 l0.length c0] rfl (by (try simp only [List.map_toArray, List.map_cons, List.map_nil]); first | done | rfl) ?_; (with_reducible refine (spec_l1New.calls k _ _ l0 t498 t499 t500 w _ ?side1 ?side2 ?side3 A2.out).mono ?_); (case side1 => with_reducible repeat (first | exact HB.out | refine h4 ?_ GE497.out | apply h1 | apply h2 | apply h3)); (case side2 => exact HR0.out); (case side3 => exact HC0.out); rintro e w8 ⟨g501, rfl, hi, hb, hb2⟩; refine ⟨_, rfl, ?_⟩; have n0_ := Aside0.mk (blk_below (bup BK497.out) hb2); have n1_ := Aside0.mk (hb); have n2_ := Aside0.mk (hi); have n3_ := Aside0.mk (IsS83.ne_blk hi (blk_below (bup BK497.out) hb2) (by decide)); have n4_ := Aside0.mk (Ne.symm (IsS83.ne_blk hi (blk_below (bup BK497.out) hb2) (by decide))); clear BK497; clear HB; have BK497 := n0_; have HB := n1_; have HI501 := n2_; have NB501_497 := n3_; have NB497_501 := n4_; clear n0_ n1_ n2_ n3_ n4_; (try clear hb); (try clear hb2); (try clear hk); (try clear hi)) | ((with_reducible refine gate_callee (f := 66) rfl ?_); refine goesL_ (some 8) rfl rfl Try.func66 (by kernel_rfl) rfl #[.pointer (some ⟨g501, 0, none⟩)] rfl (by (try simp only [List.map_toArray, List.map_cons, List.map_nil]); first | done | rfl) ?_; (with_reducible refine (spec_l3value.callsC k g501 t498 t499 t500 t502 t503 t504 t505 t508 t509 w _ ?side1 ?side2 A3.out).mono ?_); (case side1 => repeat (first | (with_reducible first | exact HI501.out | apply IsS83.alloc | apply IsS83.drewN | apply IsS83.drew | apply IsS83.set_1 | apply IsS83.set_2 | refine IsS83.far ?_ NB501_497.out _) | exact HI501.out)); (case side2 => repeat (first | (with_reducible first | exact HB.out | apply h1 | apply h2 | apply h3 | refine h4 ?_ (IsS83.ge HI501.out) | refine h4 ?_ GE497.out) | exact HB.out)); rintro e w9 ⟨b504, v506, rfl, ho0, hi, hb, hk, ⟨⟨hcnb504, hltb504⟩⟩⟩; refine ⟨_, rfl, ?_⟩; have LTb504 := Aside0.mk hltb504; clear hltb504; subst hcnb504; have n0_ := Aside0.mk (KeepBut.blk hk (g' := gb497) (o := .cells #[.int .i64 0, .int .i64 0, .float .f64 0, .slice none 0 0] 25 (0, 0)) (bup BK497.out) NB497_501.out (by simp)); have n1_ := Aside0.mk (Kd.R_lower ho0 (below_size (by repeat (first | (with_reducible first | exact HB.out | apply h1 | apply h2 | apply h3 | refine h4 ?_ (IsS83.ge HI501.out) | refine h4 ?_ GE497.out) | exact HB.out)))); have n2_ := Aside0.mk (hb); have n3_ := Aside0.mk (hi); clear BK497; clear HB; clear HI501; have BK497 := n0_; have HO507 := n1_; have HB := n2_; have HI501 := n3_; clear n0_ n1_ n2_ n3_; (try clear hb); (try clear hb2); (try clear hk); (try clear hi); (try clear ho0)) | ((with_reducible refine gate_dst (N := 4) rfl ?_); refine box_event ?hg (N := 4) ?hd (cs := #[.int .i64 0, .int .i64 0, .float .f64 0, .slice none 0 0]) (t := 25) ?hr ?_; (case hd => rfl); (case hg => rfl); (case hr => first | (go_simp; done) | (go_simp; rfl)); intro gb510 hg w10 hbox hb; have n0_ := Aside0.mk (Kd.R_below (Kd.rup HO507.out) hb); have n1_ := Aside0.mk (blk_below (bup BK497.out) hb); have n2_ := Aside0.mk (IsS83.below (by repeat (first | (with_reducible first | exact HI501.out | apply IsS83.alloc | apply IsS83.drewN | apply IsS83.drew | apply IsS83.set_1 | apply IsS83.set_2 | refine IsS83.far ?_ NB501_497.out _) | exact HI501.out)) hb); have n3_ := Aside0.mk (below_step (by repeat (first | (with_reducible first | exact HB.out | apply h1 | apply h2 | apply h3 | refine h4 ?_ (IsS83.ge HI501.out) | refine h4 ?_ GE497.out) | exact HB.out)) hb); have n4_ := Aside0.mk (hbox); have n5_ := Geq.mk ((by rw [hg]; exact (below_size (by repeat (first | (with_reducible first | exact HB.out | apply h1 | apply h2 | apply h3 | refine h4 ?_ (IsS83.ge HI501.out) | refine h4 ?_ GE497.out) | exact HB.out))) : w.heap.size ≤ gb510)); have n6_ := Geq.mk ((by rw [hg]; exact (below_size (by repeat (first | (with_reducible first | exact HB.out | apply h1 | apply h2 | apply h3 | refine h4 ?_ (IsS83.ge HI501.out) | refine h4 ?_ GE497.out) | exact HB.out))) : w.heap.size ≤ gb510)); have n7_ := Neq.mk ((by rw [hg]; exact Nat.ne_of_lt (blk_lt (g := gb497) (o := .cells #[.int .i64 0, .int .i64 0, .float .f64 0, .slice none 0 0] 25 (0, 0)) (bup BK497.out)) : gb497 ≠ gb510)); have n8_ := Neq.mk ((by rw [hg]; exact Nat.ne_of_gt (blk_lt (g := gb497) (o := .cells #[.int .i64 0, .int .i64 0, .float .f64 0, .slice none 0 0] 25 (0, 0)) (bup BK497.out)) : gb510 ≠ gb497)); have n9_ := Aside0.mk ((by rw [hg]; exact Nat.ne_of_lt (IsS83.lt (show IsS83 w _ g501 t498 t508 t509 from by repeat (first | (with_reducible first | exact HI501.out | apply IsS83.alloc | apply IsS83.drewN | apply IsS83.drew | apply IsS83.set_1 | apply IsS83.set_2 | refine IsS83.far ?_ NB501_497.out _) | exact HI501.out))) : g501 ≠ gb510)); have n10_ := Aside0.mk ((by rw [hg]; exact Nat.ne_of_gt (IsS83.lt (show IsS83 w _ g501 t498 t508 t509 from by repeat (first | (with_reducible first | exact HI501.out | apply IsS83.alloc | apply IsS83.drewN | apply IsS83.drew | apply IsS83.set_1 | apply IsS83.set_2 | refine IsS83.far ?_ NB501_497.out _) | exact HI501.out))) : gb510 ≠ g501)); clear HO507; clear BK497; clear HI501; clear HB; have HO507 := n0_; have BK497 := n1_; have HI501 := n2_; have HB := n3_; have BK510 := n4_; have GW510 := n5_; have GE510 := n6_; have NB497_510 := n7_; have NB510_497 := n8_; have NB501_510 := n9_; have NB510_501 := n10_; clear n0_ n1_ n2_ n3_ n4_ n5_ n6_ n7_ n8_ n9_ n10_; clear hb hbox hg; have hnb11 := NB510_497.out; have hnc11 := NB497_510.out; have hnb12 := NB510_501.out; have hnc12 := NB501_510.out; obtain ⟨hcz13_0, hcz13_1, hcz13_2, hcz13_3⟩ := blk_cells4 BK510.out; obtain ⟨hfz13_0, hfz13_1, hfz13_2, hfz13_3⟩ := blk_frozens4 BK510.out; obtain ⟨Ao14, co14, eo14⟩ := Kd.R_slice HO507.out; subst eo14) | ((fail_if_success (with_reducible refine gate_callee (f := 67) rfl ?_)); first | go_values | go_skip | go_guarded | go_step | go_upon | go_back | (simp only [Int.not_lt, Int.not_le] at *; go_simp)))
 (with_reducible refine gate_callee (f := 67) rfl ?_); refine goesL_ (some 10) rfl rfl Try.func67 (by kernel_rfl) rfl #[.pointer (some ⟨g501, 0, none⟩), .int .i64 4] rfl (by (try simp only [List.map_toArray, List.map_cons, List.map_nil]); first | done | rfl) ?_; (with_reducible refine (spec_l1Once.calls g501 t498 t508 t509 4 t511 t512 t513 w _ ?side1 ?side2 A4.out).mono ?_); (case side1 => repeat (first | (with_reducible first | exact HI501.out | apply IsS83.alloc | apply IsS83.drewN | apply IsS83.drew | apply IsS83.set_1 | apply IsS83.set_2 | refine IsS83.far ?_ NB501_497.out _ | refine IsS83.far ?_ NB501_510.out _) | exact HI501.out)); (case side2 => repeat (first | (with_reducible first | exact HB.out | apply h1 | apply h2 | apply h3 | refine h4 ?_ (IsS83.ge HI501.out) | refine h4 ?_ GE497.out | refine h4 ?_ GE510.out) | exact HB.out)); rintro e w15 ⟨rfl, hi, hb, hk⟩; refine ⟨_, rfl, ?_⟩; have n0_ := Aside0.mk (KeepBut.blk hk (g' := gb497) (o := .cells #[.int .i64 0, .int .i64 0, .float .f64 0, .slice none 0 0] 25 (0, 0)) (bput BK497.out) NB497_501.out (by simp)); have n1_ := Aside0.mk (Kd.R_mono (Kd.R_keep (IsS83.apart (show IsS83 w _ g501 t498 t508 t509 from by repeat (first | (with_reducible first | exact HI501.out | apply IsS83.alloc | apply IsS83.drewN | apply IsS83.drew | apply IsS83.set_1 | apply IsS83.set_2 | refine IsS83.far ?_ NB501_497.out _ | refine IsS83.far ?_ NB501_510.out _) | exact HI501.out)) ((Kd.roff1 HO507.out BK510.out (by decide))) (by decide)) hk (fun _ h => h.2)) (fun _ h => h.1)); have n2_ := Aside0.mk (KeepBut.blk hk (g' := gb510) (o := .cells #[.int .i64 t502, .int .i64 t503, .float .f64 b504, .slice Ao14 t505.length co14] 25 (0, 0)) (bput BK510.out) NB510_501.out (by simp)); have n3_ := Aside0.mk (hb); have n4_ := Aside0.mk (hi); clear BK497; clear HO507; clear BK510; clear HB; clear HI501; have BK497 := n0_; have HO507 := n1_; have BK510 := n2_; have HB := n3_; have HI501 := n4_; clear n0_ n1_ n2_ n3_ n4_; (try clear hb); (try clear hb2); (try clear hk)
 by_cases c5 : t511 = true
 ·subst c5
  rw [if_pos rfl] at H
  (try dsimp only at H)
  replace H := Option.bind_eq_some_iff.mp H
  obtain ⟨⟨t514, t515, t516, t517, t520, t521⟩, A60, H⟩ := H
  (try dsimp only at H)
  have A6 := Aside0.mk A60
  clear A60
  simp only [Option.some.injEq, Prod.mk.injEq] at H
  obtain ⟨rfl, rfl, rfl, rfl⟩ := H
  (try clear hi)
  try go_wp2_with (first | ((with_reducible refine gate_callee (f := 58) rfl ?_); refine goesL_ (some 12) rfl rfl Try.func58 (by kernel_rfl) rfl #[.pointer (some ⟨g501, 0, none⟩)] rfl (by (try simp only [List.map_toArray, List.map_cons, List.map_nil]); first | done | rfl) ?_; (with_reducible refine (spec_l3any.callsC k g501 t498 t512 t513 t514 t515 t516 t517 t520 t521 w _ ?side1 ?side2 A6.out).mono ?_); (case side1 => repeat (first | (with_reducible first | exact HI501.out | apply IsS83.alloc | apply IsS83.drewN | apply IsS83.drew | apply IsS83.set_1 | apply IsS83.set_2 | refine IsS83.far ?_ NB501_497.out _ | refine IsS83.far ?_ NB501_510.out _) | exact HI501.out)); (case side2 => repeat (first | (with_reducible first | exact HB.out | apply h1 | apply h2 | apply h3 | refine h4 ?_ (IsS83.ge HI501.out) | refine h4 ?_ GE497.out | refine h4 ?_ GE510.out) | exact HB.out)); rintro e w16 ⟨b516, v518, rfl, ho0, hi, hb, hk, ⟨⟨hcnb516, hltb516⟩⟩⟩; refine ⟨_, rfl, ?_⟩; have LTb516 := Aside0.mk hltb516; clear hltb516; subst hcnb516; have n0_ := Aside0.mk (KeepBut.blk hk (g' := gb497) (o := .cells #[.int .i64 0, .int .i64 0, .float .f64 0, .slice none 0 0] 25 (0, 0)) (bup BK497.out) NB497_501.out (by simp)); have n1_ := Aside0.mk (Kd.R_mono (Kd.R_told (Kd.R_oldK (IsS83.apart (show IsS83 w _ g501 t498 t512 t513 from by repeat (first | (with_reducible first | exact HI501.out | apply IsS83.alloc | apply IsS83.drewN | apply IsS83.drew | apply IsS83.set_1 | apply IsS83.set_2 | refine IsS83.far ?_ NB501_497.out _ | refine IsS83.far ?_ NB501_510.out _) | exact HI501.out)) (Kd.rup HO507.out) (by decide)) hk) (Kd.R_base ho0)) (fun _ h_ => h_.1)); have n2_ := Aside0.mk (KeepBut.blk hk (g' := gb510) (o := .cells #[.int .i64 t502, .int .i64 t503, .float .f64 b504, .slice Ao14 t505.length co14] 25 (0, 0)) (bup BK510.out) NB510_501.out (by simp)); have n3_ := Aside0.mk (Kd.R_lower (Kd.R_new' ho0 (Kd.R_lt (Kd.rup HO507.out))) (below_size (by repeat (first | (with_reducible first | exact HB.out | apply h1 | apply h2 | apply h3 | refine h4 ?_ (IsS83.ge HI501.out) | refine h4 ?_ GE497.out | refine h4 ?_ GE510.out) | exact HB.out)))); have n4_ := Aside0.mk (hb); have n5_ := Aside0.mk (hi); clear BK497; clear HO507; clear BK510; clear HB; clear HI501; have BK497 := n0_; have HO507 := n1_; have BK510 := n2_; have HO519 := n3_; have HB := n4_; have HI501 := n5_; clear n0_ n1_ n2_ n3_ n4_ n5_; (try clear hb); (try clear hb2); (try clear hk); (try clear hi); (try clear ho0); obtain ⟨hcz17_0, hcz17_1, hcz17_2, hcz17_3⟩ := blk_cells4 BK510.out; obtain ⟨hfz17_0, hfz17_1, hfz17_2, hfz17_3⟩ := blk_frozens4 BK510.out; obtain ⟨Ao18, co18, eo18⟩ := Kd.R_slice HO519.out; subst eo18; have hnb19 := NB497_501.out; have hnc19 := NB501_497.out; obtain ⟨hcz20_0, hcz20_1, hcz20_2, hcz20_3⟩ := blk_cells4 BK497.out; obtain ⟨hfz20_0, hfz20_1, hfz20_2, hfz20_3⟩ := blk_frozens4 BK497.out))
  refine bodyPost_ret (results_cell_row rfl _ _ gb497 25 #[.int .i64 t514, .int .i64 t515, .float .f64 b516, .slice Ao18 t517.length co18] (0, 0) _ rfl (bput BK497.out) Try.underlying25 rfl (by kernel_rfl)) rfl ?_
  exact ⟨_, _, by first | rfl | (simp [errW_none, errW_some] <;> rfl) | (simp [*, errW_none, errW_some] <;> rfl), by exact Kd.rup (Kd.R_mono (Kd.R_far (p := ⟨gb497, 3, none⟩) (Kd.R_far (p := ⟨gb497, 2, none⟩) (Kd.R_far (p := ⟨gb497, 1, none⟩) (Kd.R_far (p := ⟨gb497, 0, none⟩) (Kd.R_far (p := ⟨gb510, 3, none⟩) (Kd.R_far (p := ⟨gb510, 2, none⟩) (Kd.R_far (p := ⟨gb510, 1, none⟩) (Kd.R_far (p := ⟨gb510, 0, none⟩) (Kd.R_types (Kd.R_types HO519.out BK510.out (by decide)) BK497.out (by decide)) (fun _ hk => hk.1.2) (.int .i64 t514)) (fun _ hk => hk.1.2) (.int .i64 t515)) (fun _ hk => hk.1.2) (.float .f64 b516)) (fun _ hk => hk.1.2) (.slice Ao18 t517.length co18)) (fun _ hk => hk.2) (.int .i64 t514)) (fun _ hk => hk.2) (.int .i64 t515)) (fun _ hk => hk.2) (.float .f64 b516)) (fun _ hk => hk.2) (.slice Ao18 t517.length co18)) (fun _ hk => trivial)), by repeat (first | (with_reducible first | exact HB.out | apply h1 | apply h2 | apply h3 | refine h4 ?_ (IsS83.ge HI501.out) | refine h4 ?_ GE497.out | refine h4 ?_ GE510.out) | exact HB.out), (by first | exact ⟨⟨rfl, LTb504.out⟩⟩ | exact ⟨⟨rfl, LTb516.out⟩⟩ | exact ⟨⟨by first | rfl | decide, by decide⟩⟩ | exact ⟨⟨rfl, fquo_lt (by assumption)⟩⟩)⟩
 ·replace c5 := Bool.eq_false_iff.mpr c5
  subst c5
  rw [if_neg (show ¬ (false = true) by decide)] at H
  (try dsimp only at H)
  simp only [Option.some.injEq, Prod.mk.injEq] at H
  obtain ⟨rfl, rfl, rfl, rfl⟩ := H
  (try clear hi); obtain ⟨hcz30_0, hcz30_1, hcz30_2, hcz30_3⟩ := blk_cells4 BK510.out; obtain ⟨hfz30_0, hfz30_1, hfz30_2, hfz30_3⟩ := blk_frozens4 BK510.out; have hnb31 := NB497_501.out; have hnc31 := NB501_497.out; obtain ⟨hcz32_0, hcz32_1, hcz32_2, hcz32_3⟩ := blk_cells4 BK497.out; obtain ⟨hfz32_0, hfz32_1, hfz32_2, hfz32_3⟩ := blk_frozens4 BK497.out
  try go_wp2
  refine bodyPost_ret (results_cell_row rfl _ _ gb497 25 #[.int .i64 t502, .int .i64 t503, .float .f64 b504, .slice Ao14 t505.length co14] (0, 0) _ rfl (bput BK497.out) Try.underlying25 rfl (by kernel_rfl)) rfl ?_
  exact ⟨_, _, by first | rfl | (simp [errW_none, errW_some] <;> rfl) | (simp [*, errW_none, errW_some] <;> rfl), by exact Kd.rup (Kd.R_mono (Kd.R_far (p := ⟨gb497, 3, none⟩) (Kd.R_far (p := ⟨gb497, 2, none⟩) (Kd.R_far (p := ⟨gb497, 1, none⟩) (Kd.R_far (p := ⟨gb497, 0, none⟩) (Kd.R_types HO507.out BK497.out (by decide)) (fun _ hk => hk.2) (.int .i64 t502)) (fun _ hk => hk.2) (.int .i64 t503)) (fun _ hk => hk.2) (.float .f64 b504)) (fun _ hk => hk.2) (.slice Ao14 t505.length co14)) (fun _ hk => trivial)), by repeat (first | (with_reducible first | exact HB.out | apply h1 | apply h2 | apply h3 | refine h4 ?_ (IsS83.ge HI501.out) | refine h4 ?_ GE497.out | refine h4 ?_ GE510.out) | exact HB.out), (by first | exact ⟨⟨rfl, LTb504.out⟩⟩ | exact ⟨⟨by first | rfl | decide, by decide⟩⟩ | exact ⟨⟨rfl, fquo_lt (by assumption)⟩⟩)⟩
def cmp_Or_int.l0 : Nat → Int → List Int → Int → Int → Option (Int)
  | 0, _, _, _, _ => none
  | k + 1, x3, x6, x7, x8 => if x8 < x7 then (if 0 ≤ x8 then (if x8 < (x6.length : Int) then (if (rd x6 x8) = x3 then (cmp_Or_int.l0 k x3 x6 x7 (wrap64 (x8 + 1))) else (some (rd x6 x8))) else (none)) else (none)) else (some x3)
def cmp_Or_int.f (k : Nat) (l0 : List Int) : Option (Int) := cmp_Or_int.l0 k 0 l0 (l0.length : Int) 0
theorem cmp_Or_int.mono_l : ∀ k, (∀ y0 y1 y2 y3, LeO (cmp_Or_int.l0 k y0 y1 y2 y3) (cmp_Or_int.l0 (k + 1) y0 y1 y2 y3))
  | 0 => fun _ _ _ _ r h => by simp [cmp_Or_int.l0] at h
  | k + 1 => by
    have ih0 := cmp_Or_int.mono_l k
    · intro y0 y1 y2 y3
      unfold cmp_Or_int.l0
      repeat' with_reducible first | exact ih0 _ _ _ _ | exact LeO.refl _ | exact LeO.none _ | refine LeO.ite ?_ ?_ | refine LeO.bind ?_ (fun _ => ?_)
theorem cmp_Or_int.mono : ∀ a0 k, LeO (cmp_Or_int.f k a0) (cmp_Or_int.f (k + 1) a0) := by
  intro a0 k
  have ih0 := cmp_Or_int.mono_l k
  unfold cmp_Or_int.f
  repeat' with_reducible first | exact ih0 _ _ _ _ | exact LeO.refl _ | exact LeO.none _ | refine LeO.ite ?_ ?_ | refine LeO.bind ?_ (fun _ => ?_)
set_option maxHeartbeats 8000000 in
set_option maxRecDepth 100000 in
theorem cmp_Or_int.calls (k : Nat) (A0 : Option Addr) (c0 : Nat) (l0 : List Int) (r : Int) (w : World) (hr0 : Kd.C (Kd.int .i64) w A0 l0.length l0) (hc0 : l0.length ≤ c0) (h : cmp_Or_int.f k l0 = some r) :
    Calls Try.prog 91 #[.slice A0 l0.length c0] w fun e w' => e = .returned (.int .i64 r) ∧ Drawn0 w w' := by
  have HR0 := Aside0.mk hr0
  have HC0 := Aside0.mk hc0
  clear hr0 hc0
  have H := h
  clear h
  unfold cmp_Or_int.f at H
  have H' := Aside0.mk H
  clear H
  go_enter Try.func91, Try.ntmps91
  go_wp2
  go_loopg [8] k (fun kq v8 w' => ∃ (x8_1 : Int), v8 = .int .i64 x8_1 ∧ Aside0 (cmp_Or_int.l0 kq 0 l0 (l0.length : Int) x8_1 = some r) ∧ Aside0 (kq ≤ k) ∧ Drawn0 w w')
  case atStart => exact ⟨(0), (by first | rfl | (simp; done) | (simp [*]; done)), H', ⟨Nat.le_refl _⟩, by repeat (first | exact Drawn0.refl _ | apply Drawn0.step)⟩
  case round =>
    clear H'
    obtain ⟨x8_1, rfl, HA, HK1, ⟨m1, rfl⟩⟩ := hrel
    cases gk with
    | zero => exact absurd HA.out (by simp [cmp_Or_int.l0])
    | succ k1 =>
      have H := HA.out
      clear HA
      simp only [cmp_Or_int.l0] at H
      by_cases c2 : x8_1 < (l0.length : Int)
      · rw [if_pos c2] at H
        have c2b0 : decide (x8_1 < (l0.length : Int)) = true := decide_eq_true c2
        clear c2
        by_cases c3 : 0 ≤ x8_1
        · rw [if_pos c3] at H
          have c3b0 : decide (0 ≤ x8_1) = true := decide_eq_true c3
          clear c3
          by_cases c4 : x8_1 < (l0.length : Int)
          · rw [if_pos c4] at H
            have c4b0 : decide (x8_1 < (l0.length : Int)) = true := decide_eq_true c4
            clear c4
            by_cases c5 : (rd l0 x8_1) = 0
            · rw [if_pos c5] at H
              have c5b0 : ((rd l0 x8_1) == 0) = true := beq_iff_eq.mpr c5
              have c5b1 : ((rd l0 x8_1) != 0) = false := bne_eq_false_iff_eq.mpr c5
              clear c5
              have H' := Aside0.mk H
              clear H
              have p522 : 0 ≤ (x8_1 : Int) := of_decide_eq_true (by first | (with_reducible assumption) | assumption)
              have q522 : x8_1 < (l0.length : Int) := of_decide_eq_true (by first | (with_reducible assumption) | assumption)
              obtain ⟨ad522, e522, hx522_0⟩ := Kd.at_int HR0.out x8_1 p522 q522
              cases e522
              replace p522 := eq_true p522
              replace q522 := eq_true q522
              go_wp2
              go_roundg k1
              case measure => have := HK1.out; omega
              case rel => exact ⟨(wrap64 (x8_1 + 1)), (by first | rfl | (simp; done) | (simp [*]; done)), H', ⟨by have := HK1.out; omega⟩, by repeat (first | exact Drawn0.refl _ | apply Drawn0.step)⟩
            · rw [if_neg c5] at H
              have c5b0 : ((rd l0 x8_1) == 0) = false := beq_eq_false_iff_ne.mpr c5
              have c5b1 : ((rd l0 x8_1) != 0) = true := bne_iff_ne.mpr c5
              obtain rfl := Option.some.inj H
              have p522 : 0 ≤ (x8_1 : Int) := of_decide_eq_true (by first | (with_reducible assumption) | assumption)
              have q522 : x8_1 < (l0.length : Int) := of_decide_eq_true (by first | (with_reducible assumption) | assumption)
              obtain ⟨ad522, e522, hx522_0⟩ := Kd.at_int HR0.out x8_1 p522 q522
              cases e522
              replace p522 := eq_true p522
              replace q522 := eq_true q522
              go_wp2
              go_ret
              exact ⟨by first | rfl | (simp; done) | (simp [*]; done), by repeat (first | exact Drawn0.refl _ | apply Drawn0.step)⟩
          · rw [if_neg c4] at H
            exact absurd H (by simp)
        · rw [if_neg c3] at H
          exact absurd H (by simp)
      · rw [if_neg c2] at H
        have c2b0 : decide (x8_1 < (l0.length : Int)) = false := decide_eq_false c2
        clear c2
        obtain rfl := Option.some.inj H
        go_wp2
        go_ret
        exact ⟨by first | rfl | (simp; done) | (simp [*]; done), by repeat (first | exact Drawn0.refl _ | apply Drawn0.step)⟩
def cmp_isNaN_int.f (a0 : Int) : Option (Bool) := some (a0 != a0)
set_option maxHeartbeats 8000000 in
set_option maxRecDepth 100000 in
theorem cmp_isNaN_int.calls (a0 : Int) (r : Bool) (w : World) (h : cmp_isNaN_int.f a0 = some r) :
    Calls Try.prog 100 #[.int .i64 a0] w fun e w' => e = .returned (.bool r) ∧ Drawn0 w w' := by
  have H := h
  clear h
  unfold cmp_isNaN_int.f at H
  obtain rfl := Option.some.inj H
  go_enter Try.func100, Try.ntmps100
  go_wp2
  go_ret
  exact ⟨by first | rfl | (simp; done) | (simp [*]; done), by repeat (first | exact Drawn0.refl _ | apply Drawn0.step)⟩
def cmp_Compare_int.f (a0 : Int) (a1 : Int) : Option (Int) := (cmp_isNaN_int.f a0).bind fun t523 => ((cmp_isNaN_int.f a1).bind fun t524 => (if t523 = true then (if t524 = true then (some 0) else (some (-1))) else (if t524 = true then (some 1) else (if a0 < a1 then (some (-1)) else (if a0 > a1 then (some 1) else (some 0))))))
set_option maxHeartbeats 8000000 in
set_option maxRecDepth 100000 in
theorem cmp_Compare_int.calls (a0 : Int) (a1 : Int) (r : Int) (w : World) (h : cmp_Compare_int.f a0 a1 = some r) :
    Calls Try.prog 92 #[.int .i64 a0, .int .i64 a1] w fun e w' => e = .returned (.int .i64 r) ∧ Drawn0 w w' := by
  have H := h
  clear h
  unfold cmp_Compare_int.f at H
  replace H := Option.bind_eq_some_iff.mp H
  obtain ⟨t523, A30, H⟩ := H
  (try dsimp only at H)
  have A3 := Aside0.mk A30
  clear A30
  replace H := Option.bind_eq_some_iff.mp H
  obtain ⟨t524, A40, H⟩ := H
  (try dsimp only at H)
  have A4 := Aside0.mk A40
  clear A40
  go_enter Try.func92, Try.ntmps92
  repeat (first | ((fail_if_success (with_reducible refine gate_callee (f := 100) rfl ?_)); first | go_values | go_skip | go_guarded | go_step | go_upon | go_back | (simp only [Int.not_lt, Int.not_le] at *; go_simp)))
  (with_reducible refine gate_callee (f := 100) rfl ?_); refine goesL_ (some 8) rfl rfl Try.func100 (by kernel_rfl) rfl #[.int .i64 a0] rfl (by (try simp only [List.map_toArray, List.map_cons, List.map_nil]); first | done | rfl) ?_; (with_reducible refine (cmp_isNaN_int.calls a0 t523 _ A3.out).mono ?_); rintro e w' ⟨rfl, ⟨nd, rfl⟩⟩; refine ⟨_, rfl, ?_⟩
  by_cases c5 : t523 = true
  · subst c5
    rw [if_pos rfl] at H
    (try dsimp only at H)
    repeat (first | ((fail_if_success (with_reducible refine gate_callee (f := 100) rfl ?_)); first | go_values | go_skip | go_guarded | go_step | go_upon | go_back | (simp only [Int.not_lt, Int.not_le] at *; go_simp)))
    (with_reducible refine gate_callee (f := 100) rfl ?_); refine goesL_ (some 10) rfl rfl Try.func100 (by kernel_rfl) rfl #[.int .i64 a1] rfl (by (try simp only [List.map_toArray, List.map_cons, List.map_nil]); first | done | rfl) ?_; (with_reducible refine (cmp_isNaN_int.calls a1 t524 _ A4.out).mono ?_); rintro e w' ⟨rfl, ⟨nd, rfl⟩⟩; refine ⟨_, rfl, ?_⟩
    by_cases c6 : t524 = true
    · subst c6
      rw [if_pos rfl] at H
      (try dsimp only at H)
      obtain rfl := Option.some.inj H
      try go_wp2
      go_ret
      exact ⟨by first | rfl | (simp; done) | (simp [*]; done), by repeat (first | exact Drawn0.refl _ | apply Drawn0.step)⟩
    · replace c6 := Bool.eq_false_iff.mpr c6
      subst c6
      rw [if_neg (show ¬ (false = true) by decide)] at H
      (try dsimp only at H)
      obtain rfl := Option.some.inj H
      try go_wp2
      go_ret
      exact ⟨by first | rfl | (simp; done) | (simp [*]; done), by repeat (first | exact Drawn0.refl _ | apply Drawn0.step)⟩
  · replace c5 := Bool.eq_false_iff.mpr c5
    subst c5
    rw [if_neg (show ¬ (false = true) by decide)] at H
    (try dsimp only at H)
    repeat (first | ((fail_if_success (with_reducible refine gate_callee (f := 100) rfl ?_)); first | go_values | go_skip | go_guarded | go_step | go_upon | go_back | (simp only [Int.not_lt, Int.not_le] at *; go_simp)))
    (with_reducible refine gate_callee (f := 100) rfl ?_); refine goesL_ (some 10) rfl rfl Try.func100 (by kernel_rfl) rfl #[.int .i64 a1] rfl (by (try simp only [List.map_toArray, List.map_cons, List.map_nil]); first | done | rfl) ?_; (with_reducible refine (cmp_isNaN_int.calls a1 t524 _ A4.out).mono ?_); rintro e w' ⟨rfl, ⟨nd, rfl⟩⟩; refine ⟨_, rfl, ?_⟩
    by_cases c7 : t524 = true
    · subst c7
      rw [if_pos rfl] at H
      (try dsimp only at H)
      obtain rfl := Option.some.inj H
      try go_wp2
      go_ret
      exact ⟨by first | rfl | (simp; done) | (simp [*]; done), by repeat (first | exact Drawn0.refl _ | apply Drawn0.step)⟩
    · replace c7 := Bool.eq_false_iff.mpr c7
      subst c7
      rw [if_neg (show ¬ (false = true) by decide)] at H
      (try dsimp only at H)
      by_cases c8 : a0 < a1
      · rw [if_pos c8] at H
        have c8b0 : decide (a0 < a1) = true := decide_eq_true c8
        (try simp only [c8b0, Bool.not_true, Bool.not_false])
        clear c8
        obtain rfl := Option.some.inj H
        try go_wp2
        go_ret
        exact ⟨by first | rfl | (simp; done) | (simp [*]; done), by repeat (first | exact Drawn0.refl _ | apply Drawn0.step)⟩
      · rw [if_neg c8] at H
        have c8b0 : decide (a0 < a1) = false := decide_eq_false c8
        (try simp only [c8b0, Bool.not_true, Bool.not_false])
        clear c8
        by_cases c9 : a0 > a1
        · rw [if_pos c9] at H
          have c9b0 : decide (a1 < a0) = true := decide_eq_true c9
          (try simp only [c9b0, Bool.not_true, Bool.not_false])
          clear c9
          obtain rfl := Option.some.inj H
          try go_wp2
          go_ret
          exact ⟨by first | rfl | (simp; done) | (simp [*]; done), by repeat (first | exact Drawn0.refl _ | apply Drawn0.step)⟩
        · rw [if_neg c9] at H
          have c9b0 : decide (a1 < a0) = false := decide_eq_false c9
          (try simp only [c9b0, Bool.not_true, Bool.not_false])
          clear c9
          obtain rfl := Option.some.inj H
          try go_wp2
          go_ret
          exact ⟨by first | rfl | (simp; done) | (simp [*]; done), by repeat (first | exact Drawn0.refl _ | apply Drawn0.step)⟩
def cmp_isNaN_uint64.f (a0 : Int) : Option (Bool) := some (a0 != a0)
set_option maxHeartbeats 8000000 in
set_option maxRecDepth 100000 in
theorem cmp_isNaN_uint64.calls (a0 : Int) (r : Bool) (w : World) (h : cmp_isNaN_uint64.f a0 = some r) :
    Calls Try.prog 103 #[.int .u64 a0] w fun e w' => e = .returned (.bool r) ∧ Drawn0 w w' := by
  have H := h
  clear h
  unfold cmp_isNaN_uint64.f at H
  obtain rfl := Option.some.inj H
  go_enter Try.func103, Try.ntmps103
  go_wp2
  go_ret
  exact ⟨by first | rfl | (simp; done) | (simp [*]; done), by repeat (first | exact Drawn0.refl _ | apply Drawn0.step)⟩
def cmp_Compare_uint64.f (a0 : Int) (a1 : Int) : Option (Int) := (cmp_isNaN_uint64.f a0).bind fun t525 => ((cmp_isNaN_uint64.f a1).bind fun t526 => (if t525 = true then (if t526 = true then (some 0) else (some (-1))) else (if t526 = true then (some 1) else (if a0 < a1 then (some (-1)) else (if a0 > a1 then (some 1) else (some 0))))))
set_option maxHeartbeats 8000000 in
set_option maxRecDepth 100000 in
theorem cmp_Compare_uint64.calls (a0 : Int) (a1 : Int) (r : Int) (w : World) (h : cmp_Compare_uint64.f a0 a1 = some r) :
    Calls Try.prog 101 #[.int .u64 a0, .int .u64 a1] w fun e w' => e = .returned (.int .i64 r) ∧ Drawn0 w w' := by
  have H := h
  clear h
  unfold cmp_Compare_uint64.f at H
  replace H := Option.bind_eq_some_iff.mp H
  obtain ⟨t525, A30, H⟩ := H
  (try dsimp only at H)
  have A3 := Aside0.mk A30
  clear A30
  replace H := Option.bind_eq_some_iff.mp H
  obtain ⟨t526, A40, H⟩ := H
  (try dsimp only at H)
  have A4 := Aside0.mk A40
  clear A40
  go_enter Try.func101, Try.ntmps101
  repeat (first | ((fail_if_success (with_reducible refine gate_callee (f := 103) rfl ?_)); first | go_values | go_skip | go_guarded | go_step | go_upon | go_back | (simp only [Int.not_lt, Int.not_le] at *; go_simp)))
  (with_reducible refine gate_callee (f := 103) rfl ?_); refine goesL_ (some 8) rfl rfl Try.func103 (by kernel_rfl) rfl #[.int .u64 a0] rfl (by (try simp only [List.map_toArray, List.map_cons, List.map_nil]); first | done | rfl) ?_; (with_reducible refine (cmp_isNaN_uint64.calls a0 t525 _ A3.out).mono ?_); rintro e w' ⟨rfl, ⟨nd, rfl⟩⟩; refine ⟨_, rfl, ?_⟩
  by_cases c5 : t525 = true
  · subst c5
    rw [if_pos rfl] at H
    (try dsimp only at H)
    repeat (first | ((fail_if_success (with_reducible refine gate_callee (f := 103) rfl ?_)); first | go_values | go_skip | go_guarded | go_step | go_upon | go_back | (simp only [Int.not_lt, Int.not_le] at *; go_simp)))
    (with_reducible refine gate_callee (f := 103) rfl ?_); refine goesL_ (some 10) rfl rfl Try.func103 (by kernel_rfl) rfl #[.int .u64 a1] rfl (by (try simp only [List.map_toArray, List.map_cons, List.map_nil]); first | done | rfl) ?_; (with_reducible refine (cmp_isNaN_uint64.calls a1 t526 _ A4.out).mono ?_); rintro e w' ⟨rfl, ⟨nd, rfl⟩⟩; refine ⟨_, rfl, ?_⟩
    by_cases c6 : t526 = true
    · subst c6
      rw [if_pos rfl] at H
      (try dsimp only at H)
      obtain rfl := Option.some.inj H
      try go_wp2
      go_ret
      exact ⟨by first | rfl | (simp; done) | (simp [*]; done), by repeat (first | exact Drawn0.refl _ | apply Drawn0.step)⟩
    · replace c6 := Bool.eq_false_iff.mpr c6
      subst c6
      rw [if_neg (show ¬ (false = true) by decide)] at H
      (try dsimp only at H)
      obtain rfl := Option.some.inj H
      try go_wp2
      go_ret
      exact ⟨by first | rfl | (simp; done) | (simp [*]; done), by repeat (first | exact Drawn0.refl _ | apply Drawn0.step)⟩
  · replace c5 := Bool.eq_false_iff.mpr c5
    subst c5
    rw [if_neg (show ¬ (false = true) by decide)] at H
    (try dsimp only at H)
    repeat (first | ((fail_if_success (with_reducible refine gate_callee (f := 103) rfl ?_)); first | go_values | go_skip | go_guarded | go_step | go_upon | go_back | (simp only [Int.not_lt, Int.not_le] at *; go_simp)))
    (with_reducible refine gate_callee (f := 103) rfl ?_); refine goesL_ (some 10) rfl rfl Try.func103 (by kernel_rfl) rfl #[.int .u64 a1] rfl (by (try simp only [List.map_toArray, List.map_cons, List.map_nil]); first | done | rfl) ?_; (with_reducible refine (cmp_isNaN_uint64.calls a1 t526 _ A4.out).mono ?_); rintro e w' ⟨rfl, ⟨nd, rfl⟩⟩; refine ⟨_, rfl, ?_⟩
    by_cases c7 : t526 = true
    · subst c7
      rw [if_pos rfl] at H
      (try dsimp only at H)
      obtain rfl := Option.some.inj H
      try go_wp2
      go_ret
      exact ⟨by first | rfl | (simp; done) | (simp [*]; done), by repeat (first | exact Drawn0.refl _ | apply Drawn0.step)⟩
    · replace c7 := Bool.eq_false_iff.mpr c7
      subst c7
      rw [if_neg (show ¬ (false = true) by decide)] at H
      (try dsimp only at H)
      by_cases c8 : a0 < a1
      · rw [if_pos c8] at H
        have c8b0 : decide (a0 < a1) = true := decide_eq_true c8
        (try simp only [c8b0, Bool.not_true, Bool.not_false])
        clear c8
        obtain rfl := Option.some.inj H
        try go_wp2
        go_ret
        exact ⟨by first | rfl | (simp; done) | (simp [*]; done), by repeat (first | exact Drawn0.refl _ | apply Drawn0.step)⟩
      · rw [if_neg c8] at H
        have c8b0 : decide (a0 < a1) = false := decide_eq_false c8
        (try simp only [c8b0, Bool.not_true, Bool.not_false])
        clear c8
        by_cases c9 : a0 > a1
        · rw [if_pos c9] at H
          have c9b0 : decide (a1 < a0) = true := decide_eq_true c9
          (try simp only [c9b0, Bool.not_true, Bool.not_false])
          clear c9
          obtain rfl := Option.some.inj H
          try go_wp2
          go_ret
          exact ⟨by first | rfl | (simp; done) | (simp [*]; done), by repeat (first | exact Drawn0.refl _ | apply Drawn0.step)⟩
        · rw [if_neg c9] at H
          have c9b0 : decide (a1 < a0) = false := decide_eq_false c9
          (try simp only [c9b0, Bool.not_true, Bool.not_false])
          clear c9
          obtain rfl := Option.some.inj H
          try go_wp2
          go_ret
          exact ⟨by first | rfl | (simp; done) | (simp [*]; done), by repeat (first | exact Drawn0.refl _ | apply Drawn0.step)⟩
def impl_FloatCompare.f (a0 : Nat) (a1 : Nat) : Option (Int) := (impl_FloatRank.f a0).bind fun t527 => ((impl_FloatRank.f a1).bind fun t528 => ((cmp_Compare_uint64.f t527 t528).bind fun t529 => (some t529)))
set_option maxHeartbeats 8000000 in
set_option maxRecDepth 100000 in
theorem impl_FloatCompare.calls (a0 : Nat) (a1 : Nat) (r : Int) (w : World) (h : impl_FloatCompare.f a0 a1 = some r) :
    Calls Try.prog 93 #[.float .f64 a0, .float .f64 a1] w fun e w' => e = .returned (.int .i64 r) ∧ Drawn0 w w' := by
  have H := h
  clear h
  unfold impl_FloatCompare.f at H
  replace H := Option.bind_eq_some_iff.mp H
  obtain ⟨t527, A30, H⟩ := H
  (try dsimp only at H)
  have A3 := Aside0.mk A30
  clear A30
  replace H := Option.bind_eq_some_iff.mp H
  obtain ⟨t528, A40, H⟩ := H
  (try dsimp only at H)
  have A4 := Aside0.mk A40
  clear A40
  replace H := Option.bind_eq_some_iff.mp H
  obtain ⟨t529, A50, H⟩ := H
  (try dsimp only at H)
  have A5 := Aside0.mk A50
  clear A50
  obtain rfl := Option.some.inj H
  go_enter Try.func93, Try.ntmps93
  go_wp2_with (first | ((with_reducible refine gate_callee (f := 65) rfl ?_); refine goesL_ (some 6) rfl rfl Try.func65 (by kernel_rfl) rfl #[.float .f64 a0] rfl (by (try simp only [List.map_toArray, List.map_cons, List.map_nil]); first | done | rfl) ?_; (with_reducible refine (impl_FloatRank.calls a0 t527 _ A3.out).mono ?_); rintro e w' ⟨rfl, ⟨nd, rfl⟩⟩; refine ⟨_, rfl, ?_⟩) | ((with_reducible refine gate_callee (f := 65) rfl ?_); refine goesL_ (some 8) rfl rfl Try.func65 (by kernel_rfl) rfl #[.float .f64 a1] rfl (by (try simp only [List.map_toArray, List.map_cons, List.map_nil]); first | done | rfl) ?_; (with_reducible refine (impl_FloatRank.calls a1 t528 _ A4.out).mono ?_); rintro e w' ⟨rfl, ⟨nd, rfl⟩⟩; refine ⟨_, rfl, ?_⟩) | ((with_reducible refine gate_callee (f := 101) rfl ?_); refine goesL_ (some 9) rfl rfl Try.func101 (by kernel_rfl) rfl #[.int .u64 t527, .int .u64 t528] rfl (by (try simp only [List.map_toArray, List.map_cons, List.map_nil]); first | done | rfl) ?_; (with_reducible refine (cmp_Compare_uint64.calls t527 t528 t529 _ A5.out).mono ?_); rintro e w' ⟨rfl, ⟨nd, rfl⟩⟩; refine ⟨_, rfl, ?_⟩))
  go_ret
  exact ⟨by first | rfl | (simp; done) | (simp [*]; done), by repeat (first | exact Drawn0.refl _ | apply Drawn0.step)⟩
theorem impl_FloatCompare.inv0 (a0 : Nat) (a1 : Nat) : impl_FloatCompare.f (cn a0) a1 = impl_FloatCompare.f a0 a1 := by
  by_cases h_ : nanw a0
  · unfold impl_FloatCompare.f
    first
      | (simp only [impl_FloatRank.inv0, cn_zeroI, cn_zero, feq_cn_l, feq_cn_r, fls_cn_l, fls_cn_r, fgt_cn_l, fgt_cn_r, fle_cn_l, fle_cn_r, fge_cn_l, fge_cn_r]; done)
      | (simp only [impl_FloatRank.inv0, cn_zeroI, cn_zero, feq_cn_l, feq_cn_r, fls_cn_l, fls_cn_r, fgt_cn_l, fgt_cn_r, fle_cn_l, fle_cn_r, fge_cn_l, fge_cn_r, feq_nan_l h_, feq_nan_l (cn_nanw h_), Bool.false_eq_true, if_false]; done)
      | (simp [feq_nan_l h_, feq_nan_l (cn_nanw h_)]; done)
  · rw [cn_num h_]
theorem impl_FloatCompare.inv1 (a0 : Nat) (a1 : Nat) : impl_FloatCompare.f a0 (cn a1) = impl_FloatCompare.f a0 a1 := by
  by_cases h_ : nanw a1
  · unfold impl_FloatCompare.f
    first
      | (simp only [impl_FloatRank.inv0, cn_zeroI, cn_zero, feq_cn_l, feq_cn_r, fls_cn_l, fls_cn_r, fgt_cn_l, fgt_cn_r, fle_cn_l, fle_cn_r, fge_cn_l, fge_cn_r]; done)
      | (simp only [impl_FloatRank.inv0, cn_zeroI, cn_zero, feq_cn_l, feq_cn_r, fls_cn_l, fls_cn_r, fgt_cn_l, fgt_cn_r, fle_cn_l, fle_cn_r, fge_cn_l, fge_cn_r, feq_nan_l h_, feq_nan_l (cn_nanw h_), Bool.false_eq_true, if_false]; done)
      | (simp [feq_nan_l h_, feq_nan_l (cn_nanw h_)]; done)
  · rw [cn_num h_]
theorem cmp_run (A0 : Option Addr) (c0 : Nat) (l0 : List Int) (A1 : Option Addr) (c1 : Nat) (l1 : List Int) (w : World) (hr0 : Kd.C (Kd.int .u8) w A0 l0.length l0) (hr1 : Kd.C (Kd.int .u8) w A1 l1.length l1) :
    (Extern.BytealgCompare.compare #[.slice A0 l0.length c0, .slice A1 l1.length c1]).run Try.prog w = .ok (.int .i64 (Lib.compareBytes (Lib.bytesOf l0) (Lib.bytesOf l1))) w := by
  have rd : ∀ (A : Option Addr) (c : Nat) (l : List Int), Kd.C (Kd.int .u8) w A l.length l → (Extern.Bytes.bytesOf (.slice A l.length c)).run Try.prog w = .ok ⟨(Lib.bytesOf l).toArray⟩ w := by
    intro A c l h
    rcases A with _ | a
    · have hl : l = [] := by
        rcases Nat.eq_zero_or_pos l.length with hz | hz
        · exact List.eq_nil_of_length_eq_zero hz
        · obtain ⟨ad, e, _⟩ := h.2.2 hz
          cases e
      subst hl
      rfl
    · have h2 : ∀ j x, l[j]? = some x → w.cell? (a.add j) = some (.int .u8 x) := by
        intro j x hx
        have hlt : j < l.length := (List.getElem?_eq_some_iff.1 hx).1
        obtain ⟨ad, c, e, _, hK, hc0⟩ := Kd.C_get h (0 : Int) (j : Int) (by omega) (by omega)
        cases e
        have hc : ∀ q u, c[q]? = some u → w.cell? (a.add ((j : Int).toNat * 1 + q)) = some u := hc0
        have hK2 : c = [.int .u8 (rdOf 0 l (j : Int))] := hK
        subst hK2
        have hq := hc 0 _ rfl
        rw [Nat.mul_one, Nat.add_zero, Int.toNat_natCast] at hq
        rw [hq]
        have : rdOf 0 l (j : Int) = x := by simp [rdOf, List.getD_eq_getElem?_getD, hx]
        rw [this]
      have h3 := Lib.run_loadBytesX (P := Try.prog) w l a .empty h2
      show (Extern.Bytes.loadBytes a l.length .empty).run Try.prog w = _
      rw [h3]
      simp
  change Sem.run Try.prog (do pure (goInt (Extern.BytealgCompare.cmp (← Extern.Bytes.bytesOf (.slice A0 l0.length c0)) (← Extern.Bytes.bytesOf (.slice A1 l1.length c1))))) w = _
  simp only [Sem.run_bind, Sem.run_pure, Result.andThen, rd A0 c0 l0 hr0, rd A1 c1 l1 hr1, Lib.cmp_eq]
  rfl
theorem cmp_ext (A0 : Option Addr) (c0 : Nat) (l0 : List Int) (A1 : Option Addr) (c1 : Nat) (l1 : List Int) (w : World) (hr0 : Kd.C (Kd.int .u8) w A0 l0.length l0) (hr1 : Kd.C (Kd.int .u8) w A1 l1.length l1) :
    (callFunc 102 #[.slice A0 l0.length c0, .slice A1 l1.length c1]).run Try.prog w = .ok (.value (.int .i64 (Lib.compareBytes (Lib.bytesOf l0) (Lib.bytesOf l1)))) w := by
  rw [run_callFunc_extern (e := Extern.BytealgCompare.compare) Try.func102 (by kernel_rfl) (by kernel_rfl) (by kernel_rfl) (by kernel_rfl)]
  rw [cmp_run A0 c0 l0 A1 c1 l1 w hr0 hr1]
  rfl
def bytes_Compare.f (l0 : List Int) (l1 : List Int) : Option (Int) := some (Lib.compareBytes (Lib.bytesOf l0) (Lib.bytesOf l1))
set_option maxHeartbeats 8000000 in
set_option maxRecDepth 100000 in
theorem bytes_Compare.calls (A0 : Option Addr) (c0 : Nat) (l0 : List Int) (A1 : Option Addr) (c1 : Nat) (l1 : List Int) (r : Int) (w : World) (hr0 : Kd.C (Kd.int .u8) w A0 l0.length l0) (hc0 : l0.length ≤ c0) (hr1 : Kd.C (Kd.int .u8) w A1 l1.length l1) (hc1 : l1.length ≤ c1) (h : bytes_Compare.f l0 l1 = some r) :
    Calls Try.prog 94 #[.slice A0 l0.length c0, .slice A1 l1.length c1] w fun e w' => e = .returned (.int .i64 r) ∧ Drawn0 w w' := by
  obtain rfl := Option.some.inj h
  have hc := cmp_ext A0 c0 l0 A1 c1 l1 w hr0 hr1
  go_enter Try.func94, Try.ntmps94
  go_wp2
  go_ret
  exact ⟨rfl, by repeat (first | exact Drawn0.refl _ | apply Drawn0.step)⟩
def impl_compareItems.f (k : Nat) (a0_0 : Int) (a0_1 : Int) (a0_2 : Nat) (l0_3 : List Int) (a1_0 : Int) (a1_1 : Int) (a1_2 : Nat) (l1_3 : List Int) : Option (Int) := (cmp_Compare_int.f a0_0 a1_0).bind fun t532 => ((cmp_Compare_int.f a0_1 a1_1).bind fun t533 => ((impl_FloatCompare.f a0_2 a1_2).bind fun t534 => ((bytes_Compare.f l0_3 l1_3).bind fun t535 => ((cmp_Or_int.f k (([t532, t533, t534, t535] : List Int))).bind fun t539 => (some t539)))))
theorem impl_compareItems.mono : ∀ a0 a1 a2 a3 a4 a5 a6 a7 k, LeO (impl_compareItems.f k a0 a1 a2 a3 a4 a5 a6 a7) (impl_compareItems.f (k + 1) a0 a1 a2 a3 a4 a5 a6 a7) := by
 intro a0 a1 a2 a3 a4 a5 a6 a7 k
 unfold impl_compareItems.f
 repeat' with_reducible first | exact cmp_Or_int.mono _ _ | exact LeO.refl _ | exact LeO.none _ | refine LeO.ite ?_ ?_ | refine LeO.bind ?_ (fun _ => ?_)
def impl_compareItems.T1 : Bool × List (List Nat × List Nat) := (true, [([], []), ([0], [0]), ([], []), ([2], [2]), ([1, 3], [1, 3]), ([], []), ([5], [5]), ([], []), ([7], [7]), ([6, 8, 4], [6, 8]), ([], []), ([10], [10]), ([], []), ([12], [12]), ([11, 13, 9], [11, 13]), ([], []), ([15], [15]), ([], []), ([17], [17]), ([16, 18, 14], [16, 18]), ([4, 9, 14, 19], [4, 9, 14, 19]), ([20, 19], [20]), ([21, 21, 0, 1, 2, 3, 4, 5, 6, 7, 8, 9, 10, 11, 12, 13, 14, 15, 16, 17, 18, 19, 20, 21], [21])])
def impl_compareItems.B1 : List Nat := [0, 1, 0, 4, 15, 0, 32, 0, 128, 511, 0, 1024, 0, 4096, 16383, 0, 32768, 0, 131072, 524287, 1048575, 2097151, 4194303]
theorem impl_compareItems.tab1 : rtab .any (opsOf Try.f68 1) = impl_compareItems.T1 := by kernel_rfl
theorem impl_compareItems.bits1 : waitsOk impl_compareItems.T1.2 impl_compareItems.B1 = true := by kernel_rfl
set_option maxHeartbeats 8000000 in
set_option maxRecDepth 100000 in
theorem impl_compareItems.calls (k : Nat) (a0_0 : Int) (a0_1 : Int) (a0_2 : Nat) (A0_3 : Option Addr) (c0_3 : Nat) (l0_3 : List Int) (a1_0 : Int) (a1_1 : Int) (a1_2 : Nat) (A1_3 : Option Addr) (c1_3 : Nat) (l1_3 : List Int) (r : Int) (w : World) (hr0_3 : Kd.C (Kd.int .u8) w A0_3 l0_3.length l0_3) (hc0_3 : l0_3.length ≤ c0_3) (hr1_3 : Kd.C (Kd.int .u8) w A1_3 l1_3.length l1_3) (hc1_3 : l1_3.length ≤ c1_3) (h : impl_compareItems.f k a0_0 a0_1 a0_2 l0_3 a1_0 a1_1 a1_2 l1_3 = some r) :
  Calls Try.prog 68 #[.agg #[.int .i64 a0_0, .int .i64 a0_1, .float .f64 a0_2, .slice A0_3 l0_3.length c0_3], .agg #[.int .i64 a1_0, .int .i64 a1_1, .float .f64 a1_2, .slice A1_3 l1_3.length c1_3]] w fun e w' => e = .returned (.int .i64 r) ∧ Below w.heap.size w w' := by
 have hu25 := Try.underlying25
 have HR0_3 := Aside0.mk hr0_3
 have HC0_3 := Aside0.mk hc0_3
 clear hr0_3 hc0_3
 have HR1_3 := Aside0.mk hr1_3
 have HC1_3 := Aside0.mk hc1_3
 clear hr1_3 hc1_3
 have HB := Aside0.mk (Below.refl w.heap.size w)
 have H := h
 clear h
 unfold impl_compareItems.f at H
 replace H := Option.bind_eq_some_iff.mp H
 obtain ⟨t532, A30, H⟩ := H
 (try dsimp only at H)
 have A3 := Aside0.mk A30
 clear A30
 replace H := Option.bind_eq_some_iff.mp H
 obtain ⟨t533, A40, H⟩ := H
 (try dsimp only at H)
 have A4 := Aside0.mk A40
 clear A40
 replace H := Option.bind_eq_some_iff.mp H
 obtain ⟨t534, A50, H⟩ := H
 (try dsimp only at H)
 have A5 := Aside0.mk A50
 clear A50
 replace H := Option.bind_eq_some_iff.mp H
 obtain ⟨t535, A60, H⟩ := H
 (try dsimp only at H)
 have A6 := Aside0.mk A60
 clear A60
 obtain ⟨y536, hy536⟩ : ∃ y_ : List Int, y_ = (([t532, t533, t534, t535] : List Int)) := ⟨_, rfl⟩
 replace H : ((cmp_Or_int.f k y536).bind fun t539 => (some t539)) = some r := by first | (rw [hy536]; with_reducible exact H) | (have H2_ := (Option.bind_some _ _).symm.trans H; rw [hy536]; with_reducible exact H2_) | (have H2_ := (Option.bind_some _ _).symm.trans H; with_reducible exact H2_) | with_reducible exact H | (rw [hy536]; exact H) | exact H
 have Ny536 := Aside0.mk hy536
 clear hy536
 replace H := Option.bind_eq_some_iff.mp H
 obtain ⟨t539, A70, H⟩ := H
 (try dsimp only at H)
 have A7 := Aside0.mk A70
 clear A70
 obtain rfl := Option.some.inj H
 go_enter Try.func68, Try.ntmps68
 try go_wp2_with (first | ((with_reducible refine gate_dst (N := 2) rfl ?_); refine box_event ?hg (N := 2) ?hd (cs := #[.int .i64 a0_0, .int .i64 a0_1, .float .f64 a0_2, .slice A0_3 l0_3.length c0_3]) (t := 25) ?hr ?_; (case hd => rfl); (case hg => rfl); (case hr => first | (go_simp; done) | (go_simp; rfl)); intro gb530 hg w8 hbox hb; have n0_ := Aside0.mk (below_step (hup HB.out) hb); have n1_ := Aside0.mk (hbox); have n2_ := Geq.mk ((by rw [hg]; exact (below_size (hup HB.out)) : w.heap.size ≤ gb530)); have n3_ := Geq.mk ((by rw [hg]; exact (below_size (hup HB.out)) : w.heap.size ≤ gb530)); clear HB; have HB := n0_; have BK530 := n1_; have GW530 := n2_; have GE530 := n3_; clear n0_ n1_ n2_ n3_; clear hb hbox hg) | ((with_reducible refine gate_dst (N := 3) rfl ?_); refine box_event ?hg (N := 3) ?hd (cs := #[.int .i64 a1_0, .int .i64 a1_1, .float .f64 a1_2, .slice A1_3 l1_3.length c1_3]) (t := 25) ?hr ?_; (case hd => rfl); (case hg => rfl); (case hr => first | (go_simp; done) | (go_simp; rfl)); intro gb531 hg w9 hbox hb; have n0_ := Aside0.mk (blk_below (bup BK530.out) hb); have n1_ := Aside0.mk (below_step (hset HB.out) hb); have n2_ := Aside0.mk (hbox); have n3_ := Geq.mk ((by rw [hg]; exact (below_size (hset HB.out)) : w.heap.size ≤ gb531)); have n4_ := Geq.mk ((by rw [hg]; exact (below_size (hset HB.out)) : w.heap.size ≤ gb531)); have n5_ := Neq.mk ((by rw [hg]; exact Nat.ne_of_lt (blk_lt (g := gb530) (o := .cells #[.int .i64 a0_0, .int .i64 a0_1, .float .f64 a0_2, .slice A0_3 l0_3.length c0_3] 25 (0, 0)) (bup BK530.out)) : gb530 ≠ gb531)); have n6_ := Neq.mk ((by rw [hg]; exact Nat.ne_of_gt (blk_lt (g := gb530) (o := .cells #[.int .i64 a0_0, .int .i64 a0_1, .float .f64 a0_2, .slice A0_3 l0_3.length c0_3] 25 (0, 0)) (bup BK530.out)) : gb531 ≠ gb530)); clear BK530; clear HB; have BK530 := n0_; have HB := n1_; have BK531 := n2_; have GW531 := n3_; have GE531 := n4_; have NB530_531 := n5_; have NB531_530 := n6_; clear n0_ n1_ n2_ n3_ n4_ n5_ n6_; clear hb hbox hg))
 have n0_ := Aside0.mk (blk_drew BK530.out)
 have n1_ := Aside0.mk (blk_drew BK531.out)
 have n2_ := Aside0.mk (below_drew1 HB.out)
 clear BK530
 clear BK531
 clear HB
 have BK530 := n0_
 have BK531 := n1_
 have HB := n2_
 clear n0_ n1_ n2_
 refine start_ (n := 23) (S := fun w' => w'.cell? ⟨gb530, 0, none⟩ = some (.int .i64 a0_0) ∧ w'.cell? ⟨gb530, 1, none⟩ = some (.int .i64 a0_1) ∧ w'.cell? ⟨gb530, 2, none⟩ = some (.float .f64 a0_2) ∧ w'.cell? ⟨gb530, 3, none⟩ = some (.slice A0_3 l0_3.length c0_3) ∧ w'.cell? ⟨gb531, 0, none⟩ = some (.int .i64 a1_0) ∧ w'.cell? ⟨gb531, 1, none⟩ = some (.int .i64 a1_1) ∧ w'.cell? ⟨gb531, 2, none⟩ = some (.float .f64 a1_2) ∧ w'.cell? ⟨gb531, 3, none⟩ = some (.slice A1_3 l1_3.length c1_3)) (ds := []) #[false, false, false, false, false, false, false, false, false, false, false, false, false, false, false, false, false, false, false, false, false, false, false] (by kernel_rfl) rfl rfl ⟨(blk_cell BK530.out 0).trans rfl, (blk_cell BK530.out 1).trans rfl, (blk_cell BK530.out 2).trans rfl, (blk_cell BK530.out 3).trans rfl, (blk_cell BK531.out 0).trans rfl, (blk_cell BK531.out 1).trans rfl, (blk_cell BK531.out 2).trans rfl, (blk_cell BK531.out 3).trans rfl⟩ (fun hHeld => ?_); refine with_tabW impl_compareItems.tab1 impl_compareItems.bits1 (fun HT_ HW_ => ?_)
 generalize w9.drew = w10 at BK530 BK531 HB hHeld ⊢
 refine pure_ (i := 0) (N := some 5) (v := ?_) (a' := ?_) #[true, false, false, false, false, false, false, false, false, false, false, false, false, false, false, false, false, false, false, false, false, false, false] rfl rfl (any_of HT_.out (by kernel_rfl)) (fun _ _ _ h => h) (Or.inl ⟨by rfl, ?_⟩) ?_ ?_
 rotate_left
 ·intro w'
  go_simp
  with_reducible rfl
 rotate_left
 ·simp only [Act.put, List.setIfInBounds_toArray, List.set_cons_zero, List.set_cons_succ, i64_w, i32_w]
  rfl
 refine pure_ (i := 2) (N := some 7) (v := ?_) (a' := ?_) #[true, false, true, false, false, false, false, false, false, false, false, false, false, false, false, false, false, false, false, false, false, false, false] rfl rfl (any_of HT_.out (by kernel_rfl)) (fun _ _ _ h => h) (Or.inl ⟨by rfl, ?_⟩) ?_ ?_
 rotate_left
 ·intro w'
  go_simp
  with_reducible rfl
 rotate_left
 ·simp only [Act.put, List.setIfInBounds_toArray, List.set_cons_zero, List.set_cons_succ, i64_w, i32_w]
  rfl
 refine pure_ (i := 5) (N := some 10) (v := ?_) (a' := ?_) #[true, false, true, false, false, true, false, false, false, false, false, false, false, false, false, false, false, false, false, false, false, false, false] rfl rfl (any_of HT_.out (by kernel_rfl)) (fun _ _ _ h => h) (Or.inl ⟨by rfl, ?_⟩) ?_ ?_
 rotate_left
 ·intro w'
  go_simp
  with_reducible rfl
 rotate_left
 ·simp only [Act.put, List.setIfInBounds_toArray, List.set_cons_zero, List.set_cons_succ, i64_w, i32_w]
  rfl
 refine pure_ (i := 7) (N := some 12) (v := ?_) (a' := ?_) #[true, false, true, false, false, true, false, true, false, false, false, false, false, false, false, false, false, false, false, false, false, false, false] rfl rfl (any_of HT_.out (by kernel_rfl)) (fun _ _ _ h => h) (Or.inl ⟨by rfl, ?_⟩) ?_ ?_
 rotate_left
 ·intro w'
  go_simp
  with_reducible rfl
 rotate_left
 ·simp only [Act.put, List.setIfInBounds_toArray, List.set_cons_zero, List.set_cons_succ, i64_w, i32_w]
  rfl
 refine pure_ (i := 10) (N := some 15) (v := ?_) (a' := ?_) #[true, false, true, false, false, true, false, true, false, false, true, false, false, false, false, false, false, false, false, false, false, false, false] rfl rfl (any_of HT_.out (by kernel_rfl)) (fun _ _ _ h => h) (Or.inl ⟨by rfl, ?_⟩) ?_ ?_
 rotate_left
 ·intro w'
  go_simp
  with_reducible rfl
 rotate_left
 ·simp only [Act.put, List.setIfInBounds_toArray, List.set_cons_zero, List.set_cons_succ, i64_w, i32_w]
  rfl
 refine pure_ (i := 12) (N := some 17) (v := ?_) (a' := ?_) #[true, false, true, false, false, true, false, true, false, false, true, false, true, false, false, false, false, false, false, false, false, false, false] rfl rfl (any_of HT_.out (by kernel_rfl)) (fun _ _ _ h => h) (Or.inl ⟨by rfl, ?_⟩) ?_ ?_
 rotate_left
 ·intro w'
  go_simp
  with_reducible rfl
 rotate_left
 ·simp only [Act.put, List.setIfInBounds_toArray, List.set_cons_zero, List.set_cons_succ, i64_w, i32_w]
  rfl
 refine pure_ (i := 15) (N := some 20) (v := ?_) (a' := ?_) #[true, false, true, false, false, true, false, true, false, false, true, false, true, false, false, true, false, false, false, false, false, false, false] rfl rfl (any_of HT_.out (by kernel_rfl)) (fun _ _ _ h => h) (Or.inl ⟨by rfl, ?_⟩) ?_ ?_
 rotate_left
 ·intro w'
  go_simp
  with_reducible rfl
 rotate_left
 ·simp only [Act.put, List.setIfInBounds_toArray, List.set_cons_zero, List.set_cons_succ, i64_w, i32_w]
  rfl
 refine pure_ (i := 17) (N := some 22) (v := ?_) (a' := ?_) #[true, false, true, false, false, true, false, true, false, false, true, false, true, false, false, true, false, true, false, false, false, false, false] rfl rfl (any_of HT_.out (by kernel_rfl)) (fun _ _ _ h => h) (Or.inl ⟨by rfl, ?_⟩) ?_ ?_
 rotate_left
 ·intro w'
  go_simp
  with_reducible rfl
 rotate_left
 ·simp only [Act.put, List.setIfInBounds_toArray, List.set_cons_zero, List.set_cons_succ, i64_w, i32_w]
  rfl
 refine take_ (i := 1) (N := some 6) (v := ?_) (a' := ?_) #[true, true, true, false, false, true, false, true, false, false, true, false, true, false, false, true, false, true, false, false, false, false, false] rfl rfl (take_ofW HT_.out HW_.out (by kernel_rfl)) (fun _ _ _ h => h) (Or.inl ⟨by rfl, ?_⟩) hHeld ?_ ?_
 rotate_left
 ·rintro w' ⟨s0, s1, s2, s3, s4, s5, s6, s7⟩
  go_simp
  with_reducible rfl
 rotate_left
 ·simp only [Act.put, List.setIfInBounds_toArray, List.set_cons_zero, List.set_cons_succ, i64_w, i32_w]
  rfl
 refine take_ (i := 3) (N := some 8) (v := ?_) (a' := ?_) #[true, true, true, true, false, true, false, true, false, false, true, false, true, false, false, true, false, true, false, false, false, false, false] rfl rfl (take_ofW HT_.out HW_.out (by kernel_rfl)) (fun _ _ _ h => h) (Or.inl ⟨by rfl, ?_⟩) hHeld ?_ ?_
 rotate_left
 ·rintro w' ⟨s0, s1, s2, s3, s4, s5, s6, s7⟩
  go_simp
  with_reducible rfl
 rotate_left
 ·simp only [Act.put, List.setIfInBounds_toArray, List.set_cons_zero, List.set_cons_succ, i64_w, i32_w]
  rfl
 refine take_ (i := 6) (N := some 11) (v := ?_) (a' := ?_) #[true, true, true, true, false, true, true, true, false, false, true, false, true, false, false, true, false, true, false, false, false, false, false] rfl rfl (take_ofW HT_.out HW_.out (by kernel_rfl)) (fun _ _ _ h => h) (Or.inl ⟨by rfl, ?_⟩) hHeld ?_ ?_
 rotate_left
 ·rintro w' ⟨s0, s1, s2, s3, s4, s5, s6, s7⟩
  go_simp
  with_reducible rfl
 rotate_left
 ·simp only [Act.put, List.setIfInBounds_toArray, List.set_cons_zero, List.set_cons_succ, i64_w, i32_w]
  rfl
 refine take_ (i := 8) (N := some 13) (v := ?_) (a' := ?_) #[true, true, true, true, false, true, true, true, true, false, true, false, true, false, false, true, false, true, false, false, false, false, false] rfl rfl (take_ofW HT_.out HW_.out (by kernel_rfl)) (fun _ _ _ h => h) (Or.inl ⟨by rfl, ?_⟩) hHeld ?_ ?_
 rotate_left
 ·rintro w' ⟨s0, s1, s2, s3, s4, s5, s6, s7⟩
  go_simp
  with_reducible rfl
 rotate_left
 ·simp only [Act.put, List.setIfInBounds_toArray, List.set_cons_zero, List.set_cons_succ, i64_w, i32_w]
  rfl
 refine take_ (i := 11) (N := some 16) (v := ?_) (a' := ?_) #[true, true, true, true, false, true, true, true, true, false, true, true, true, false, false, true, false, true, false, false, false, false, false] rfl rfl (take_ofW HT_.out HW_.out (by kernel_rfl)) (fun _ _ _ h => h) (Or.inl ⟨by rfl, ?_⟩) hHeld ?_ ?_
 rotate_left
 ·rintro w' ⟨s0, s1, s2, s3, s4, s5, s6, s7⟩
  go_simp
  with_reducible rfl
 rotate_left
 ·simp only [Act.put, List.setIfInBounds_toArray, List.set_cons_zero, List.set_cons_succ, i64_w, i32_w]
  rfl
 refine take_ (i := 13) (N := some 18) (v := ?_) (a' := ?_) #[true, true, true, true, false, true, true, true, true, false, true, true, true, true, false, true, false, true, false, false, false, false, false] rfl rfl (take_ofW HT_.out HW_.out (by kernel_rfl)) (fun _ _ _ h => h) (Or.inl ⟨by rfl, ?_⟩) hHeld ?_ ?_
 rotate_left
 ·rintro w' ⟨s0, s1, s2, s3, s4, s5, s6, s7⟩
  go_simp
  with_reducible rfl
 rotate_left
 ·simp only [Act.put, List.setIfInBounds_toArray, List.set_cons_zero, List.set_cons_succ, i64_w, i32_w]
  rfl
 refine take_ (i := 16) (N := some 21) (v := ?_) (a' := ?_) #[true, true, true, true, false, true, true, true, true, false, true, true, true, true, false, true, true, true, false, false, false, false, false] rfl rfl (take_ofW HT_.out HW_.out (by kernel_rfl)) (fun _ _ _ h => h) (Or.inl ⟨by rfl, ?_⟩) hHeld ?_ ?_
 rotate_left
 ·rintro w' ⟨s0, s1, s2, s3, s4, s5, s6, s7⟩
  go_simp
  with_reducible rfl
 rotate_left
 ·simp only [Act.put, List.setIfInBounds_toArray, List.set_cons_zero, List.set_cons_succ, i64_w, i32_w]
  rfl
 refine take_ (i := 18) (N := some 23) (v := ?_) (a' := ?_) #[true, true, true, true, false, true, true, true, true, false, true, true, true, true, false, true, true, true, true, false, false, false, false] rfl rfl (take_ofW HT_.out HW_.out (by kernel_rfl)) (fun _ _ _ h => h) (Or.inl ⟨by rfl, ?_⟩) hHeld ?_ ?_
 rotate_left
 ·rintro w' ⟨s0, s1, s2, s3, s4, s5, s6, s7⟩
  go_simp
  with_reducible rfl
 rotate_left
 ·simp only [Act.put, List.setIfInBounds_toArray, List.set_cons_zero, List.set_cons_succ, i64_w, i32_w]
  rfl
 refine one_ (i := 4) (N := some 9) #[true, true, true, true, true, true, true, true, true, false, true, true, true, true, false, true, true, true, true, false, false, false, false] rfl rfl (one_of HT_.out (by kernel_rfl)) (by decide) (fun K hK => ?_)
 refine goes_ Try.func92 (by kernel_rfl) rfl #[.int .i64 a0_0, .int .i64 a1_0] (by rfl) rfl rfl (by (try simp only [List.map_toArray, List.map_cons, List.map_nil]); first | done | rfl) ?_
 with_reducible refine (cmp_Compare_int.calls a0_0 a1_0 t532 _ A3.out).mono ?_
 rintro e w' ⟨rfl, ⟨nd, rfl⟩⟩
 refine ⟨_, rfl, ?_⟩
 refine hK.out _ _ ⟨(blk_cell BK530.out 0).trans rfl, (blk_cell BK530.out 1).trans rfl, (blk_cell BK530.out 2).trans rfl, (blk_cell BK530.out 3).trans rfl, (blk_cell BK531.out 0).trans rfl, (blk_cell BK531.out 1).trans rfl, (blk_cell BK531.out 2).trans rfl, (blk_cell BK531.out 3).trans rfl⟩ (fun hHeld => ?_)
 clear hK K
 refine norm_ (a' := ?_) ?_ ?_
 rotate_left
 ·show Act.put _ (some 9) _ = _
  simp only [Act.put, List.setIfInBounds_toArray, List.set_cons_zero, List.set_cons_succ, i64_w, i32_w]
  rfl
 refine one_ (i := 9) (N := some 14) #[true, true, true, true, true, true, true, true, true, true, true, true, true, true, false, true, true, true, true, false, false, false, false] rfl rfl (one_of HT_.out (by kernel_rfl)) (by decide) (fun K hK => ?_)
 refine goes_ Try.func92 (by kernel_rfl) rfl #[.int .i64 a0_1, .int .i64 a1_1] (by rfl) rfl rfl (by (try simp only [List.map_toArray, List.map_cons, List.map_nil]); first | done | rfl) ?_
 with_reducible refine (cmp_Compare_int.calls a0_1 a1_1 t533 _ A4.out).mono ?_
 rintro e w' ⟨rfl, ⟨nd, rfl⟩⟩
 refine ⟨_, rfl, ?_⟩
 refine hK.out _ _ ⟨(blk_cell BK530.out 0).trans rfl, (blk_cell BK530.out 1).trans rfl, (blk_cell BK530.out 2).trans rfl, (blk_cell BK530.out 3).trans rfl, (blk_cell BK531.out 0).trans rfl, (blk_cell BK531.out 1).trans rfl, (blk_cell BK531.out 2).trans rfl, (blk_cell BK531.out 3).trans rfl⟩ (fun hHeld => ?_)
 clear hK K
 refine norm_ (a' := ?_) ?_ ?_
 rotate_left
 ·show Act.put _ (some 14) _ = _
  simp only [Act.put, List.setIfInBounds_toArray, List.set_cons_zero, List.set_cons_succ, i64_w, i32_w]
  rfl
 refine one_ (i := 14) (N := some 19) #[true, true, true, true, true, true, true, true, true, true, true, true, true, true, true, true, true, true, true, false, false, false, false] rfl rfl (one_of HT_.out (by kernel_rfl)) (by decide) (fun K hK => ?_)
 refine goes_ Try.func93 (by kernel_rfl) rfl #[.float .f64 a0_2, .float .f64 a1_2] (by rfl) rfl rfl (by (try simp only [List.map_toArray, List.map_cons, List.map_nil]); first | done | rfl) ?_
 with_reducible refine (impl_FloatCompare.calls a0_2 a1_2 t534 _ A5.out).mono ?_
 rintro e w' ⟨rfl, ⟨nd, rfl⟩⟩
 refine ⟨_, rfl, ?_⟩
 refine hK.out _ _ ⟨(blk_cell BK530.out 0).trans rfl, (blk_cell BK530.out 1).trans rfl, (blk_cell BK530.out 2).trans rfl, (blk_cell BK530.out 3).trans rfl, (blk_cell BK531.out 0).trans rfl, (blk_cell BK531.out 1).trans rfl, (blk_cell BK531.out 2).trans rfl, (blk_cell BK531.out 3).trans rfl⟩ (fun hHeld => ?_)
 clear hK K
 refine norm_ (a' := ?_) ?_ ?_
 rotate_left
 ·show Act.put _ (some 19) _ = _
  simp only [Act.put, List.setIfInBounds_toArray, List.set_cons_zero, List.set_cons_succ, i64_w, i32_w]
  rfl
 refine one_ (i := 19) (N := some 24) #[true, true, true, true, true, true, true, true, true, true, true, true, true, true, true, true, true, true, true, true, false, false, false] rfl rfl (one_of HT_.out (by kernel_rfl)) (by decide) (fun K hK => ?_)
 refine goes_ Try.func94 (by kernel_rfl) rfl #[.slice A0_3 l0_3.length c0_3, .slice A1_3 l1_3.length c1_3] (by rfl) rfl rfl (by (try simp only [List.map_toArray, List.map_cons, List.map_nil]); first | done | rfl) ?_
 with_reducible refine (bytes_Compare.calls _ _ l0_3 _ _ l1_3 t535 _ ?side1 ?side2 ?side3 ?side4 A6.out).mono ?_
 (case side1 => repeat (first | exact (Kd.C_below HR0_3.out (hset HB.out)) | (with_reducible refine Kd.C_alloc ?_ _) | (with_reducible refine Kd.C_drewN ?_ _) | (with_reducible refine Kd.C_drew ?_)))
 (case side2 => exact HC0_3.out)
 (case side3 => repeat (first | exact (Kd.C_below HR1_3.out (hset HB.out)) | (with_reducible refine Kd.C_alloc ?_ _) | (with_reducible refine Kd.C_drewN ?_ _) | (with_reducible refine Kd.C_drew ?_)))
 (case side4 => exact HC1_3.out)
 rintro e w' ⟨rfl, ⟨nd, rfl⟩⟩
 refine ⟨_, rfl, ?_⟩
 refine hK.out _ _ ⟨(blk_cell BK530.out 0).trans rfl, (blk_cell BK530.out 1).trans rfl, (blk_cell BK530.out 2).trans rfl, (blk_cell BK530.out 3).trans rfl, (blk_cell BK531.out 0).trans rfl, (blk_cell BK531.out 1).trans rfl, (blk_cell BK531.out 2).trans rfl, (blk_cell BK531.out 3).trans rfl⟩ (fun hHeld => ?_)
 clear hK K
 refine norm_ (a' := ?_) ?_ ?_
 rotate_left
 ·show Act.put _ (some 24) _ = _
  simp only [Act.put, List.setIfInBounds_toArray, List.set_cons_zero, List.set_cons_succ, i64_w, i32_w]
  rfl
 refine one_ (i := 20) (N := some 25) #[true, true, true, true, true, true, true, true, true, true, true, true, true, true, true, true, true, true, true, true, true, false, false] rfl rfl (one_of HT_.out (by kernel_rfl)) (by decide) (fun K hK => ?_)
 refine Kd.R_lit_step (Kd.int .i64) _ 3 ?hg (N := 25) ?hd (xs := ([t532, t533, t534, t535] : List Int)) (inner := [.int .i64 t532, .int .i64 t533, .int .i64 t534, .int .i64 t535]) (ok := fun _ => True) (okp := fun _ => True) ?hr ?hp (fun _ hk => hk) trivial (Below.refl _ _) (Nat.le_refl _) (by simp) ?_; (case hd => rfl); (case hg => rfl); (case hr => first | (go_simp; done) | (go_simp; rfl)); (case hp => exact (Reps.one (show Kd.M (Kd.int .i64) _ _ _ t532 [.int .i64 t532] from rfl) (Reps.one (show Kd.M (Kd.int .i64) _ _ _ t533 [.int .i64 t533] from rfl) (Reps.one (show Kd.M (Kd.int .i64) _ _ _ t534 [.int .i64 t534] from rfl) (Reps.one (show Kd.M (Kd.int .i64) _ _ _ t535 [.int .i64 t535] from rfl) (Reps.none _ _))))))
 intro v537 w11 ho12 hb hg_ hnew_
 clear hg_ hnew_
 (first | rw [← Ny536.out] at ho12 | (simp only [Int.reduceToNat] at ho12; rw [← Ny536.out] at ho12))
 have n0_ := Aside0.mk (Kd.R_lower ho12 (below_size (hset HB.out)))
 have n1_ := Aside0.mk (blk_below (bup BK530.out) hb)
 have n2_ := Aside0.mk (blk_below (bup BK531.out) hb)
 have n3_ := Aside0.mk (below_step (hset HB.out) hb)
 clear BK530
 clear BK531
 clear HB
 have HO538 := n0_
 have BK530 := n1_
 have BK531 := n2_
 have HB := n3_
 clear n0_ n1_ n2_ n3_
 clear hb ho12
 obtain ⟨Ao13, co13, eo13⟩ := Kd.R_slice HO538.out
 (first | subst eo13 | (injection eo13 with f1_ f2_ f3_; have f4_ := f1_.symm; have f5_ := f3_.symm; clear f1_ f2_ f3_; subst f4_; subst f5_))
 refine hK.out _ _ ⟨(blk_cell BK530.out 0).trans rfl, (blk_cell BK530.out 1).trans rfl, (blk_cell BK530.out 2).trans rfl, (blk_cell BK530.out 3).trans rfl, (blk_cell BK531.out 0).trans rfl, (blk_cell BK531.out 1).trans rfl, (blk_cell BK531.out 2).trans rfl, (blk_cell BK531.out 3).trans rfl⟩ (fun hHeld => ?_)
 clear hK K
 refine norm_ (a' := ?_) ?_ ?_
 rotate_left
 ·show Act.put _ (some 25) _ = _
  simp only [Act.put, List.setIfInBounds_toArray, List.set_cons_zero, List.set_cons_succ, i64_w, i32_w]
  rfl
 refine one_ (i := 21) (N := some 26) #[true, true, true, true, true, true, true, true, true, true, true, true, true, true, true, true, true, true, true, true, true, true, false] rfl rfl (one_of HT_.out (by kernel_rfl)) (by decide) (fun K hK => ?_)
 refine goes_ Try.func91 (by kernel_rfl) rfl #[.slice Ao13 y536.length co13] (by rfl) rfl rfl (by (try simp only [List.map_toArray, List.map_cons, List.map_nil]); first | done | rfl) ?_
 with_reducible refine (cmp_Or_int.calls k _ _ y536 t539 _ ?side1 ?side2 A7.out).mono ?_
 (case side1 => repeat (first | exact (Kd.R_reads' HO538.out).2.2 | (with_reducible refine Kd.C_alloc ?_ _) | (with_reducible refine Kd.C_drewN ?_ _) | (with_reducible refine Kd.C_drew ?_)))
 (case side2 => exact (Kd.R_reads' HO538.out).2.1)
 rintro e w' ⟨rfl, ⟨nd, rfl⟩⟩
 refine ⟨_, rfl, ?_⟩
 refine hK.out _ _ ⟨(blk_cell BK530.out 0).trans rfl, (blk_cell BK530.out 1).trans rfl, (blk_cell BK530.out 2).trans rfl, (blk_cell BK530.out 3).trans rfl, (blk_cell BK531.out 0).trans rfl, (blk_cell BK531.out 1).trans rfl, (blk_cell BK531.out 2).trans rfl, (blk_cell BK531.out 3).trans rfl⟩ (fun hHeld => ?_)
 clear hK K
 refine norm_ (a' := ?_) ?_ ?_
 rotate_left
 ·show Act.put _ (some 26) _ = _
  simp only [Act.put, List.setIfInBounds_toArray, List.set_cons_zero, List.set_cons_succ, i64_w, i32_w]
  rfl
 refine pure_ (i := 22) (N := some 4) (v := ?_) (a' := ?_) #[true, true, true, true, true, true, true, true, true, true, true, true, true, true, true, true, true, true, true, true, true, true, true] rfl rfl (any_of HT_.out (by kernel_rfl)) (fun _ _ _ h => h) (Or.inl ⟨by rfl, ?_⟩) ?_ ?_
 rotate_left
 ·intro w'
  go_simp
  with_reducible rfl
 rotate_left
 ·simp only [Act.put, List.setIfInBounds_toArray, List.set_cons_zero, List.set_cons_succ, i64_w, i32_w]
  rfl
 refine done_ (done_of HT_.out (by kernel_rfl)) ?_
 try go_wp2
 go_ret
 exact ⟨by first | rfl | (simp [errW_none, errW_some] <;> rfl) | (simp [*, errW_none, errW_some] <;> rfl), hset HB.out⟩
theorem impl_compareItems.inv0 (k : Nat) (a0_0 : Int) (a0_1 : Int) (a0_2 : Nat) (l0_3 : List Int) (a1_0 : Int) (a1_1 : Int) (a1_2 : Nat) (l1_3 : List Int) : impl_compareItems.f k a0_0 a0_1 (cn a0_2) l0_3 a1_0 a1_1 a1_2 l1_3 = impl_compareItems.f k a0_0 a0_1 a0_2 l0_3 a1_0 a1_1 a1_2 l1_3 := by
  by_cases h_ : nanw a0_2
  · unfold impl_compareItems.f
    first
      | (simp only [impl_FloatCompare.inv0, impl_FloatCompare.inv1, cn_zeroI, cn_zero, feq_cn_l, feq_cn_r, fls_cn_l, fls_cn_r, fgt_cn_l, fgt_cn_r, fle_cn_l, fle_cn_r, fge_cn_l, fge_cn_r]; done)
      | (simp only [impl_FloatCompare.inv0, impl_FloatCompare.inv1, cn_zeroI, cn_zero, feq_cn_l, feq_cn_r, fls_cn_l, fls_cn_r, fgt_cn_l, fgt_cn_r, fle_cn_l, fle_cn_r, fge_cn_l, fge_cn_r, feq_nan_l h_, feq_nan_l (cn_nanw h_), Bool.false_eq_true, if_false]; done)
      | (simp [feq_nan_l h_, feq_nan_l (cn_nanw h_)]; done)
  · rw [cn_num h_]
theorem impl_compareItems.inv1 (k : Nat) (a0_0 : Int) (a0_1 : Int) (a0_2 : Nat) (l0_3 : List Int) (a1_0 : Int) (a1_1 : Int) (a1_2 : Nat) (l1_3 : List Int) : impl_compareItems.f k a0_0 a0_1 a0_2 l0_3 a1_0 a1_1 (cn a1_2) l1_3 = impl_compareItems.f k a0_0 a0_1 a0_2 l0_3 a1_0 a1_1 a1_2 l1_3 := by
  by_cases h_ : nanw a1_2
  · unfold impl_compareItems.f
    first
      | (simp only [impl_FloatCompare.inv0, impl_FloatCompare.inv1, cn_zeroI, cn_zero, feq_cn_l, feq_cn_r, fls_cn_l, fls_cn_r, fgt_cn_l, fgt_cn_r, fle_cn_l, fle_cn_r, fge_cn_l, fge_cn_r]; done)
      | (simp only [impl_FloatCompare.inv0, impl_FloatCompare.inv1, cn_zeroI, cn_zero, feq_cn_l, feq_cn_r, fls_cn_l, fls_cn_r, fgt_cn_l, fgt_cn_r, fle_cn_l, fle_cn_r, fge_cn_l, fge_cn_r, feq_nan_l h_, feq_nan_l (cn_nanw h_), Bool.false_eq_true, if_false]; done)
      | (simp [feq_nan_l h_, feq_nan_l (cn_nanw h_)]; done)
  · rw [cn_num h_]
def impl_ItemCompare.f (k : Nat) (a0_0 : Int) (a0_1 : Int) (a0_2 : Nat) (l0_3 : List Int) (a1_0 : Int) (a1_1 : Int) (a1_2 : Nat) (l1_3 : List Int) : Option (Int) := (impl_ItemOk.f a0_0 a0_1 a0_2 l0_3).bind fun t542 => (if t542 = true then ((impl_ItemOk.f a1_0 a1_1 a1_2 l1_3).bind fun t543 => (if t543 = true then ((impl_compareItems.f k a0_0 a0_1 a0_2 l0_3 a1_0 a1_1 a1_2 l1_3).bind fun t544 => (some t544)) else (some (-2)))) else (some (-2)))
theorem impl_ItemCompare.mono : ∀ a0 a1 a2 a3 a4 a5 a6 a7 k, LeO (impl_ItemCompare.f k a0 a1 a2 a3 a4 a5 a6 a7) (impl_ItemCompare.f (k + 1) a0 a1 a2 a3 a4 a5 a6 a7) := by
 intro a0 a1 a2 a3 a4 a5 a6 a7 k
 unfold impl_ItemCompare.f
 repeat' with_reducible first | exact impl_compareItems.mono _ _ _ _ _ _ _ _ _ | exact LeO.refl _ | exact LeO.none _ | refine LeO.ite ?_ ?_ | refine LeO.bind ?_ (fun _ => ?_)
set_option maxHeartbeats 8000000 in
set_option maxRecDepth 100000 in
theorem impl_ItemCompare.calls (k : Nat) (a0_0 : Int) (a0_1 : Int) (a0_2 : Nat) (A0_3 : Option Addr) (c0_3 : Nat) (l0_3 : List Int) (a1_0 : Int) (a1_1 : Int) (a1_2 : Nat) (A1_3 : Option Addr) (c1_3 : Nat) (l1_3 : List Int) (r : Int) (w : World) (hr0_3 : Kd.C (Kd.int .u8) w A0_3 l0_3.length l0_3) (hc0_3 : l0_3.length ≤ c0_3) (hr1_3 : Kd.C (Kd.int .u8) w A1_3 l1_3.length l1_3) (hc1_3 : l1_3.length ≤ c1_3) (h : impl_ItemCompare.f k a0_0 a0_1 a0_2 l0_3 a1_0 a1_1 a1_2 l1_3 = some r) :
  Calls Try.prog 28 #[.agg #[.int .i64 a0_0, .int .i64 a0_1, .float .f64 a0_2, .slice A0_3 l0_3.length c0_3], .agg #[.int .i64 a1_0, .int .i64 a1_1, .float .f64 a1_2, .slice A1_3 l1_3.length c1_3]] w fun e w' => e = .returned (.int .i64 r) ∧ Below w.heap.size w w' := by
 have hu25 := Try.underlying25
 have HR0_3 := Aside0.mk hr0_3
 have HC0_3 := Aside0.mk hc0_3
 clear hr0_3 hc0_3
 have HR1_3 := Aside0.mk hr1_3
 have HC1_3 := Aside0.mk hc1_3
 clear hr1_3 hc1_3
 have HB := Aside0.mk (Below.refl w.heap.size w)
 have H := h
 clear h
 unfold impl_ItemCompare.f at H
 replace H := Option.bind_eq_some_iff.mp H
 obtain ⟨t542, A30, H⟩ := H
 (try dsimp only at H)
 have A3 := Aside0.mk A30
 clear A30
 go_enter Try.func28, Try.ntmps28
 repeat (first | ((with_reducible refine gate_dst (N := 2) rfl ?_); refine box_event ?hg (N := 2) ?hd (cs := #[.int .i64 a0_0, .int .i64 a0_1, .float .f64 a0_2, .slice A0_3 l0_3.length c0_3]) (t := 25) ?hr ?_; (case hd => rfl); (case hg => rfl); (case hr => first | (go_simp; done) | (go_simp; rfl)); intro gb540 hg w8 hbox hb; have n0_ := Aside0.mk (below_step (hup HB.out) hb); have n1_ := Aside0.mk (hbox); have n2_ := Geq.mk ((by rw [hg]; exact (below_size (hup HB.out)) : w.heap.size ≤ gb540)); have n3_ := Geq.mk ((by rw [hg]; exact (below_size (hup HB.out)) : w.heap.size ≤ gb540)); clear HB; have HB := n0_; have BK540 := n1_; have GW540 := n2_; have GE540 := n3_; clear n0_ n1_ n2_ n3_; clear hb hbox hg) | ((with_reducible refine gate_dst (N := 3) rfl ?_); refine box_event ?hg (N := 3) ?hd (cs := #[.int .i64 a1_0, .int .i64 a1_1, .float .f64 a1_2, .slice A1_3 l1_3.length c1_3]) (t := 25) ?hr ?_; (case hd => rfl); (case hg => rfl); (case hr => first | (go_simp; done) | (go_simp; rfl)); intro gb541 hg w9 hbox hb; have n0_ := Aside0.mk (blk_below (bup BK540.out) hb); have n1_ := Aside0.mk (below_step (hset HB.out) hb); have n2_ := Aside0.mk (hbox); have n3_ := Geq.mk ((by rw [hg]; exact (below_size (hset HB.out)) : w.heap.size ≤ gb541)); have n4_ := Geq.mk ((by rw [hg]; exact (below_size (hset HB.out)) : w.heap.size ≤ gb541)); have n5_ := Neq.mk ((by rw [hg]; exact Nat.ne_of_lt (blk_lt (g := gb540) (o := .cells #[.int .i64 a0_0, .int .i64 a0_1, .float .f64 a0_2, .slice A0_3 l0_3.length c0_3] 25 (0, 0)) (bup BK540.out)) : gb540 ≠ gb541)); have n6_ := Neq.mk ((by rw [hg]; exact Nat.ne_of_gt (blk_lt (g := gb540) (o := .cells #[.int .i64 a0_0, .int .i64 a0_1, .float .f64 a0_2, .slice A0_3 l0_3.length c0_3] 25 (0, 0)) (bup BK540.out)) : gb541 ≠ gb540)); clear BK540; clear HB; have BK540 := n0_; have HB := n1_; have BK541 := n2_; have GW541 := n3_; have GE541 := n4_; have NB540_541 := n5_; have NB541_540 := n6_; clear n0_ n1_ n2_ n3_ n4_ n5_ n6_; clear hb hbox hg; have hnb10 := NB540_541.out; have hnc10 := NB541_540.out; obtain ⟨hcz11_0, hcz11_1, hcz11_2, hcz11_3⟩ := blk_cells4 BK540.out; obtain ⟨hfz11_0, hfz11_1, hfz11_2, hfz11_3⟩ := blk_frozens4 BK540.out) | ((fail_if_success (with_reducible refine gate_callee (f := 50) rfl ?_)); first | go_values | go_skip | go_guarded | go_step | go_upon | go_back | (simp only [Int.not_lt, Int.not_le] at *; go_simp)))
 (with_reducible refine gate_callee (f := 50) rfl ?_); refine goesL_ (some 6) rfl rfl Try.func50 (by kernel_rfl) rfl #[.agg #[.int .i64 a0_0, .int .i64 a0_1, .float .f64 a0_2, .slice A0_3 l0_3.length c0_3]] rfl (by (try simp only [List.map_toArray, List.map_cons, List.map_nil]); first | done | rfl) ?_; (with_reducible refine (impl_ItemOk.calls a0_0 a0_1 a0_2 _ _ l0_3 t542 _ ?side1 ?side2 A3.out).mono ?_); (case side1 => repeat (first | exact (Kd.C_below HR0_3.out HB.out) | (with_reducible refine Kd.C_alloc ?_ _) | (with_reducible refine Kd.C_drewN ?_ _) | (with_reducible refine Kd.C_drew ?_))); (case side2 => exact HC0_3.out); rintro e w12 ⟨rfl, hb⟩; refine ⟨_, rfl, ?_⟩; have n0_ := Aside0.mk (blk_below (bup BK540.out) hb); have n1_ := Aside0.mk (blk_below (bup BK541.out) hb); have n2_ := Aside0.mk (below_step (hset HB.out) hb); clear BK540; clear BK541; clear HB; have BK540 := n0_; have BK541 := n1_; have HB := n2_; clear n0_ n1_ n2_; (try clear hb); (try clear hb2); (try clear hk)
 by_cases c4 : t542 = true
 ·subst c4
  rw [if_pos rfl] at H
  (try dsimp only at H)
  replace H := Option.bind_eq_some_iff.mp H
  obtain ⟨t543, A50, H⟩ := H
  (try dsimp only at H)
  have A5 := Aside0.mk A50
  clear A50
  (try clear hi); obtain ⟨hcz13_0, hcz13_1, hcz13_2, hcz13_3⟩ := blk_cells4 BK541.out; obtain ⟨hfz13_0, hfz13_1, hfz13_2, hfz13_3⟩ := blk_frozens4 BK541.out
  try go_wp2_with (fail)
  go_at_call 50; (with_reducible refine (impl_ItemOk.calls a1_0 a1_1 a1_2 _ _ l1_3 t543 _ ?side1 ?side2 A5.out).mono ?_); (case side1 => repeat (first | exact (Kd.C_below HR1_3.out HB.out) | (with_reducible refine Kd.C_alloc ?_ _) | (with_reducible refine Kd.C_drewN ?_ _) | (with_reducible refine Kd.C_drew ?_))); (case side2 => exact HC1_3.out); rintro e w14 ⟨rfl, hb⟩; have n0_ := Aside0.mk (blk_below (bup BK540.out) hb); have n1_ := Aside0.mk (blk_below (bup BK541.out) hb); have n2_ := Aside0.mk (below_step (hset HB.out) hb); clear BK540; clear BK541; clear HB; have BK540 := n0_; have BK541 := n1_; have HB := n2_; clear n0_ n1_ n2_; (try clear hb); (try clear hb2); (try clear hk)
  by_cases c6 : t543 = true
  ·subst c6
   rw [if_pos rfl] at H
   (try dsimp only at H)
   replace H := Option.bind_eq_some_iff.mp H
   obtain ⟨t544, A70, H⟩ := H
   (try dsimp only at H)
   have A7 := Aside0.mk A70
   clear A70
   obtain rfl := Option.some.inj H
   (try clear hi); obtain ⟨hcz15_0, hcz15_1, hcz15_2, hcz15_3⟩ := blk_cells4 BK540.out; obtain ⟨hfz15_0, hfz15_1, hfz15_2, hfz15_3⟩ := blk_frozens4 BK540.out; obtain ⟨hcz16_0, hcz16_1, hcz16_2, hcz16_3⟩ := blk_cells4 BK541.out; obtain ⟨hfz16_0, hfz16_1, hfz16_2, hfz16_3⟩ := blk_frozens4 BK541.out
   try go_wp2_with (first | ((with_reducible refine gate_callee (f := 68) rfl ?_); refine goesL_ (some 15) rfl rfl Try.func68 (by kernel_rfl) rfl #[.agg #[.int .i64 a0_0, .int .i64 a0_1, .float .f64 a0_2, .slice A0_3 l0_3.length c0_3], .agg #[.int .i64 a1_0, .int .i64 a1_1, .float .f64 a1_2, .slice A1_3 l1_3.length c1_3]] rfl (by (try simp only [List.map_toArray, List.map_cons, List.map_nil]); first | done | rfl) ?_; (with_reducible refine (impl_compareItems.calls k a0_0 a0_1 a0_2 _ _ l0_3 a1_0 a1_1 a1_2 _ _ l1_3 t544 _ ?side1 ?side2 ?side3 ?side4 A7.out).mono ?_); (case side1 => repeat (first | exact (Kd.C_below HR0_3.out HB.out) | (with_reducible refine Kd.C_alloc ?_ _) | (with_reducible refine Kd.C_drewN ?_ _) | (with_reducible refine Kd.C_drew ?_))); (case side2 => exact HC0_3.out); (case side3 => repeat (first | exact (Kd.C_below HR1_3.out HB.out) | (with_reducible refine Kd.C_alloc ?_ _) | (with_reducible refine Kd.C_drewN ?_ _) | (with_reducible refine Kd.C_drew ?_))); (case side4 => exact HC1_3.out); rintro e w17 ⟨rfl, hb⟩; refine ⟨_, rfl, ?_⟩; have n0_ := Aside0.mk (blk_below (bup BK540.out) hb); have n1_ := Aside0.mk (blk_below (bup BK541.out) hb); have n2_ := Aside0.mk (below_step (hset HB.out) hb); clear BK540; clear BK541; clear HB; have BK540 := n0_; have BK541 := n1_; have HB := n2_; clear n0_ n1_ n2_; (try clear hb); (try clear hb2); (try clear hk); (try clear hi)))
   go_ret
   exact ⟨by first | rfl | (simp [errW_none, errW_some] <;> rfl) | (simp [*, errW_none, errW_some] <;> rfl), hset HB.out⟩
  ·replace c6 := Bool.eq_false_iff.mpr c6
   subst c6
   rw [if_neg (show ¬ (false = true) by decide)] at H
   (try dsimp only at H)
   obtain rfl := Option.some.inj H
   (try clear hi)
   try go_wp2
   go_ret
   exact ⟨by first | rfl | (simp [errW_none, errW_some] <;> rfl) | (simp [*, errW_none, errW_some] <;> rfl), hset HB.out⟩
 ·replace c4 := Bool.eq_false_iff.mpr c4
  subst c4
  rw [if_neg (show ¬ (false = true) by decide)] at H
  (try dsimp only at H)
  obtain rfl := Option.some.inj H
  (try clear hi)
  try go_wp2
  go_ret
  exact ⟨by first | rfl | (simp [errW_none, errW_some] <;> rfl) | (simp [*, errW_none, errW_some] <;> rfl), hset HB.out⟩
theorem impl_ItemCompare.inv0 (k : Nat) (a0_0 : Int) (a0_1 : Int) (a0_2 : Nat) (l0_3 : List Int) (a1_0 : Int) (a1_1 : Int) (a1_2 : Nat) (l1_3 : List Int) : impl_ItemCompare.f k a0_0 a0_1 (cn a0_2) l0_3 a1_0 a1_1 a1_2 l1_3 = impl_ItemCompare.f k a0_0 a0_1 a0_2 l0_3 a1_0 a1_1 a1_2 l1_3 := by
  by_cases h_ : nanw a0_2
  · unfold impl_ItemCompare.f
    first
      | (simp only [impl_ItemOk.inv0, impl_compareItems.inv0, impl_compareItems.inv1, cn_zeroI, cn_zero, feq_cn_l, feq_cn_r, fls_cn_l, fls_cn_r, fgt_cn_l, fgt_cn_r, fle_cn_l, fle_cn_r, fge_cn_l, fge_cn_r]; done)
      | (simp only [impl_ItemOk.inv0, impl_compareItems.inv0, impl_compareItems.inv1, cn_zeroI, cn_zero, feq_cn_l, feq_cn_r, fls_cn_l, fls_cn_r, fgt_cn_l, fgt_cn_r, fle_cn_l, fle_cn_r, fge_cn_l, fge_cn_r, feq_nan_l h_, feq_nan_l (cn_nanw h_), Bool.false_eq_true, if_false]; done)
      | (simp [feq_nan_l h_, feq_nan_l (cn_nanw h_)]; done)
  · rw [cn_num h_]
theorem impl_ItemCompare.inv1 (k : Nat) (a0_0 : Int) (a0_1 : Int) (a0_2 : Nat) (l0_3 : List Int) (a1_0 : Int) (a1_1 : Int) (a1_2 : Nat) (l1_3 : List Int) : impl_ItemCompare.f k a0_0 a0_1 a0_2 l0_3 a1_0 a1_1 (cn a1_2) l1_3 = impl_ItemCompare.f k a0_0 a0_1 a0_2 l0_3 a1_0 a1_1 a1_2 l1_3 := by
  by_cases h_ : nanw a1_2
  · unfold impl_ItemCompare.f
    first
      | (simp only [impl_ItemOk.inv0, impl_compareItems.inv0, impl_compareItems.inv1, cn_zeroI, cn_zero, feq_cn_l, feq_cn_r, fls_cn_l, fls_cn_r, fgt_cn_l, fgt_cn_r, fle_cn_l, fle_cn_r, fge_cn_l, fge_cn_r]; done)
      | (simp only [impl_ItemOk.inv0, impl_compareItems.inv0, impl_compareItems.inv1, cn_zeroI, cn_zero, feq_cn_l, feq_cn_r, fls_cn_l, fls_cn_r, fgt_cn_l, fgt_cn_r, fle_cn_l, fle_cn_r, fge_cn_l, fge_cn_r, feq_nan_l h_, feq_nan_l (cn_nanw h_), Bool.false_eq_true, if_false]; done)
      | (simp [feq_nan_l h_, feq_nan_l (cn_nanw h_)]; done)
  · rw [cn_num h_]
end Go.Proofs.Ytjjkhlphdbmdfaa.PFnKeys
