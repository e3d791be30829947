import Derived.Test.YtokpniagnbaflaaZFnPlaces29
import Derived.Test.YtokpniagnbaflaaZFnPlacesA
import Derived.Test.YtokpniagnbaflaaZFnPlaces30
import Derived.Test.YtokpniagnbaflaaZFnPlaces31
import Derived.Test.YtokpniagnbaflaaZFnPlaces32
import Derived.Test.YtokpniagnbaflaaZFnPlaces35
import Derived.Test.YtokpniagnbaflaaZFnPlaces41
import Derived.Test.YtokpniagnbaflaaZFnPlaces43
namespace Go.Proofs.Ytokpniagnbaflaa.PFnPlaces
open Go.RowKit Go.Proofs.YtokpniagnbaflaaW.PrintWords Go.Proofs.YtokpniagnbaflaaW.PrintLast Go.Proofs.YtokpniagnbaflaaW.PrintMore
attribute [local go_sem] max2_int min2_int max_two min_two max_three min_three max_four min_four   -- for this text's walks alone
attribute [local go_sem high] fl_eql fl_neq fl_lss fl_leq fl_gtr fl_geq fl_add fl_sub fl_mul fl_quo fl_neg fl_ofInt fl_toInt fl_store sub_sign fl_nan_quo fl_nan_add fl_nan_mul fl_nan_sub
open Go.Proofs.YtokpniagnbaflaaW.PrintWords renaming below_alloc → h1, pw_below_drewN → h2, below_drew1 → h3, below_set → h4, blk_drewN → b1, blk_drew → b2, blk_alloc → b3
set_option linter.unusedVariables false
set_option linter.unusedSimpArgs false
def spec_DrawPagePlace.j0 : Nat → List Int → Int → Int → Int → List (List Int) → Option (Int × (List (List Int)) × Int)
 | 0, _, _, _, _, _ => none
 | k + 1, x615000, x615001, x615002, x622000, x622001 => (spec_l1Below.f x615000 x615001 x615002 95).bind fun bt631 => ((spec_l1Once.f x615000 bt631.2.1 bt631.2.2 3).bind fun bt634 => (if bt634.1 = true then ((spec_PageUsed.f k x622000 x622001).bind fun t637 => ((spec_l1Below.f x615000 bt634.2.1 bt634.2.2 3).bind fun bt638 => (some (x622000, x622001, wrap64 ((wrap64 (240 - t637)) - bt638.1))))) else (some (x622000, x622001, bt631.1))))
def spec_DrawPagePlace.f (k : Nat) (l0 : List Int) : Option (Int × (List (List Int)) × Int) := (spec_l1New.f k l0).bind fun bt611 => ((spec_l7page.f k bt611.1 bt611.2.1 bt611.2.2).bind fun bt615 => ((spec_l1Once.f bt611.1 bt615.2.2.1 bt615.2.2.2 6).bind fun bt622 => (if bt622.1 = true then ((spec_l7bent.f k bt611.1 bt622.2.1 bt622.2.2 bt615.1 bt615.2.1).bind fun bt625 => (spec_DrawPagePlace.j0 k bt611.1 bt625.2.2.1 bt625.2.2.2 bt625.1 bt625.2.1)) else (spec_DrawPagePlace.j0 k bt611.1 bt622.2.1 bt622.2.2 bt615.1 bt615.2.1))))
theorem spec_DrawPagePlace.mono_l : ∀ k, (∀ y0 y1 y2 y3 y4, LeO (spec_DrawPagePlace.j0 k y0 y1 y2 y3 y4) (spec_DrawPagePlace.j0 (k + 1) y0 y1 y2 y3 y4))
 | 0 => fun _ _ _ _ _ r h => by simp [spec_DrawPagePlace.j0] at h
 | k + 1 => by
  have ih0 := spec_DrawPagePlace.mono_l k
  ·intro y0 y1 y2 y3 y4
   unfold spec_DrawPagePlace.j0
   repeat' with_reducible first | exact ih0 _ _ _ _ _ | exact spec_PageUsed.mono _ _ _ | exact spec_l1New.mono _ _ | exact spec_l7bent.mono _ _ _ _ _ _ | exact spec_l7page.mono _ _ _ _ | exact LeO.refl _ | exact LeO.none _ | refine LeO.ite ?_ ?_ | refine LeO.bind ?_ (fun _ => ?_)
theorem spec_DrawPagePlace.mono : ∀ a0 k, LeO (spec_DrawPagePlace.f k a0) (spec_DrawPagePlace.f (k + 1) a0) := by
 intro a0 k
 have ih0 := spec_DrawPagePlace.mono_l k
 unfold spec_DrawPagePlace.f
 repeat' with_reducible first | exact ih0 _ _ _ _ _ | exact spec_PageUsed.mono _ _ _ | exact spec_l1New.mono _ _ | exact spec_l7bent.mono _ _ _ _ _ _ | exact spec_l7page.mono _ _ _ _ | exact LeO.refl _ | exact LeO.none _ | refine LeO.ite ?_ ?_ | refine LeO.bind ?_ (fun _ => ?_)
set_option maxHeartbeats 8000000 in
set_option maxRecDepth 100000 in
theorem spec_DrawPagePlace.calls (k : Nat) (A0 : Option Addr) (c0 : Nat) (l0 : List Int) (r1 : Int) (r2 : List (List Int)) (r3 : Int) (w : World) (hr0 : Kd.C (Kd.int .u8) w A0 l0.length l0) (hc0 : l0.length ≤ c0) (h : spec_DrawPagePlace.f k l0 = some (r1, r2, r3)) :
  Calls Try.prog 35 #[.slice A0 l0.length c0] w fun e w' => ∃ v1_ : Value, e = .returned (.tuple #[.agg #[.int .i64 r1, v1_], .int .i64 r3]) ∧ Kd.N (Kd.slice 5 (Kd.int .u8)) 36 w' w.heap.size (fun k_ => (w.heap.size ≤ k_)) v1_ r2 ∧ Below w.heap.size w w' := by
 have hu27 := Try.underlying27
 have HR0 := ZA hr0
 have HC0 := ZA hc0
 clear hr0 hc0
 have HB := ZA (Below.refl w.heap.size w)
 have H := h
 clear h
 unfold spec_DrawPagePlace.f at H
 replace H := Option.bind_eq_some_iff.mp H
 obtain ⟨⟨t611, t612, t613⟩, A20, H⟩ := H
 (try dsimp only at H)
 have A2 := ZA A20
 clear A20
 replace H := Option.bind_eq_some_iff.mp H
 obtain ⟨⟨t615, t616, t619, t620⟩, A30, H⟩ := H
 (try dsimp only at H)
 have A3 := ZA A30
 clear A30
 replace H := Option.bind_eq_some_iff.mp H
 obtain ⟨⟨t622, t623, t624⟩, A40, H⟩ := H
 (try dsimp only at H)
 have A4 := ZA A40
 clear A40
 have HC5 := ZA H
 clear H
 go_enter Try.func35, Try.ntmps35
 go_upto_if 12 with (first | ((with_reducible refine gate_dst (N := 2) rfl ?_); refine box_event ?hg (N := 2) ?hd (cs := #[.int .i64 0, .slice none 0 0]) (t := 27) ?hr ?_; (case hd => rfl); (case hg => rfl); (case hr => first | (go_simp; done) | (go_simp; rfl)); intro gb610 hg w6 hbox hb; have n0_ := ZA (below_step (hup HB.out) hb); have n1_ := ZA (hbox); have n2_ := Geq.mk ((Z28 : w.heap.size ≤ gb610)); have n3_ := Geq.mk ((Z28 : w.heap.size ≤ gb610)); clear HB; have HB := n0_; have BK610 := n1_; have GW610 := n2_; have GE610 := n3_; clear n0_ n1_ n2_ n3_ hb hbox hg) | ((with_reducible refine gate_callee (f := 57) rfl ?_); refine goesL_ (some 8) rfl rfl Try.func57 Z12 rfl #[.slice A0 l0.length c0] rfl Z1 ?_; (with_reducible refine (spec_l1New.calls k _ _ l0 t611 t612 t613 w _ ?side1 ?side2 ?side3 A2.out).mono ?_); (case side1 => with_reducible repeat (first | exact HB.out | refine h4 ?_ GE610.out | apply h1 | apply h2 | apply h3)); (case side2 => exact HR0.out); (case side3 => exact HC0.out); rintro e w7 ⟨g614, rfl, hi, hb, hb2⟩; refine ⟨_, rfl, ?_⟩; have n0_ := ZA (blk_below (bup BK610.out) hb2); have n1_ := ZA (hb); have n2_ := ZA (hi); have n3_ := ZA (IsS82.ne_blk hi (blk_below (bup BK610.out) hb2) Z25); have n4_ := ZA (Ne.symm (IsS82.ne_blk hi (blk_below (bup BK610.out) hb2) Z25)); clear BK610 HB; have BK610 := n0_; have HB := n1_; have HI614 := n2_; have NB614_610 := n3_; have NB610_614 := n4_; clear n0_ n1_ n2_ n3_ n4_; (try clear hb); (try clear hb2); (try clear hk); (try clear hi)) | ((with_reducible refine gate_callee (f := 58) rfl ?_); refine goesL_ (some 10) rfl rfl Try.func58 Z12 rfl #[.pointer (some ⟨g614, 0, none⟩)] rfl Z1 ?_; (with_reducible refine (spec_l7page.calls k g614 t611 t612 t613 t615 t616 t619 t620 w _ ?side1 ?side2 A3.out).mono ?_); (case side1 => repeat (first | (with_reducible first | exact HI614.out | apply IsS82.alloc | apply IsS82.drewN | apply IsS82.drew | apply IsS82.set_1 | apply IsS82.set_2 | refine IsS82.far ?_ NB614_610.out _) | exact HI614.out)); (case side2 => repeat (first | (with_reducible first | exact HB.out | apply h1 | apply h2 | apply h3 | refine h4 ?_ (IsS82.ge HI614.out) | refine h4 ?_ GE610.out) | exact HB.out)); rintro e w8 ⟨v617, rfl, ho0, hi, hb, hk⟩; refine ⟨_, rfl, ?_⟩; have n0_ := ZA (KeepBut.blk hk (g' := gb610) (o := .cells #[.int .i64 0, .slice none 0 0] 27 (0, 0)) (bup BK610.out) NB610_614.out Z44); have n1_ := ZA (Kd.N_lower (Kd.N_mono (ok' := fun k_ => (w.heap.size ≤ k_) ∧ k_ ≠ gb610 ∧ k_ ≠ g614) ho0 (fun k_ hk_ => ⟨(Nat.le_trans (below_size Z57) hk_), (Kd.freshB (g := gb610) (o := .cells #[.int .i64 0, .slice none 0 0] 27 (0, 0)) (bup BK610.out) k_ hk_), (IsS82.fresh (by repeat (first | (with_reducible first | exact HI614.out | apply IsS82.alloc | apply IsS82.drewN | apply IsS82.drew | apply IsS82.set_1 | apply IsS82.set_2 | refine IsS82.far ?_ NB614_610.out _) | exact HI614.out)) k_ hk_)⟩)) (below_size Z57)); have n2_ := ZA (hb); have n3_ := ZA (hi); clear BK610 HB HI614; have BK610 := n0_; have HO618 := n1_; have HB := n2_; have HI614 := n3_; clear n0_ n1_ n2_ n3_; (try clear hb); (try clear hb2); (try clear hk); (try clear hi); (try clear ho0)) | ((with_reducible refine gate_dst (N := 5) rfl ?_); refine box_event ?hg (N := 5) ?hd (cs := #[.int .i64 0, .slice none 0 0]) (t := 27) ?hr ?_; (case hd => rfl); (case hg => rfl); (case hr => first | (go_simp; done) | (go_simp; rfl)); intro gb621 hg w9 hbox hb; have n0_ := ZA (Kd.N_below (Kd.N_elderB (by (with_reducible repeat (first | apply Kd.N_alloc | apply Kd.N_drewN | apply Kd.N_drew)); exact HO618.out) gb621 (Nat.le_of_eq hg.symm)) hb); have n1_ := ZA (blk_below (bup BK610.out) hb); have n2_ := ZA (IsS82.below (by repeat (first | (with_reducible first | exact HI614.out | apply IsS82.alloc | apply IsS82.drewN | apply IsS82.drew | apply IsS82.set_1 | apply IsS82.set_2 | refine IsS82.far ?_ NB614_610.out _) | exact HI614.out)) hb); have n3_ := ZA (below_step Z57 hb); have n4_ := ZA (hbox); have n5_ := Geq.mk ((by rw [hg]; exact (below_size Z57) : w.heap.size ≤ gb621)); have n6_ := Geq.mk ((by rw [hg]; exact (below_size Z57) : w.heap.size ≤ gb621)); have n7_ := Neq.mk ((by rw [hg]; exact Nat.ne_of_lt (blk_lt (g := gb610) (o := .cells #[.int .i64 0, .slice none 0 0] 27 (0, 0)) (bup BK610.out)) : gb610 ≠ gb621)); have n8_ := Neq.mk ((by rw [hg]; exact Nat.ne_of_gt (blk_lt (g := gb610) (o := .cells #[.int .i64 0, .slice none 0 0] 27 (0, 0)) (bup BK610.out)) : gb621 ≠ gb610)); have n9_ := ZA ((by rw [hg]; exact Nat.ne_of_lt (IsS82.lt (show IsS82 w _ g614 t611 t619 t620 from by repeat (first | (with_reducible first | exact HI614.out | apply IsS82.alloc | apply IsS82.drewN | apply IsS82.drew | apply IsS82.set_1 | apply IsS82.set_2 | refine IsS82.far ?_ NB614_610.out _) | exact HI614.out))) : g614 ≠ gb621)); have n10_ := ZA ((by rw [hg]; exact Nat.ne_of_gt (IsS82.lt (show IsS82 w _ g614 t611 t619 t620 from by repeat (first | (with_reducible first | exact HI614.out | apply IsS82.alloc | apply IsS82.drewN | apply IsS82.drew | apply IsS82.set_1 | apply IsS82.set_2 | refine IsS82.far ?_ NB614_610.out _) | exact HI614.out))) : gb621 ≠ g614)); clear HO618 BK610 HI614 HB; have HO618 := n0_; have BK610 := n1_; have HI614 := n2_; have HB := n3_; have BK621 := n4_; have GW621 := n5_; have GE621 := n6_; have NB610_621 := n7_; have NB621_610 := n8_; have NB614_621 := n9_; have NB621_614 := n10_; clear n0_ n1_ n2_ n3_ n4_ n5_ n6_ n7_ n8_ n9_ n10_ hb hbox hg; have hnb10 := NB621_610.out; have hnc10 := NB610_621.out; have hnb11 := NB621_614.out; have hnc11 := NB614_621.out; obtain ⟨hcz12_0, hcz12_1⟩ := blk_cells2 BK621.out; obtain ⟨hfz12_0, hfz12_1⟩ := blk_frozens2 BK621.out; obtain ⟨Ao13, co13, eo13⟩ := Kd.N_slice HO618.out; subst eo13) | ((with_reducible refine gate_callee (f := 59) rfl ?_); refine goesL_ (some 12) rfl rfl Try.func59 Z12 rfl #[.pointer (some ⟨g614, 0, none⟩), .int .i64 6] rfl Z1 ?_; (with_reducible refine (spec_l1Once.calls g614 t611 t619 t620 6 t622 t623 t624 w _ ?side1 ?side2 A4.out).mono ?_); (case side1 => repeat (first | (with_reducible first | exact HI614.out | apply IsS82.alloc | apply IsS82.drewN | apply IsS82.drew | apply IsS82.set_1 | apply IsS82.set_2 | refine IsS82.far ?_ NB614_610.out _ | refine IsS82.far ?_ NB614_621.out _) | exact HI614.out)); (case side2 => repeat (first | (with_reducible first | exact HB.out | apply h1 | apply h2 | apply h3 | refine h4 ?_ (IsS82.ge HI614.out) | refine h4 ?_ GE610.out | refine h4 ?_ GE621.out) | exact HB.out)); rintro e w14 ⟨rfl, hi, hb, hk⟩; refine ⟨_, rfl, ?_⟩; have n0_ := ZA (KeepBut.blk hk (g' := gb610) (o := .cells #[.int .i64 0, .slice none 0 0] 27 (0, 0)) (bput BK610.out) NB610_614.out Z44); have n1_ := ZA (Kd.N_mono (Kd.N_keep (Kd.N_mono (ok := fun k_ => ((((w.heap.size ≤ k_)) ∧ (k_ ≠ gb610 ∧ k_ ≠ g614)) ∧ k_ ≠ gb621)) (by (with_reducible repeat (first | apply Kd.N_alloc | apply Kd.N_drewN | apply Kd.N_drew)); exact (Kd.N_mono (Kd.N_far (p := ⟨gb621, 1, none⟩) (Kd.N_far (p := ⟨gb621, 0, none⟩) (Kd.N_mono HO618.out (fun k_ hk => (⟨hk, hk.2⟩ : _ ∧ k_ ≠ gb621))) (fun _ hk => hk.2) (.int .i64 t615)) (fun _ hk => hk.2) (.slice Ao13 t616.length co13)) (fun _ h_ => h_.1))) (fun k_ hk_ => (⟨hk_, hk_.1.2.2⟩ : _ ∧ k_ ≠ g614))) hk (fun _ h => h.2)) (fun _ h => h.1)); have n2_ := ZA (KeepBut.blk hk (g' := gb621) (o := .cells #[.int .i64 t615, .slice Ao13 t616.length co13] 27 (0, 0)) (bput BK621.out) NB621_614.out Z44); have n3_ := ZA (hb); have n4_ := ZA (hi); clear BK610 HO618 BK621 HB HI614; have BK610 := n0_; have HO618 := n1_; have BK621 := n2_; have HB := n3_; have HI614 := n4_; clear n0_ n1_ n2_ n3_ n4_; (try clear hb); (try clear hb2); (try clear hk); (try clear hi)))
 (try simp only [Act.put, List.setIfInBounds_toArray, List.set_cons_zero, List.set_cons_succ])
 go_cut [] (fun wc => ∃ (kq : Nat) (x615001_4 : Int) (x615002_4 : Int) (x622000_4 : Int) (x622001_4 : List (List Int)) (u622001 : Value), Aside0 (spec_DrawPagePlace.j0 kq t611 x615001_4 x615002_4 x622000_4 x622001_4 = some (r1, r2, r3)) ∧ Aside0 (kq ≤ k) ∧ Aside0 (Kd.N (Kd.slice 5 (Kd.int .u8)) 36 wc w.heap.size (fun k_ => (w.heap.size ≤ k_) ∧ k_ ≠ gb610 ∧ k_ ≠ gb621 ∧ k_ ≠ g614) u622001 x622001_4) ∧ Aside0 (wc.heap[gb610]? = some (.cells #[.int .i64 0, (.slice none 0 0)] 27 (0, 0))) ∧ Aside0 (wc.heap[gb621]? = some (.cells #[.int .i64 x622000_4, u622001] 27 (0, 0))) ∧ Aside0 (IsS82 w wc g614 t611 x615001_4 x615002_4) ∧ Aside0 (Below w.heap.size w wc))
 case first =>
  have H := HC5.out
  clear HC5
  by_cases c15 : t622 = true
  ·subst c15
   rw [if_pos rfl] at H
   (try dsimp only at H)
   replace H := Option.bind_eq_some_iff.mp H
   obtain ⟨⟨t625, t626, t629, t630⟩, A160, H⟩ := H
   (try dsimp only at H)
   have A16 := ZA A160
   clear A160
   have H' := ZA H
   clear H
   have hnb17 := NB621_610.out
   have hnc17 := NB610_621.out
   have hnb18 := NB621_614.out
   have hnc18 := NB614_621.out
   obtain ⟨hcz19_0, hcz19_1⟩ := blk_cells2 BK621.out
   obtain ⟨hfz19_0, hfz19_1⟩ := blk_frozens2 BK621.out
   go_wp2_with (first | ((with_reducible refine gate_callee (f := 60) rfl ?_); refine goesL_ (some 15) rfl rfl Try.func60 Z12 rfl #[.pointer (some ⟨g614, 0, none⟩), .agg #[.int .i64 t615, .slice Ao13 t616.length co13]] rfl Z1 ?_; (with_reducible refine (spec_l7bent.calls k g614 t611 t623 t624 t615 _ _ t616 t625 t626 t629 t630 w w _ gb610 gb621 _ _ _ _ (Nat.le_refl _) ?side1 ?side2 (KeepBut.of_below ?side2b g614 none) ?side3 (bup BK610.out) (bup BK621.out) GW610.out GW621.out NB610_621.out NB610_614.out NB621_614.out A16.out).mono ?_); (case side1 => repeat (first | (with_reducible first | exact HI614.out | apply IsS82.alloc | apply IsS82.drewN | apply IsS82.drew | apply IsS82.set_1 | apply IsS82.set_2 | refine IsS82.far ?_ NB614_610.out _ | refine IsS82.far ?_ NB614_621.out _) | exact HI614.out)); (case side2 => repeat (first | (with_reducible first | exact HB.out | apply h1 | apply h2 | apply h3 | refine h4 ?_ (IsS82.ge HI614.out) | refine h4 ?_ GE610.out | refine h4 ?_ GE621.out) | exact HB.out)); (case side2b => repeat (first | (with_reducible first | exact HB.out | apply h1 | apply h2 | apply h3 | refine h4 ?_ (IsS82.ge HI614.out) | refine h4 ?_ GE610.out | refine h4 ?_ GE621.out) | exact HB.out)); (case side3 => (with_reducible repeat (first | apply Kd.N_alloc | apply Kd.N_drewN | apply Kd.N_drew)); exact Kd.N_mono HO618.out (fun _ hk => by (try dsimp only at hk); omega)); rintro e w20 ⟨v627, rfl, ho0, hi, hb, hk, hx_, hy_⟩; refine ⟨_, rfl, ?_⟩; have n0_ := ZA hx_; have n1_ := ZA trivial; have n2_ := ZA hy_; have n3_ := ZA (Kd.N_mono (ok' := fun k_ => (w.heap.size ≤ k_) ∧ True ∧ k_ ≠ gb610 ∧ k_ ≠ gb621 ∧ k_ ≠ g614) ho0 (fun _ hk => by (try dsimp only at hk); refine ⟨by omega, trivial, by omega⟩)); have n4_ := ZA (hb); have n5_ := ZA (hi); clear BK610 HO618 BK621 HB HI614; have BK610 := n0_; have HO618 := n1_; have BK621 := n2_; have HO628 := n3_; have HB := n4_; have HI614 := n5_; clear n0_ n1_ n2_ n3_ n4_ n5_; (try clear hb); (try clear hb2); (try clear hk); (try clear hi); (try clear ho0); obtain ⟨hcz21_0, hcz21_1⟩ := blk_cells2 BK621.out; obtain ⟨hfz21_0, hfz21_1⟩ := blk_frozens2 BK621.out; obtain ⟨Ao22, co22, eo22⟩ := Kd.N_slice HO628.out; subst eo22))
   go_meet
   case rel => exact ⟨_, (t629), (t630), (t625), (t626), (.slice Ao22 t626.length co22), H', ⟨by first | omega | exact Nat.le_refl _⟩, ⟨by (with_reducible repeat (first | apply Kd.N_alloc | apply Kd.N_drewN | apply Kd.N_drew)); exact Kd.N_mono (Kd.N_far (p := ⟨gb621, 1, none⟩) (Kd.N_far (p := ⟨gb621, 0, none⟩) (Kd.N_mono HO628.out (fun k_ hk => (⟨hk, hk.2.2.2.1⟩ : _ ∧ k_ ≠ gb621))) (fun _ hk => hk.2) (.int .i64 t625)) (fun _ hk => hk.2) (.slice Ao22 t626.length co22)) (fun _ hk => ⟨hk.1.1, ⟨hk.1.2.2.1, ⟨hk.1.2.2.2.1, hk.1.2.2.2.2⟩⟩⟩)⟩, ⟨bput BK610.out⟩, ⟨bput BK621.out⟩, ⟨by repeat (first | (with_reducible first | exact HI614.out | apply IsS82.alloc | apply IsS82.drewN | apply IsS82.drew | apply IsS82.set_1 | apply IsS82.set_2 | refine IsS82.far ?_ NB614_610.out _ | refine IsS82.far ?_ NB614_621.out _) | exact HI614.out)⟩, ⟨Z59⟩⟩
  ·replace c15 := Bool.eq_false_iff.mpr c15
   subst c15
   rw [if_neg (show ¬ (false = true) by decide)] at H
   (try dsimp only at H)
   have H' := ZA H
   clear H
   go_wp2
   go_meet
   case rel => exact ⟨_, (t623), (t624), (t615), (t616), (.slice Ao13 t616.length co13), H', ⟨by first | omega | exact Nat.le_refl _⟩, ⟨by (with_reducible repeat (first | apply Kd.N_alloc | apply Kd.N_drewN | apply Kd.N_drew)); exact Kd.N_mono HO618.out (fun _ hk => ⟨hk.1.1, ⟨hk.1.2.1, ⟨hk.2, hk.1.2.2⟩⟩⟩)⟩, ⟨by exact bup BK610.out⟩, ⟨by exact bup BK621.out⟩, ⟨by repeat (first | (with_reducible first | exact HI614.out | apply IsS82.alloc | apply IsS82.drewN | apply IsS82.drew | apply IsS82.set_1 | apply IsS82.set_2 | refine IsS82.far ?_ NB614_610.out _ | refine IsS82.far ?_ NB614_621.out _) | exact HI614.out)⟩, ⟨Z59⟩⟩
 case rest =>
  clear HC5
  try clear c1
  try clear p2
  try clear c3
  try clear c5
  try clear c6
  try clear c10
  try clear c11
  try clear c15
  try clear c17
  try clear c18
  try clear hcz12_0
  try clear hcz12_1
  try clear hcz19_0
  try clear hcz19_1
  try clear hcz21_0
  try clear hcz21_1
  try clear hfz12_0
  try clear hfz12_1
  try clear hfz19_0
  try clear hfz19_1
  try clear hfz21_0
  try clear hfz21_1
  obtain ⟨kq, x615001_4, x615002_4, x622000_4, x622001_4, u622001, HA, HJ4, HO_622001, BK610, BK621, HI614, HB⟩ := hcut
  cases kq with
  | zero => exact absurd HA.out (by simp [spec_DrawPagePlace.j0])
  | succ kj4 =>
   have H := HA.out
   clear HA
   simp only [spec_DrawPagePlace.j0] at H
   replace H := Option.bind_eq_some_iff.mp H
   obtain ⟨⟨t631, t632, t633⟩, A230, H⟩ := H
   (try dsimp only at H)
   have A23 := ZA A230
   clear A230
   replace H := Option.bind_eq_some_iff.mp H
   obtain ⟨⟨t634, t635, t636⟩, A240, H⟩ := H
   (try dsimp only at H)
   have A24 := ZA A240
   clear A240
   repeat (first | ((with_reducible refine gate_callee (f := 63) rfl ?_); refine goesL_ (some 17) rfl rfl Try.func63 Z12 rfl #[.pointer (some ⟨g614, 0, none⟩), .int .i64 95] rfl Z1 ?_; (with_reducible refine (spec_l1Below.calls g614 t611 x615001_4 x615002_4 95 t631 t632 t633 w _ ?side1 ?side2 A23.out).mono ?_); (case side1 => repeat (first | (with_reducible first | exact HI614.out | apply IsS82.alloc | apply IsS82.drewN | apply IsS82.drew | apply IsS82.set_1 | apply IsS82.set_2 | refine IsS82.far ?_ NB614_610.out _ | refine IsS82.far ?_ NB614_621.out _) | exact HI614.out)); (case side2 => repeat (first | (with_reducible first | exact HB.out | apply h1 | apply h2 | apply h3 | refine h4 ?_ (IsS82.ge HI614.out) | refine h4 ?_ GE610.out | refine h4 ?_ GE621.out) | exact HB.out)); rintro e w28 ⟨rfl, hi, hb, hk⟩; refine ⟨_, rfl, ?_⟩; have n0_ := ZA (Kd.N_mono (Kd.N_keep (Kd.N_mono (ok := fun k_ => (((w.heap.size ≤ k_)) ∧ (k_ ≠ gb610 ∧ (k_ ≠ gb621 ∧ k_ ≠ g614)))) Z87 (fun k_ hk_ => (⟨hk_, hk_.2.2.2⟩ : _ ∧ k_ ≠ g614))) hk (fun _ h => h.2)) (fun _ h => h.1)); have n1_ := ZA (KeepBut.blk hk (g' := gb610) (o := .cells #[.int .i64 0, .slice none 0 0] 27 (0, 0)) (bup BK610.out) NB610_614.out Z44); have n2_ := ZA (KeepBut.blk hk (g' := gb621) (o := .cells #[.int .i64 x622000_4, u622001] 27 (0, 0)) (bup BK621.out) NB621_614.out Z44); have n3_ := ZA (hb); have n4_ := ZA (hi); clear HO_622001 BK610 BK621 HB HI614; have HO_622001 := n0_; have BK610 := n1_; have BK621 := n2_; have HB := n3_; have HI614 := n4_; clear n0_ n1_ n2_ n3_ n4_; (try clear hb); (try clear hb2); (try clear hk); (try clear hi)) | ((fail_if_success (with_reducible refine gate_callee (f := 59) rfl ?_)); first | go_values | go_skip | go_guarded | go_step | go_upon | go_back | (simp only [Int.not_lt, Int.not_le] at *; go_simp)))
   (with_reducible refine gate_callee (f := 59) rfl ?_); refine goesL_ (some 19) rfl rfl Try.func59 Z12 rfl #[.pointer (some ⟨g614, 0, none⟩), .int .i64 3] rfl Z1 ?_; (with_reducible refine (spec_l1Once.calls g614 t611 t632 t633 3 t634 t635 t636 w _ ?side1 ?side2 A24.out).mono ?_); (case side1 => repeat (first | (with_reducible first | exact HI614.out | apply IsS82.alloc | apply IsS82.drewN | apply IsS82.drew | apply IsS82.set_1 | apply IsS82.set_2 | refine IsS82.far ?_ NB614_610.out _ | refine IsS82.far ?_ NB614_621.out _) | exact HI614.out)); (case side2 => repeat (first | (with_reducible first | exact HB.out | apply h1 | apply h2 | apply h3 | refine h4 ?_ (IsS82.ge HI614.out) | refine h4 ?_ GE610.out | refine h4 ?_ GE621.out) | exact HB.out)); rintro e w29 ⟨rfl, hi, hb, hk⟩; refine ⟨_, rfl, ?_⟩; have n0_ := ZA (Kd.N_mono (Kd.N_keep (Kd.N_mono (ok := fun k_ => (((w.heap.size ≤ k_)) ∧ (k_ ≠ gb610 ∧ (k_ ≠ gb621 ∧ k_ ≠ g614)))) Z87 (fun k_ hk_ => (⟨hk_, hk_.2.2.2⟩ : _ ∧ k_ ≠ g614))) hk (fun _ h => h.2)) (fun _ h => h.1)); have n1_ := ZA (KeepBut.blk hk (g' := gb610) (o := .cells #[.int .i64 0, .slice none 0 0] 27 (0, 0)) (bup BK610.out) NB610_614.out Z44); have n2_ := ZA (KeepBut.blk hk (g' := gb621) (o := .cells #[.int .i64 x622000_4, u622001] 27 (0, 0)) (bup BK621.out) NB621_614.out Z44); have n3_ := ZA (hb); have n4_ := ZA (hi); clear HO_622001 BK610 BK621 HB HI614; have HO_622001 := n0_; have BK610 := n1_; have BK621 := n2_; have HB := n3_; have HI614 := n4_; clear n0_ n1_ n2_ n3_ n4_; (try clear hb); (try clear hb2); (try clear hk); (try clear hi); have hnb30 := NB621_610.out; have hnc30 := NB610_621.out; have hnb31 := NB621_614.out; have hnc31 := NB614_621.out; obtain ⟨hcz32_0, hcz32_1⟩ := blk_cells2 BK621.out; obtain ⟨hfz32_0, hfz32_1⟩ := blk_frozens2 BK621.out
   by_cases c25 : t634 = true
   ·subst c25
    rw [if_pos rfl] at H
    (try dsimp only at H)
    replace H := Option.bind_eq_some_iff.mp H
    obtain ⟨t637, A260, H⟩ := H
    (try dsimp only at H)
    have A26 := ZA A260
    clear A260
    replace H := Option.bind_eq_some_iff.mp H
    obtain ⟨⟨t638, t639, t640⟩, A270, H⟩ := H
    (try dsimp only at H)
    have A27 := ZA A270
    clear A270
    simp only [Option.some.injEq, Prod.mk.injEq] at H
    obtain ⟨rfl, rfl, rfl⟩ := H
    obtain ⟨Ao33, co33, eo33⟩ := Kd.N_slice HO_622001.out; subst eo33
    try go_wp2_with (first | ((with_reducible refine gate_callee (f := 12) rfl ?_); refine goesL_ (some 21) rfl rfl Try.func12 Z12 rfl #[.agg #[.int .i64 x622000_4, .slice Ao33 x622001_4.length co33]] rfl Z1 ?_; (with_reducible refine (spec_PageUsed.calls kj4 x622000_4 _ _ x622001_4 t637 _ ?side1 ?side2 A26.out).mono ?_); (case side1 => repeat (first | exact (Kd.N_reads' HO_622001.out).2.2 | (with_reducible refine Kd.C_alloc ?_ _) | (with_reducible refine Kd.C_drewN ?_ _) | (with_reducible refine Kd.C_drew ?_))); (case side2 => exact (Kd.N_reads' HO_622001.out).2.1); rintro e w34 ⟨rfl, hb⟩; refine ⟨_, rfl, ?_⟩; have n0_ := ZA (Kd.N_below Z87 hb); have n1_ := ZA (blk_below (bup BK610.out) hb); have n2_ := ZA (blk_below (bup BK621.out) hb); have n3_ := ZA (IsS82.below (by repeat (first | (with_reducible first | exact HI614.out | apply IsS82.alloc | apply IsS82.drewN | apply IsS82.drew | apply IsS82.set_1 | apply IsS82.set_2 | refine IsS82.far ?_ NB614_610.out _ | refine IsS82.far ?_ NB614_621.out _) | exact HI614.out)) hb); have n4_ := ZA (below_step (Z59) hb); clear HO_622001 BK610 BK621 HI614 HB; have HO_622001 := n0_; have BK610 := n1_; have BK621 := n2_; have HI614 := n3_; have HB := n4_; clear n0_ n1_ n2_ n3_ n4_; (try clear hb); (try clear hb2); (try clear hk); (try clear hi)) | ((with_reducible refine gate_callee (f := 63) rfl ?_); refine goesL_ (some 24) rfl rfl Try.func63 Z12 rfl #[.pointer (some ⟨g614, 0, none⟩), .int .i64 3] rfl Z1 ?_; (with_reducible refine (spec_l1Below.calls g614 t611 t635 t636 3 t638 t639 t640 w _ ?side1 ?side2 A27.out).mono ?_); (case side1 => repeat (first | (with_reducible first | exact HI614.out | apply IsS82.alloc | apply IsS82.drewN | apply IsS82.drew | apply IsS82.set_1 | apply IsS82.set_2 | refine IsS82.far ?_ NB614_610.out _ | refine IsS82.far ?_ NB614_621.out _) | exact HI614.out)); (case side2 => repeat (first | (with_reducible first | exact HB.out | apply h1 | apply h2 | apply h3 | refine h4 ?_ (IsS82.ge HI614.out) | refine h4 ?_ GE610.out | refine h4 ?_ GE621.out) | exact HB.out)); rintro e w35 ⟨rfl, hi, hb, hk⟩; refine ⟨_, rfl, ?_⟩; have n0_ := ZA (Kd.N_mono (Kd.N_keep (Kd.N_mono (ok := fun k_ => (((w.heap.size ≤ k_)) ∧ (k_ ≠ gb610 ∧ (k_ ≠ gb621 ∧ k_ ≠ g614)))) Z87 (fun k_ hk_ => (⟨hk_, hk_.2.2.2⟩ : _ ∧ k_ ≠ g614))) hk (fun _ h => h.2)) (fun _ h => h.1)); have n1_ := ZA (KeepBut.blk hk (g' := gb610) (o := .cells #[.int .i64 0, .slice none 0 0] 27 (0, 0)) (bup BK610.out) NB610_614.out Z44); have n2_ := ZA (KeepBut.blk hk (g' := gb621) (o := .cells #[.int .i64 x622000_4, .slice Ao33 x622001_4.length co33] 27 (0, 0)) (bup BK621.out) NB621_614.out Z44); have n3_ := ZA (hb); have n4_ := ZA (hi); clear HO_622001 BK610 BK621 HB HI614; have HO_622001 := n0_; have BK610 := n1_; have BK621 := n2_; have HB := n3_; have HI614 := n4_; clear n0_ n1_ n2_ n3_ n4_; (try clear hb); (try clear hb2); (try clear hk); (try clear hi); obtain ⟨hcz36_0, hcz36_1⟩ := blk_cells2 BK621.out; obtain ⟨hfz36_0, hfz36_1⟩ := blk_frozens2 BK621.out; have hnb37 := NB610_614.out; have hnc37 := NB614_610.out; obtain ⟨hcz38_0, hcz38_1⟩ := blk_cells2 BK610.out; obtain ⟨hfz38_0, hfz38_1⟩ := blk_frozens2 BK610.out))
    refine bodyPost_ret (results_ct rfl _ _ gb610 27 #[.int .i64 x622000_4, .slice Ao33 x622001_4.length co33] (0, 0) _ rfl (bput BK610.out) Try.underlying27 rfl Z12) rfl ?_
    exact ⟨_, by first | rfl | (simp [errW_none, errW_some] <;> rfl) | (simp [*, errW_none, errW_some] <;> rfl), by (with_reducible repeat (first | apply Kd.N_alloc | apply Kd.N_drewN | apply Kd.N_drew)); exact Kd.N_mono (Kd.N_far (p := ⟨gb610, 1, none⟩) (Kd.N_far (p := ⟨gb610, 0, none⟩) (Kd.N_mono HO_622001.out (fun k_ hk => (⟨hk, hk.2.1⟩ : _ ∧ k_ ≠ gb610))) (fun _ hk => hk.2) (.int .i64 x622000_4)) (fun _ hk => hk.2) (.slice Ao33 x622001_4.length co33)) (fun _ hk => hk.1.1), Z59⟩
   ·replace c25 := Bool.eq_false_iff.mpr c25
    subst c25
    rw [if_neg (show ¬ (false = true) by decide)] at H
    (try dsimp only at H)
    simp only [Option.some.injEq, Prod.mk.injEq] at H
    obtain ⟨rfl, rfl, rfl⟩ := H
    have hnb44 := NB610_614.out; have hnc44 := NB614_610.out; obtain ⟨hcz45_0, hcz45_1⟩ := blk_cells2 BK610.out; obtain ⟨hfz45_0, hfz45_1⟩ := blk_frozens2 BK610.out; obtain ⟨Ao46, co46, eo46⟩ := Kd.N_slice HO_622001.out; subst eo46
    try go_wp2
    refine bodyPost_ret (results_ct rfl _ _ gb610 27 #[.int .i64 x622000_4, .slice Ao46 x622001_4.length co46] (0, 0) _ rfl (bput BK610.out) Try.underlying27 rfl Z12) rfl ?_
    exact ⟨_, by first | rfl | (simp [errW_none, errW_some] <;> rfl) | (simp [*, errW_none, errW_some] <;> rfl), by (with_reducible repeat (first | apply Kd.N_alloc | apply Kd.N_drewN | apply Kd.N_drew)); exact Kd.N_mono (Kd.N_far (p := ⟨gb610, 1, none⟩) (Kd.N_far (p := ⟨gb610, 0, none⟩) (Kd.N_mono HO_622001.out (fun k_ hk => (⟨hk, hk.2.1⟩ : _ ∧ k_ ≠ gb610))) (fun _ hk => hk.2) (.int .i64 x622000_4)) (fun _ hk => hk.2) (.slice Ao46 x622001_4.length co46)) (fun _ hk => hk.1.1), Z59⟩
mutual
def laws_FnPlaces.j0 : Nat → Int → Int → Bool → Int → List (List Int) → Option (Bool)
 | 0, _, _, _, _, _ => none
 | k + 1, x4, x5, x32, x648000, x648001 => if x32 = true then (some (x5 == (-1))) else (if 0 ≤ x4 then (if (x4 : Int).toNat ≤ 281474976710656 then ((some (List.replicate (x4 : Int).toNat 0 : List Int)).bind fun y650 => (if x5 ≥ 0 then ((impl_PagePut.f k x648000 x648001 x5 y650 5).bind fun bt653 => (if bt653.2.2 = true then (if x5 = (x648001.length : Int) then (some true) else (if x5 < (x648001.length : Int) then (if 0 ≤ x5 then (some (((rd_L1 x648001 x5).length : Int) == 0)) else (none)) else (some false))) else (some false))) else (laws_FnPlaces.l0 k y650 0 x648000 x648001))) else (none)) else (none))
def laws_FnPlaces.l0 : Nat → List Int → Int → Int → List (List Int) → Option (Bool)
 | 0, _, _, _, _ => none
 | k + 1, x6, x9, x648000, x648001 => if x9 ≤ (x648001.length : Int) then ((impl_PagePut.f k x648000 x648001 x9 x6 5).bind fun bt660 => (if x9 = (x648001.length : Int) then (if bt660.2.2 = true then (some false) else (laws_FnPlaces.l0 k x6 (wrap64 (x9 + 1)) x648000 x648001)) else (if 0 ≤ x9 then (if x9 < (x648001.length : Int) then (if ((rd_L1 x648001 x9).length : Int) = 0 then (if bt660.2.2 = true then (some false) else (laws_FnPlaces.l0 k x6 (wrap64 (x9 + 1)) x648000 x648001)) else (laws_FnPlaces.l0 k x6 (wrap64 (x9 + 1)) x648000 x648001)) else (none)) else (none)))) else (some true)
end
def laws_FnPlaces.f (k : Nat) (l0 : List Int) : Option (Bool) := (laws_big.f l0).bind fun t641 => (if t641 = true then (some true) else ((spec_DrawPagePlace.f k l0).bind fun bt642 => ((impl_PagePlace.f k bt642.1 bt642.2.1 bt642.2.2).bind fun t648 => ((spec_PageUsed.f k bt642.1 bt642.2.1).bind fun t649 => (if t649 < 0 then (laws_FnPlaces.j0 k bt642.2.2 t648 true bt642.1 bt642.2.1) else (if bt642.2.2 < 1 then (laws_FnPlaces.j0 k bt642.2.2 t648 true bt642.1 bt642.2.1) else (laws_FnPlaces.j0 k bt642.2.2 t648 (decide (bt642.2.2 > 92)) bt642.1 bt642.2.1)))))))
theorem laws_FnPlaces.mono_l : ∀ k, (∀ y0 y1 y2 y3 y4, LeO (laws_FnPlaces.j0 k y0 y1 y2 y3 y4) (laws_FnPlaces.j0 (k + 1) y0 y1 y2 y3 y4)) ∧ (∀ y0 y1 y2 y3, LeO (laws_FnPlaces.l0 k y0 y1 y2 y3) (laws_FnPlaces.l0 (k + 1) y0 y1 y2 y3))
 | 0 => ⟨fun _ _ _ _ _ r h => by simp [laws_FnPlaces.j0] at h, fun _ _ _ _ r h => by simp [laws_FnPlaces.l0] at h⟩
 | k + 1 => by
  obtain ⟨ih0, ih1⟩ := laws_FnPlaces.mono_l k
  refine ⟨?_, ?_⟩
  ·intro y0 y1 y2 y3 y4
   unfold laws_FnPlaces.j0
   repeat' with_reducible first | exact ih0 _ _ _ _ _ | exact ih1 _ _ _ _ | exact impl_PagePlace.mono _ _ _ _ | exact impl_PagePut.mono _ _ _ _ _ _ | exact spec_DrawPagePlace.mono _ _ | exact spec_PageUsed.mono _ _ _ | exact LeO.refl _ | exact LeO.none _ | refine LeO.ite ?_ ?_ | refine LeO.bind ?_ (fun _ => ?_)
  ·intro y0 y1 y2 y3
   unfold laws_FnPlaces.l0
   repeat' with_reducible first | exact ih0 _ _ _ _ _ | exact ih1 _ _ _ _ | exact impl_PagePlace.mono _ _ _ _ | exact impl_PagePut.mono _ _ _ _ _ _ | exact spec_DrawPagePlace.mono _ _ | exact spec_PageUsed.mono _ _ _ | exact LeO.refl _ | exact LeO.none _ | refine LeO.ite ?_ ?_ | refine LeO.bind ?_ (fun _ => ?_)
theorem laws_FnPlaces.mono : ∀ a0 k, LeO (laws_FnPlaces.f k a0) (laws_FnPlaces.f (k + 1) a0) := by
 intro a0 k
 obtain ⟨ih0, ih1⟩ := laws_FnPlaces.mono_l k
 unfold laws_FnPlaces.f
 repeat' with_reducible first | exact ih0 _ _ _ _ _ | exact ih1 _ _ _ _ | exact impl_PagePlace.mono _ _ _ _ | exact impl_PagePut.mono _ _ _ _ _ _ | exact spec_DrawPagePlace.mono _ _ | exact spec_PageUsed.mono _ _ _ | exact LeO.refl _ | exact LeO.none _ | refine LeO.ite ?_ ?_ | refine LeO.bind ?_ (fun _ => ?_)
set_option maxHeartbeats 8000000 in
set_option maxRecDepth 100000 in
theorem laws_FnPlaces.calls (k : Nat) (A0 : Option Addr) (c0 : Nat) (l0 : List Int) (r : Bool) (w : World) (hr0 : Kd.C (Kd.int .u8) w A0 l0.length l0) (hc0 : l0.length ≤ c0) (h : laws_FnPlaces.f k l0 = some r) (hT : r = true := by rfl) :
  Calls Try.prog 10 #[.slice A0 l0.length c0] w fun e w' => e = .returned (.bool r) ∧ Below w.heap.size w w' := by
 have hu27 := Try.underlying27
 have HR0 := ZA hr0
 have HC0 := ZA hc0
 clear hr0 hc0
 have HB := ZA (Below.refl w.heap.size w)
 have H := h
 clear h
 unfold laws_FnPlaces.f at H
 replace H := Option.bind_eq_some_iff.mp H
 obtain ⟨t641, A20, H⟩ := H
 (try dsimp only at H)
 have A2 := ZA A20
 clear A20
 by_cases c3 : t641 = true
 ·subst c3
  rw [if_pos rfl] at H
  (try dsimp only at H)
  obtain rfl := Option.some.inj H
  go_enter Try.func10, Try.ntmps10
  go_wp2_with (first | ((with_reducible refine gate_callee (f := 32) rfl ?_); refine goesL_ (some 13) rfl rfl Try.func32 Z12 rfl #[.slice A0 l0.length c0] rfl Z1 ?_; (with_reducible refine (laws_big.calls _ _ l0 true _ ?side1 ?side2 A2.out).mono ?_); (case side1 => repeat (first | exact HR0.out | (with_reducible refine Kd.C_alloc ?_ _) | (with_reducible refine Kd.C_drewN ?_ _) | (with_reducible refine Kd.C_drew ?_))); (case side2 => exact HC0.out); rintro e w' ⟨rfl, ⟨nd, rfl⟩⟩; refine ⟨_, rfl, ?_⟩))
  go_ret
  exact ⟨by first | rfl | (simp [errW_none, errW_some] <;> rfl) | (simp [*, errW_none, errW_some] <;> rfl), Z45⟩
 ·replace c3 := Bool.eq_false_iff.mpr c3
  subst c3
  rw [if_neg (show ¬ (false = true) by decide)] at H
  (try dsimp only at H)
  replace H := Option.bind_eq_some_iff.mp H
  obtain ⟨⟨t642, t643, t646⟩, A40, H⟩ := H
  (try dsimp only at H)
  have A4 := ZA A40
  clear A40
  replace H := Option.bind_eq_some_iff.mp H
  obtain ⟨t648, A50, H⟩ := H
  (try dsimp only at H)
  have A5 := ZA A50
  clear A50
  have HC6 := ZA H
  clear H
  go_enter Try.func10, Try.ntmps10
  go_upto_region 5 with (first | ((with_reducible refine gate_callee (f := 32) rfl ?_); refine goesL_ (some 13) rfl rfl Try.func32 Z12 rfl #[.slice A0 l0.length c0] rfl Z1 ?_; (with_reducible refine (laws_big.calls _ _ l0 false _ ?side1 ?side2 A2.out).mono ?_); (case side1 => repeat (first | exact HR0.out | (with_reducible refine Kd.C_alloc ?_ _) | (with_reducible refine Kd.C_drewN ?_ _) | (with_reducible refine Kd.C_drew ?_))); (case side2 => exact HC0.out); rintro e w' ⟨rfl, ⟨nd, rfl⟩⟩; refine ⟨_, rfl, ?_⟩) | ((with_reducible refine gate_callee (f := 35) rfl ?_); refine goesL_ (some 16) rfl rfl Try.func35 Z12 rfl #[.slice A0 l0.length c0] rfl Z1 ?_; (with_reducible refine (spec_DrawPagePlace.calls k _ _ l0 t642 t643 t646 _ ?side1 ?side2 A4.out).mono ?_); (case side1 => repeat (first | exact HR0.out | (with_reducible refine Kd.C_alloc ?_ _) | (with_reducible refine Kd.C_drewN ?_ _) | (with_reducible refine Kd.C_drew ?_))); (case side2 => exact HC0.out); rintro e w7 ⟨v644, rfl, ho0, hb⟩; refine ⟨_, rfl, ?_⟩; have n0_ := ZA (Kd.N_lower (Kd.N_mono (ok' := fun k_ => True) ho0 (fun k_ hk_ => trivial)) (below_size (hup HB.out))); have n1_ := ZA (below_step (hup HB.out) hb); clear HB; have HO645 := n0_; have HB := n1_; clear n0_ n1_; (try clear hb); (try clear hb2); (try clear hk); (try clear hi); (try clear ho0)) | ((with_reducible refine gate_dst (N := 3) rfl ?_); (try (refine gate_guard Z94 ?_; dsimp only)); refine box_event ?hg (N := 3) ?hd (cs := #[.int .i64 0, .slice none 0 0]) (t := 27) ?hr ?_; (case hd => rfl); (case hg => rfl); (case hr => first | (go_simp; done) | (go_simp; rfl)); intro gb647 hg w8 hbox hb; have n0_ := ZA (Kd.N_below (Kd.N_elderB Z90 gb647 (Nat.le_of_eq hg.symm)) hb); have n1_ := ZA (below_step (hup HB.out) hb); have n2_ := ZA (hbox); have n3_ := Geq.mk ((Z28 : w.heap.size ≤ gb647)); have n4_ := Geq.mk ((Z28 : w.heap.size ≤ gb647)); clear HO645 HB; have HO645 := n0_; have HB := n1_; have BK647 := n2_; have GW647 := n3_; have GE647 := n4_; clear n0_ n1_ n2_ n3_ n4_ hb hbox hg; obtain ⟨hcz9_0, hcz9_1⟩ := blk_cells2 BK647.out; obtain ⟨hfz9_0, hfz9_1⟩ := blk_frozens2 BK647.out; obtain ⟨Ao10, co10, eo10⟩ := Kd.N_slice HO645.out; subst eo10) | ((with_reducible refine gate_callee (f := 17) rfl ?_); refine goesL_ (some 21) rfl rfl Try.func17 Z12 rfl #[.agg #[.int .i64 t642, .slice Ao10 t643.length co10], .int .i64 t646] rfl Z1 ?_; (with_reducible refine (impl_PagePlace.calls k t642 _ _ t643 t646 t648 _ ?side1 ?side2 A5.out).mono ?_); (case side1 => refine (Kd.N_reads' (e := 36) (base := w.heap.size) (ok := fun k_ => (True ∧ k_ ≠ gb647)) (n := t643.length) (c := co10) ?_).2.2; exact (by (with_reducible repeat (first | apply Kd.N_alloc | apply Kd.N_drewN | apply Kd.N_drew)); exact (Kd.N_mono (Kd.N_far (p := ⟨gb647, 1, none⟩) (Kd.N_far (p := ⟨gb647, 0, none⟩) (Kd.N_mono HO645.out (fun k_ hk => (⟨hk, hk.2⟩ : _ ∧ k_ ≠ gb647))) (fun _ hk => hk.2) (.int .i64 t642)) (fun _ hk => hk.2) (.slice Ao10 t643.length co10)) (fun _ h_ => h_.1)))); (case side2 => exact (Kd.N_reads' HO645.out).2.1); rintro e w11 ⟨rfl, hb⟩; refine ⟨_, rfl, ?_⟩; have n0_ := ZA (Kd.N_below (by (with_reducible repeat (first | apply Kd.N_alloc | apply Kd.N_drewN | apply Kd.N_drew)); exact (Kd.N_mono (Kd.N_far (p := ⟨gb647, 1, none⟩) (Kd.N_far (p := ⟨gb647, 0, none⟩) (Kd.N_mono HO645.out (fun k_ hk => (⟨hk, hk.2⟩ : _ ∧ k_ ≠ gb647))) (fun _ hk => hk.2) (.int .i64 t642)) (fun _ hk => hk.2) (.slice Ao10 t643.length co10)) (fun _ h_ => h_.1))) hb); have n1_ := ZA (blk_below (g := gb647) (o := .cells #[.int .i64 t642, .slice Ao10 t643.length co10] 27 (0, 0)) (bput BK647.out) hb); have n2_ := ZA (below_step (hset HB.out) hb); clear HO645 BK647 HB; have HO645 := n0_; have BK647 := n1_; have HB := n2_; clear n0_ n1_ n2_; (try clear hb); (try clear hb2); (try clear hk); (try clear hi)))
  (try simp only [Act.put, List.setIfInBounds_toArray, List.set_cons_zero, List.set_cons_succ])
  go_cut [32] (fun v32 wc => ∃ (kq : Nat) (x32_5 : Bool), v32 = .bool x32_5 ∧ Aside0 (laws_FnPlaces.j0 kq t646 t648 x32_5 t642 t643 = some r) ∧ Aside0 (kq ≤ k) ∧ Aside0 (Kd.N (Kd.slice 5 (Kd.int .u8)) 36 wc w.heap.size (fun k_ => k_ ≠ gb647) (.slice Ao10 t643.length co10) t643) ∧ Aside0 (wc.heap[gb647]? = some (.cells #[.int .i64 t642, (.slice Ao10 t643.length co10)] 27 (0, 0))) ∧ Aside0 (Below w.heap.size w wc))
  case first =>
   have H := HC6.out
   clear HC6
   replace H := Option.bind_eq_some_iff.mp H
   obtain ⟨t649, A120, H⟩ := H
   (try dsimp only at H)
   have A12 := ZA A120
   clear A120
   by_cases c13 : t649 < 0
   ·rw [if_pos c13] at H
    have c13b0 : decide (t649 < 0) = true := decide_eq_true c13
    clear c13
    (first | rw [c13b0] | (simp only [i64_w, i32_w]; rw [c13b0]) | skip)
    have H' := ZA H
    clear H
    obtain ⟨hcz14_0, hcz14_1⟩ := blk_cells2 BK647.out
    obtain ⟨hfz14_0, hfz14_1⟩ := blk_frozens2 BK647.out
    go_wp2_with (first | ((with_reducible refine gate_callee (f := 12) rfl ?_); refine goesL_ (some 23) rfl rfl Try.func12 Z12 rfl #[.agg #[.int .i64 t642, .slice Ao10 t643.length co10]] rfl Z1 ?_; (with_reducible refine (spec_PageUsed.calls k t642 _ _ t643 t649 _ ?side1 ?side2 A12.out).mono ?_); (case side1 => repeat (first | exact (Kd.N_reads' HO645.out).2.2 | (with_reducible refine Kd.C_alloc ?_ _) | (with_reducible refine Kd.C_drewN ?_ _) | (with_reducible refine Kd.C_drew ?_))); (case side2 => exact (Kd.N_reads' HO645.out).2.1); rintro e w15 ⟨rfl, hb⟩; refine ⟨_, rfl, ?_⟩; have n0_ := ZA (Kd.N_below Z90 hb); have n1_ := ZA (blk_below (bup BK647.out) hb); have n2_ := ZA (below_step (hset HB.out) hb); clear HO645 BK647 HB; have HO645 := n0_; have BK647 := n1_; have HB := n2_; clear n0_ n1_ n2_; (try clear hb); (try clear hb2); (try clear hk); (try clear hi)))
    go_meet
    case rel => exact ⟨_, (true), Z7, H', ⟨by first | omega | exact Nat.le_refl _⟩, ⟨by (with_reducible repeat (first | apply Kd.N_alloc | apply Kd.N_drewN | apply Kd.N_drew)); exact Kd.N_mono HO645.out (fun _ hk => hk.2)⟩, ⟨by exact bup BK647.out⟩, ⟨hset HB.out⟩⟩
   ·rw [if_neg c13] at H
    have c13b0 : decide (t649 < 0) = false := decide_eq_false c13
    clear c13
    (first | rw [c13b0] | (simp only [i64_w, i32_w]; rw [c13b0]) | skip)
    by_cases c16 : t646 < 1
    ·rw [if_pos c16] at H
     have c16b0 : decide (t646 < 1) = true := decide_eq_true c16
     clear c16
     have H' := ZA H
     clear H
     obtain ⟨hcz17_0, hcz17_1⟩ := blk_cells2 BK647.out
     obtain ⟨hfz17_0, hfz17_1⟩ := blk_frozens2 BK647.out
     go_wp2_with (first | ((with_reducible refine gate_callee (f := 12) rfl ?_); refine goesL_ (some 23) rfl rfl Try.func12 Z12 rfl #[.agg #[.int .i64 t642, .slice Ao10 t643.length co10]] rfl Z1 ?_; (with_reducible refine (spec_PageUsed.calls k t642 _ _ t643 t649 _ ?side1 ?side2 A12.out).mono ?_); (case side1 => repeat (first | exact (Kd.N_reads' HO645.out).2.2 | (with_reducible refine Kd.C_alloc ?_ _) | (with_reducible refine Kd.C_drewN ?_ _) | (with_reducible refine Kd.C_drew ?_))); (case side2 => exact (Kd.N_reads' HO645.out).2.1); rintro e w18 ⟨rfl, hb⟩; refine ⟨_, rfl, ?_⟩; have n0_ := ZA (Kd.N_below Z90 hb); have n1_ := ZA (blk_below (bup BK647.out) hb); have n2_ := ZA (below_step (hset HB.out) hb); clear HO645 BK647 HB; have HO645 := n0_; have BK647 := n1_; have HB := n2_; clear n0_ n1_ n2_; (try clear hb); (try clear hb2); (try clear hk); (try clear hi)))
     go_meet
     case rel => exact ⟨_, (true), Z7, H', ⟨by first | omega | exact Nat.le_refl _⟩, ⟨by (with_reducible repeat (first | apply Kd.N_alloc | apply Kd.N_drewN | apply Kd.N_drew)); exact Kd.N_mono HO645.out (fun _ hk => hk.2)⟩, ⟨by exact bup BK647.out⟩, ⟨hset HB.out⟩⟩
    ·rw [if_neg c16] at H
     have c16b0 : decide (t646 < 1) = false := decide_eq_false c16
     clear c16
     have H' := ZA H
     clear H
     obtain ⟨hcz19_0, hcz19_1⟩ := blk_cells2 BK647.out
     obtain ⟨hfz19_0, hfz19_1⟩ := blk_frozens2 BK647.out
     go_wp2_with (first | ((with_reducible refine gate_callee (f := 12) rfl ?_); refine goesL_ (some 23) rfl rfl Try.func12 Z12 rfl #[.agg #[.int .i64 t642, .slice Ao10 t643.length co10]] rfl Z1 ?_; (with_reducible refine (spec_PageUsed.calls k t642 _ _ t643 t649 _ ?side1 ?side2 A12.out).mono ?_); (case side1 => repeat (first | exact (Kd.N_reads' HO645.out).2.2 | (with_reducible refine Kd.C_alloc ?_ _) | (with_reducible refine Kd.C_drewN ?_ _) | (with_reducible refine Kd.C_drew ?_))); (case side2 => exact (Kd.N_reads' HO645.out).2.1); rintro e w20 ⟨rfl, hb⟩; refine ⟨_, rfl, ?_⟩; have n0_ := ZA (Kd.N_below Z90 hb); have n1_ := ZA (blk_below (bup BK647.out) hb); have n2_ := ZA (below_step (hset HB.out) hb); clear HO645 BK647 HB; have HO645 := n0_; have BK647 := n1_; have HB := n2_; clear n0_ n1_ n2_; (try clear hb); (try clear hb2); (try clear hk); (try clear hi)))
     go_meet
     case rel => exact ⟨_, (decide (t646 > 92)), Z7, H', ⟨by first | omega | exact Nat.le_refl _⟩, ⟨by (with_reducible repeat (first | apply Kd.N_alloc | apply Kd.N_drewN | apply Kd.N_drew)); exact Kd.N_mono HO645.out (fun _ hk => hk.2)⟩, ⟨by exact bup BK647.out⟩, ⟨hset HB.out⟩⟩
  case rest =>
   clear HC6
   try clear c1
   try clear p2
   try clear c3
   try clear c10
   try clear c12
   try clear c13
   try clear c13b0
   try clear c16
   try clear c16b0
   try clear c17
   try clear hcz14_0
   try clear hcz14_1
   try clear hcz17_0
   try clear hcz17_1
   try clear hcz19_0
   try clear hcz19_1
   try clear hcz9_0
   try clear hcz9_1
   try clear hfz14_0
   try clear hfz14_1
   try clear hfz17_0
   try clear hfz17_1
   try clear hfz19_0
   try clear hfz19_1
   try clear hfz9_0
   try clear hfz9_1
   obtain ⟨kq, x32_5, rfl, HA, HJ5, HO_648001, BK647, HB⟩ := hcut
   cases kq with
   | zero => exact absurd HA.out (by simp [laws_FnPlaces.j0])
   | succ kj5 =>
    have H := HA.out
    clear HA
    simp only [laws_FnPlaces.j0] at H
    by_cases c21 : x32_5 = true
    ·subst c21
     rw [if_pos rfl] at H
     (try dsimp only at H)
     obtain rfl := Option.some.inj H
     go_wp2
     go_ret
     exact ⟨by first | rfl | (simp [errW_none, errW_some] <;> rfl) | (simp [*, errW_none, errW_some] <;> rfl), hset HB.out⟩
    ·replace c21 := Bool.eq_false_iff.mpr c21
     subst c21
     rw [if_neg (show ¬ (false = true) by decide)] at H
     (try dsimp only at H)
     by_cases c22 : 0 ≤ t646
     ·rw [if_pos c22] at H
      have c22b0 := eq_true c22
      have c22b1 : decide (0 ≤ t646) = true := decide_eq_true c22
      clear c22
      by_cases c23 : (t646 : Int).toNat ≤ 281474976710656
      ·rw [if_pos c23] at H
       have c23b0 := eq_true c23
       have c23b1 : decide ((t646 : Int).toNat ≤ 281474976710656) = true := decide_eq_true c23
       clear c23
       obtain ⟨y650, hy650⟩ : ∃ y_ : List Int, y_ = (List.replicate (t646 : Int).toNat 0) := ⟨_, rfl⟩
       replace H : (if t648 ≥ 0 then ((impl_PagePut.f kj5 t642 t643 t648 y650 5).bind fun bt653 => (if bt653.2.2 = true then (if t648 = (t643.length : Int) then (some true) else (if t648 < (t643.length : Int) then (if 0 ≤ t648 then (some (((rd_L1 t643 t648).length : Int) == 0)) else (none)) else (some false))) else (some false))) else (laws_FnPlaces.l0 kj5 y650 0 t642 t643)) = some r := by first | (rw [hy650]; with_reducible exact H) | (have H2_ := (Option.bind_some _ _).symm.trans H; rw [hy650]; with_reducible exact H2_) | (have H2_ := (Option.bind_some _ _).symm.trans H; with_reducible exact H2_) | with_reducible exact H | (rw [hy650]; exact H) | exact H
       have Ny650 := ZA hy650
       clear hy650
       by_cases c24 : t648 ≥ 0
       ·rw [if_pos c24] at H
        have c24b0 : decide (0 ≤ t648) = true := decide_eq_true c24
        clear c24
        replace H := Option.bind_eq_some_iff.mp H
        obtain ⟨⟨t653, t654, t657⟩, A250, H⟩ := H
        (try dsimp only at H)
        have A25 := ZA A250
        clear A250
        by_cases c26 : t657 = true
        ·subst c26
         rw [if_pos rfl] at H
         (try dsimp only at H)
         by_cases c27 : t648 = (t643.length : Int)
         ·rw [if_pos c27] at H
          have c27b0 : (t648 == (t643.length : Int)) = true := beq_iff_eq.mpr c27
          have c27b1 : (t648 != (t643.length : Int)) = false := bne_eq_false_iff_eq.mpr c27
          clear c27
          obtain rfl := Option.some.inj H
          go_wp2_with (first | ((with_reducible refine gate_dst (N := 36) rfl ?_); (try (refine gate_guard Z94 ?_; dsimp only)); refine Kd.R_make (Kd.int .u8) _ 5 rfl (N := 36) rfl 36 _ _ rfl t646 rfl rfl Try.underlying36 (.int .u8 0) 1 info5 rfl Z25 Z8 0 (ok := fun _ => True) (okp := fun _ => True) rfl (fun _ hk => hk) trivial (of_decide_eq_true Z10) (Nat.le_trans (Nat.mul_le_mul_right _ (of_decide_eq_true Z10 : t646.toNat ≤ 281474976710656)) Z8) (Below.refl _ _) (Nat.le_refl _) ?_; intro v651 w28 ho29 hb hg_ hnew_; clear hg_ hnew_; (first | rw [← Ny650.out] at ho29 | (simp only [Int.reduceToNat] at ho29; rw [← Ny650.out] at ho29)); have n0_ := ZA (Kd.N_elder' Z29 (Kd.R_base ho29) hb); have n1_ := ZA (Kd.R_lower ho29 (below_size (hset HB.out))); have n2_ := ZA (blk_below (bup BK647.out) hb); have n3_ := ZA (below_step (hset HB.out) hb); clear HO_648001 BK647 HB; have HO_648001 := n0_; have HO652 := n1_; have BK647 := n2_; have HB := n3_; clear n0_ n1_ n2_ n3_ hb ho29; obtain ⟨hcz30_0, hcz30_1⟩ := blk_cells2 BK647.out; obtain ⟨hfz30_0, hfz30_1⟩ := blk_frozens2 BK647.out; obtain ⟨Ao31, co31, eo31⟩ := Kd.R_slice HO652.out; subst eo31) | ((with_reducible refine gate_callee (f := 24) rfl ?_); refine goesL_ (some 43) rfl rfl Try.func24 Z12 rfl #[.agg #[.int .i64 t642, .slice Ao10 t643.length co10], .int .i64 t648, .slice Ao31 y650.length co31, .int .i64 5] rfl Z1 ?_; (with_reducible refine (impl_PagePut.calls kj5 t642 _ _ t643 t648 _ _ y650 5 t653 t654 true _ ?side1 ?side2 ?side3 ?side4 A25.out).mono ?_); (case side1 => repeat (first | exact (Kd.N_reads' HO_648001.out).2.2 | (with_reducible refine Kd.C_alloc ?_ _) | (with_reducible refine Kd.C_drewN ?_ _) | (with_reducible refine Kd.C_drew ?_))); (case side2 => exact (Kd.N_reads' HO_648001.out).2.1); (case side3 => repeat (first | exact (Kd.R_reads' HO652.out).2.2 | (with_reducible refine Kd.C_alloc ?_ _) | (with_reducible refine Kd.C_drewN ?_ _) | (with_reducible refine Kd.C_drew ?_))); (case side4 => exact (Kd.R_reads' HO652.out).2.1); rintro e w32 ⟨v655, rfl, ho0, hb⟩; refine ⟨_, rfl, ?_⟩; have n0_ := ZA (Kd.N_elder' Z29 Z72 hb); have n1_ := ZA (Kd.R_below (Kd.rup HO652.out) hb); have n2_ := ZA (Kd.N_lower (Kd.N_mono (ok' := fun k_ => some k_ ≠ (.slice Ao10 t643.length co10 : Value).ownBlock ∧ some k_ ≠ (.slice Ao31 y650.length co31 : Value).ownBlock ∧ k_ ≠ gb647) (Kd.S_N (Kd.S_bound ho0)) (fun k_ hk_ => ⟨(Kd.fresh' (Kd.N_lt Z29) k_ hk_.2.1), (Kd.fresh' (Kd.R_lt (Kd.rup HO652.out)) k_ hk_.2.1), (Kd.freshB (g := gb647) (o := .cells #[.int .i64 t642, .slice Ao10 t643.length co10] 27 (0, 0)) (bup BK647.out) k_ hk_.2.1)⟩)) (below_size (hset HB.out))); have n3_ := ZA (blk_below (bup BK647.out) hb); have n4_ := ZA (below_step (hset HB.out) hb); clear HO_648001 HO652 BK647 HB; have HO_648001 := n0_; have HO652 := n1_; have HO656 := n2_; have BK647 := n3_; have HB := n4_; clear n0_ n1_ n2_ n3_ n4_; (try clear hb); (try clear hb2); (try clear hk); (try clear hi); (try clear ho0)) | ((with_reducible refine gate_dst (N := 7) rfl ?_); (try (refine gate_guard Z94 ?_; dsimp only)); refine box_event ?hg (N := 7) ?hd (cs := #[.int .i64 0, .slice none 0 0]) (t := 27) ?hr ?_; (case hd => rfl); (case hg => rfl); (case hr => first | (go_simp; done) | (go_simp; rfl)); intro gb658 hg w33 hbox hb; have n0_ := ZA (Kd.N_below (Kd.N_elderB Z29 gb658 (Nat.le_of_eq hg.symm)) hb); have n1_ := ZA (Kd.R_below (Kd.rup HO652.out) hb); have n2_ := ZA (Kd.N_below (Kd.N_elderB (by (with_reducible repeat (first | apply Kd.N_alloc | apply Kd.N_drewN | apply Kd.N_drew)); exact HO656.out) gb658 (Nat.le_of_eq hg.symm)) hb); have n3_ := ZA (blk_below (bup BK647.out) hb); have n4_ := ZA (below_step (hset HB.out) hb); have n5_ := ZA (hbox); have n6_ := Geq.mk ((Z34 : w.heap.size ≤ gb658)); have n7_ := Geq.mk ((Z34 : w.heap.size ≤ gb658)); have n8_ := Neq.mk ((Z62 : gb647 ≠ gb658)); have n9_ := Neq.mk ((Z63 : gb658 ≠ gb647)); clear HO_648001 HO652 HO656 BK647 HB; have HO_648001 := n0_; have HO652 := n1_; have HO656 := n2_; have BK647 := n3_; have HB := n4_; have BK658 := n5_; have GW658 := n6_; have GE658 := n7_; have NB647_658 := n8_; have NB658_647 := n9_; clear n0_ n1_ n2_ n3_ n4_ n5_ n6_ n7_ n8_ n9_ hb hbox hg; have hnb34 := NB658_647.out; have hnc34 := NB647_658.out; obtain ⟨hcz35_0, hcz35_1⟩ := blk_cells2 BK658.out; obtain ⟨hfz35_0, hfz35_1⟩ := blk_frozens2 BK658.out; obtain ⟨Ao36, co36, eo36⟩ := Kd.N_slice HO656.out; subst eo36; obtain ⟨hcz37_0, hcz37_1⟩ := blk_cells2 BK647.out; obtain ⟨hfz37_0, hfz37_1⟩ := blk_frozens2 BK647.out))
          go_ret
          exact ⟨by first | rfl | (simp [errW_none, errW_some] <;> rfl) | (simp [*, errW_none, errW_some] <;> rfl), hset HB.out⟩
         ·rw [if_neg c27] at H
          have c27b0 : (t648 == (t643.length : Int)) = false := beq_eq_false_iff_ne.mpr c27
          have c27b1 : (t648 != (t643.length : Int)) = true := bne_iff_ne.mpr c27
          by_cases c38 : t648 < (t643.length : Int)
          ·rw [if_pos c38] at H
           have c38b0 : decide (t648 < (t643.length : Int)) = true := decide_eq_true c38
           clear c38
           by_cases c39 : 0 ≤ t648
           ·rw [if_pos c39] at H
            have c39b0 : decide (0 ≤ t648) = true := decide_eq_true c39
            clear c39
            obtain rfl := Option.some.inj H
            go_wp2_with (first | ((with_reducible refine gate_dst (N := 36) rfl ?_); (try (refine gate_guard Z94 ?_; dsimp only)); refine Kd.R_make (Kd.int .u8) _ 5 rfl (N := 36) rfl 36 _ _ rfl t646 rfl rfl Try.underlying36 (.int .u8 0) 1 info5 rfl Z25 Z8 0 (ok := fun _ => True) (okp := fun _ => True) rfl (fun _ hk => hk) trivial (of_decide_eq_true Z10) (Nat.le_trans (Nat.mul_le_mul_right _ (of_decide_eq_true Z10 : t646.toNat ≤ 281474976710656)) Z8) (Below.refl _ _) (Nat.le_refl _) ?_; intro v651 w40 ho41 hb hg_ hnew_; clear hg_ hnew_; (first | rw [← Ny650.out] at ho41 | (simp only [Int.reduceToNat] at ho41; rw [← Ny650.out] at ho41)); have n0_ := ZA (Kd.N_elder' Z29 (Kd.R_base ho41) hb); have n1_ := ZA (Kd.R_lower ho41 (below_size (hset HB.out))); have n2_ := ZA (blk_below (bup BK647.out) hb); have n3_ := ZA (below_step (hset HB.out) hb); clear HO_648001 BK647 HB; have HO_648001 := n0_; have HO652 := n1_; have BK647 := n2_; have HB := n3_; clear n0_ n1_ n2_ n3_ hb ho41; obtain ⟨hcz42_0, hcz42_1⟩ := blk_cells2 BK647.out; obtain ⟨hfz42_0, hfz42_1⟩ := blk_frozens2 BK647.out; obtain ⟨Ao43, co43, eo43⟩ := Kd.R_slice HO652.out; subst eo43) | ((with_reducible refine gate_callee (f := 24) rfl ?_); refine goesL_ (some 43) rfl rfl Try.func24 Z12 rfl #[.agg #[.int .i64 t642, .slice Ao10 t643.length co10], .int .i64 t648, .slice Ao43 y650.length co43, .int .i64 5] rfl Z1 ?_; (with_reducible refine (impl_PagePut.calls kj5 t642 _ _ t643 t648 _ _ y650 5 t653 t654 true _ ?side1 ?side2 ?side3 ?side4 A25.out).mono ?_); (case side1 => repeat (first | exact (Kd.N_reads' HO_648001.out).2.2 | (with_reducible refine Kd.C_alloc ?_ _) | (with_reducible refine Kd.C_drewN ?_ _) | (with_reducible refine Kd.C_drew ?_))); (case side2 => exact (Kd.N_reads' HO_648001.out).2.1); (case side3 => repeat (first | exact (Kd.R_reads' HO652.out).2.2 | (with_reducible refine Kd.C_alloc ?_ _) | (with_reducible refine Kd.C_drewN ?_ _) | (with_reducible refine Kd.C_drew ?_))); (case side4 => exact (Kd.R_reads' HO652.out).2.1); rintro e w44 ⟨v655, rfl, ho0, hb⟩; refine ⟨_, rfl, ?_⟩; have n0_ := ZA (Kd.N_elder' Z29 Z72 hb); have n1_ := ZA (Kd.R_below (Kd.rup HO652.out) hb); have n2_ := ZA (Kd.N_lower (Kd.N_mono (ok' := fun k_ => some k_ ≠ (.slice Ao10 t643.length co10 : Value).ownBlock ∧ some k_ ≠ (.slice Ao43 y650.length co43 : Value).ownBlock ∧ k_ ≠ gb647) (Kd.S_N (Kd.S_bound ho0)) (fun k_ hk_ => ⟨(Kd.fresh' (Kd.N_lt Z29) k_ hk_.2.1), (Kd.fresh' (Kd.R_lt (Kd.rup HO652.out)) k_ hk_.2.1), (Kd.freshB (g := gb647) (o := .cells #[.int .i64 t642, .slice Ao10 t643.length co10] 27 (0, 0)) (bup BK647.out) k_ hk_.2.1)⟩)) (below_size (hset HB.out))); have n3_ := ZA (blk_below (bup BK647.out) hb); have n4_ := ZA (below_step (hset HB.out) hb); clear HO_648001 HO652 BK647 HB; have HO_648001 := n0_; have HO652 := n1_; have HO656 := n2_; have BK647 := n3_; have HB := n4_; clear n0_ n1_ n2_ n3_ n4_; (try clear hb); (try clear hb2); (try clear hk); (try clear hi); (try clear ho0)) | ((with_reducible refine gate_dst (N := 7) rfl ?_); (try (refine gate_guard Z94 ?_; dsimp only)); refine box_event ?hg (N := 7) ?hd (cs := #[.int .i64 0, .slice none 0 0]) (t := 27) ?hr ?_; (case hd => rfl); (case hg => rfl); (case hr => first | (go_simp; done) | (go_simp; rfl)); intro gb658 hg w45 hbox hb; have n0_ := ZA (Kd.N_below (Kd.N_elderB Z29 gb658 (Nat.le_of_eq hg.symm)) hb); have n1_ := ZA (Kd.R_below (Kd.rup HO652.out) hb); have n2_ := ZA (Kd.N_below (Kd.N_elderB (by (with_reducible repeat (first | apply Kd.N_alloc | apply Kd.N_drewN | apply Kd.N_drew)); exact HO656.out) gb658 (Nat.le_of_eq hg.symm)) hb); have n3_ := ZA (blk_below (bup BK647.out) hb); have n4_ := ZA (below_step (hset HB.out) hb); have n5_ := ZA (hbox); have n6_ := Geq.mk ((Z34 : w.heap.size ≤ gb658)); have n7_ := Geq.mk ((Z34 : w.heap.size ≤ gb658)); have n8_ := Neq.mk ((Z62 : gb647 ≠ gb658)); have n9_ := Neq.mk ((Z63 : gb658 ≠ gb647)); clear HO_648001 HO652 HO656 BK647 HB; have HO_648001 := n0_; have HO652 := n1_; have HO656 := n2_; have BK647 := n3_; have HB := n4_; have BK658 := n5_; have GW658 := n6_; have GE658 := n7_; have NB647_658 := n8_; have NB658_647 := n9_; clear n0_ n1_ n2_ n3_ n4_ n5_ n6_ n7_ n8_ n9_ hb hbox hg; have hnb46 := NB658_647.out; have hnc46 := NB647_658.out; obtain ⟨hcz47_0, hcz47_1⟩ := blk_cells2 BK658.out; obtain ⟨hfz47_0, hfz47_1⟩ := blk_frozens2 BK658.out; obtain ⟨Ao48, co48, eo48⟩ := Kd.N_slice HO656.out; subst eo48) | ((with_reducible refine gate_store (t := 27) (p := 7) rfl ?_); refine store_event (t := 27) (p := 7) (v := ?vo_w49) (w1 := ((w45.setCell ⟨gb658, 0, none⟩ (.int .i64 t653)).setCell ⟨gb658, 1, none⟩ (.slice Ao48 t654.length co48))) ?hg ?ho ?hn ?hr ?_; (case ho => rfl); (case hg => rfl); (case hn => rfl); (case hr => first | (go_simp; done) | (go_simp; rfl)); intro w49 hw; have n0_ : Aside0 (Kd.N (Kd.slice 5 (Kd.int .u8)) 36 w49 w.heap.size (fun k_ => some k_ ≠ (.slice Ao43 y650.length co43 : Value).ownBlock ∧ some k_ ≠ (.slice Ao48 t654.length co48 : Value).ownBlock ∧ k_ ≠ gb647 ∧ k_ ≠ gb658) (.slice Ao10 t643.length co10) t643) := ⟨(by rw [hw]; exact (by (with_reducible repeat (first | apply Kd.N_alloc | apply Kd.N_drewN | apply Kd.N_drew)); exact Kd.N_mono (Kd.N_far (p := ⟨gb658, 1, none⟩) (Kd.N_far (p := ⟨gb658, 0, none⟩) (Kd.N_mono HO_648001.out (fun k_ hk => (⟨hk, hk.2⟩ : _ ∧ k_ ≠ gb658))) (fun _ hk => hk.2) (.int .i64 t653)) (fun _ hk => hk.2) (.slice Ao48 t654.length co48)) (fun _ hk => ⟨hk.1.1.1.2, ⟨hk.1.1.2, ⟨hk.1.1.1.1, hk.1.2⟩⟩⟩)))⟩; have n1_ : Aside0 (Kd.R (Kd.int .u8) 5 w49 w.heap.size (fun _ => True) (.slice Ao43 y650.length co43) y650) := ⟨(by rw [hw]; exact (by exact Kd.rup (Kd.R_mono (Kd.R_far (p := ⟨gb658, 1, none⟩) (Kd.R_far (p := ⟨gb658, 0, none⟩) (Kd.R_types HO652.out BK658.out Z25) (fun _ hk => hk.2) (.int .i64 t653)) (fun _ hk => hk.2) (.slice Ao48 t654.length co48)) (fun _ hk => trivial))))⟩; have n2_ : Aside0 (Kd.N (Kd.slice 5 (Kd.int .u8)) 36 w49 w.heap.size (fun k_ => some k_ ≠ (.slice Ao10 t643.length co10 : Value).ownBlock ∧ some k_ ≠ (.slice Ao43 y650.length co43 : Value).ownBlock ∧ k_ ≠ gb647 ∧ k_ ≠ gb658) (.slice Ao48 t654.length co48) t654) := ⟨(by rw [hw]; exact (by (with_reducible repeat (first | apply Kd.N_alloc | apply Kd.N_drewN | apply Kd.N_drew)); exact Kd.N_mono (Kd.N_far (p := ⟨gb658, 1, none⟩) (Kd.N_far (p := ⟨gb658, 0, none⟩) (Kd.N_mono HO656.out (fun k_ hk => (⟨hk, hk.2⟩ : _ ∧ k_ ≠ gb658))) (fun _ hk => hk.2) (.int .i64 t653)) (fun _ hk => hk.2) (.slice Ao48 t654.length co48)) (fun _ hk => ⟨hk.1.1.1, ⟨hk.1.1.2.1, ⟨hk.1.1.2.2, hk.1.2⟩⟩⟩)))⟩; have n3_ : Aside0 (w49.heap[gb647]? = some (.cells #[.int .i64 t642, .slice Ao10 t643.length co10] 27 (0, 0))) := ⟨(by rw [hw]; exact (bput BK647.out))⟩; have n4_ : Aside0 (w49.heap[gb658]? = some (.cells #[.int .i64 t653, .slice Ao48 t654.length co48] 27 (0, 0))) := ⟨(by rw [hw]; exact (bput BK658.out))⟩; have n5_ : Aside0 (Below w.heap.size w w49) := ⟨(by rw [hw]; exact (hset HB.out))⟩; clear hw HO_648001 HO652 HO656 BK647 BK658 HB; have HO_648001 := n0_; have HO652 := n1_; have HO656 := n2_; have BK647 := n3_; have BK658 := n4_; have HB := n5_; clear n0_ n1_ n2_ n3_ n4_ n5_; obtain ⟨hcz50_0, hcz50_1⟩ := blk_cells2 BK647.out; obtain ⟨hfz50_0, hfz50_1⟩ := blk_frozens2 BK647.out; have p659 : 0 ≤ (t648 : Int) := of_decide_eq_true Z10; have q659 : t648 < (t643.length : Int) := of_decide_eq_true Z10; obtain ⟨ad659, A659_0, c659_0, e659, hx659_0, hl659_0, hi659_0⟩ := at_L1 (Kd.N_reads' HO_648001.out).2.2 t648 p659 q659; cases e659; obtain ⟨ce659, hce659, hMe659, hcc659⟩ := Kd.N_get HO_648001.out [] t648 p659 (by first | exact q659 | exact of_decide_eq_true Z10 | (have e_ := (Kd.N_reads' HO_648001.out).1; omega)); obtain ⟨ua659_0, uc659_0, rfl, ul659_0, ge659_0⟩ := Kd.FK_slice_open hMe659; have hv659_0 := hcc659 0 _ rfl; rw [Nat.add_zero, show ((Kd.slice 5 (Kd.int .u8))).sz = 1 from rfl, Nat.mul_one] at hv659_0; replace hv659_0 := Option.some.inj (hv659_0.symm.trans hx659_0); injection hv659_0 with hva_ hvn_ hvc_; rw [hva_] at ge659_0; rw [hvc_] at ul659_0; have HL659_0 := ZA (show Kd.V (Kd.int .u8) 5 _ w.heap.size _ _ (rd_L1 t643 t648) from Kd.V_mk ul659_0 ge659_0); clear hva_ hvn_ hvc_ ge659_0 ul659_0 hcc659 hce659; have HR659_0 := ZA hi659_0; have HC659_0 := ZA hl659_0; clear hi659_0 hl659_0; replace p659 := eq_true p659; replace q659 := eq_true q659))
            go_ret
            exact ⟨by first | rfl | (simp [errW_none, errW_some] <;> rfl) | (simp [*, errW_none, errW_some] <;> rfl), hset HB.out⟩
           ·rw [if_neg c39] at H
            exact absurd H Z44
          ·rw [if_neg c38] at H
           have c38b0 : decide (t648 < (t643.length : Int)) = false := decide_eq_false c38
           clear c38
           cases (Option.some.inj H).trans hT
        ·replace c26 := Bool.eq_false_iff.mpr c26
         subst c26
         rw [if_neg (show ¬ (false = true) by decide)] at H
         (try dsimp only at H)
         cases (Option.some.inj H).trans hT
       ·rw [if_neg c24] at H
        have c24b0 : decide (0 ≤ t648) = false := decide_eq_false c24
        clear c24
        have H' := ZA H
        clear H
        go_wp2_with (first | ((with_reducible refine gate_dst (N := 36) rfl ?_); (try (refine gate_guard Z94 ?_; dsimp only)); refine Kd.R_make (Kd.int .u8) _ 5 rfl (N := 36) rfl 36 _ _ rfl t646 rfl rfl Try.underlying36 (.int .u8 0) 1 info5 rfl Z25 Z8 0 (ok := fun _ => True) (okp := fun _ => True) rfl (fun _ hk => hk) trivial (of_decide_eq_true Z10) (Nat.le_trans (Nat.mul_le_mul_right _ (of_decide_eq_true Z10 : t646.toNat ≤ 281474976710656)) Z8) (Below.refl _ _) (Nat.le_refl _) ?_; intro v651 w51 ho52 hb hg_ hnew_; clear hg_ hnew_; (first | rw [← Ny650.out] at ho52 | (simp only [Int.reduceToNat] at ho52; rw [← Ny650.out] at ho52)); have n0_ := ZA (Kd.N_elder' Z29 (Kd.R_base ho52) hb); have n1_ := ZA (Kd.R_lower ho52 (below_size (hset HB.out))); have n2_ := ZA (blk_below (bup BK647.out) hb); have n3_ := ZA (below_step (hset HB.out) hb); clear HO_648001 BK647 HB; have HO_648001 := n0_; have HO652 := n1_; have BK647 := n2_; have HB := n3_; clear n0_ n1_ n2_ n3_ hb ho52))
        go_loopg [9] kj5 (fun kq v9 w' => ∃ (x9_2 : Int), v9 = .int .i64 x9_2 ∧ Aside0 (laws_FnPlaces.l0 kq y650 x9_2 t642 t643 = some r) ∧ Aside0 (kq ≤ kj5) ∧ Aside0 (Kd.R (Kd.int .u8) 5 w' w.heap.size (fun _ => True) v651 y650) ∧ Aside0 (Kd.N (Kd.slice 5 (Kd.int .u8)) 36 w' w.heap.size (fun k_ => some k_ ≠ (v651 : Value).ownBlock ∧ k_ ≠ gb647) (.slice Ao10 t643.length co10) t643) ∧ Aside0 (w'.heap[gb647]? = some (.cells #[.int .i64 t642, (.slice Ao10 t643.length co10)] 27 (0, 0))) ∧ Aside0 (Below w.heap.size w w'))
        case atStart => exact ⟨(0), Z7, H', ⟨Nat.le_refl _⟩, ⟨by exact Kd.rup HO652.out⟩, ⟨by (with_reducible repeat (first | apply Kd.N_alloc | apply Kd.N_drewN | apply Kd.N_drew)); exact Kd.N_mono HO_648001.out (fun _ hk => ⟨hk.2, hk.1⟩)⟩, ⟨by exact bup BK647.out⟩, ⟨hset HB.out⟩⟩
        case round =>
         clear H'
         try clear c1
         try clear c2
         try clear p2
         try clear c3
         try clear c4
         try clear c6
         try clear p6
         try clear q6
         try clear hx6
         try clear c10
         try clear c12
         try clear c13
         try clear c13b0
         try clear c16
         try clear c16b0
         try clear c17
         try clear c21
         try clear c22
         try clear c22b0
         try clear c22b1
         try clear c23
         try clear c23b0
         try clear c23b1
         try clear c24
         try clear c24b0
         try clear c26
         try clear c27
         try clear c27b0
         try clear c27b1
         try clear c32
         try clear c34
         try clear c35
         try clear c38
         try clear c38b0
         try clear c39
         try clear c39b0
         try clear c46
         try clear hcz14_0
         try clear hcz14_1
         try clear hcz17_0
         try clear hcz17_1
         try clear hcz19_0
         try clear hcz19_1
         try clear hcz30_0
         try clear hcz30_1
         try clear hcz35_0
         try clear hcz35_1
         try clear hcz37_0
         try clear hcz37_1
         try clear hcz42_0
         try clear hcz42_1
         try clear hcz47_0
         try clear hcz47_1
         try clear hcz50_0
         try clear hcz50_1
         try clear hcz9_0
         try clear hcz9_1
         try clear hfz14_0
         try clear hfz14_1
         try clear hfz17_0
         try clear hfz17_1
         try clear hfz19_0
         try clear hfz19_1
         try clear hfz30_0
         try clear hfz30_1
         try clear hfz35_0
         try clear hfz35_1
         try clear hfz37_0
         try clear hfz37_1
         try clear hfz42_0
         try clear hfz42_1
         try clear hfz47_0
         try clear hfz47_1
         try clear hfz50_0
         try clear hfz50_1
         try clear hfz9_0
         try clear hfz9_1
         try clear hx659_0
         try clear p2
         try clear p659
         try clear q659
         obtain ⟨x9_2, rfl, HA, HK2, HO_6, HO_648001, BK647, HB⟩ := hrel
         cases gk with
         | zero => exact absurd HA.out (by simp [laws_FnPlaces.l0])
         | succ k2 =>
          have H := HA.out
          clear HA
          simp only [laws_FnPlaces.l0] at H
          by_cases c53 : x9_2 ≤ (t643.length : Int)
          ·rw [if_pos c53] at H
           have c53b0 : decide (x9_2 ≤ (t643.length : Int)) = true := decide_eq_true c53
           clear c53
           replace H := Option.bind_eq_some_iff.mp H
           obtain ⟨⟨t660, t661, t664⟩, A540, H⟩ := H
           (try dsimp only at H)
           have A54 := ZA A540
           clear A540
           by_cases c55 : x9_2 = (t643.length : Int)
           ·rw [if_pos c55] at H
            have c55b0 : (x9_2 == (t643.length : Int)) = true := beq_iff_eq.mpr c55
            have c55b1 : (x9_2 != (t643.length : Int)) = false := bne_eq_false_iff_eq.mpr c55
            clear c55
            by_cases c56 : t664 = true
            ·subst c56
             rw [if_pos rfl] at H
             (try dsimp only at H)
             cases (Option.some.inj H).trans hT
            ·replace c56 := Bool.eq_false_iff.mpr c56
             subst c56
             rw [if_neg (show ¬ (false = true) by decide)] at H
             (try dsimp only at H)
             have H' := ZA H
             clear H
             obtain ⟨hcz57_0, hcz57_1⟩ := blk_cells2 BK647.out
             obtain ⟨hfz57_0, hfz57_1⟩ := blk_frozens2 BK647.out
             obtain ⟨Ao58, co58, eo58⟩ := Kd.R_slice HO_6.out
             subst eo58
             go_wp2_with (first | ((with_reducible refine gate_callee (f := 24) rfl ?_); refine goesL_ (some 81) rfl rfl Try.func24 Z12 rfl #[.agg #[.int .i64 t642, .slice Ao10 t643.length co10], .int .i64 x9_2, .slice Ao58 y650.length co58, .int .i64 5] rfl Z1 ?_; (with_reducible refine (impl_PagePut.calls k2 t642 _ _ t643 x9_2 _ _ y650 5 t660 t661 false _ ?side1 ?side2 ?side3 ?side4 A54.out).mono ?_); (case side1 => repeat (first | exact (Kd.N_reads' HO_648001.out).2.2 | (with_reducible refine Kd.C_alloc ?_ _) | (with_reducible refine Kd.C_drewN ?_ _) | (with_reducible refine Kd.C_drew ?_))); (case side2 => exact (Kd.N_reads' HO_648001.out).2.1); (case side3 => repeat (first | exact (Kd.R_reads' HO_6.out).2.2 | (with_reducible refine Kd.C_alloc ?_ _) | (with_reducible refine Kd.C_drewN ?_ _) | (with_reducible refine Kd.C_drew ?_))); (case side4 => exact (Kd.R_reads' HO_6.out).2.1); rintro e w59 ⟨v662, rfl, ho0, hb⟩; refine ⟨_, rfl, ?_⟩; have n0_ := ZA (Kd.R_below (Kd.rup HO_6.out) hb); have n1_ := ZA (Kd.N_elder' Z29 Z72 hb); have n2_ := ZA (Kd.N_lower (Kd.N_mono (ok' := fun k_ => some k_ ≠ (.slice Ao58 y650.length co58 : Value).ownBlock ∧ some k_ ≠ (.slice Ao10 t643.length co10 : Value).ownBlock ∧ k_ ≠ gb647) (Kd.S_N (Kd.S_bound ho0)) (fun k_ hk_ => ⟨(Kd.fresh' (Kd.R_lt (Kd.rup HO_6.out)) k_ hk_.2.1), (Kd.fresh' (Kd.N_lt Z29) k_ hk_.2.1), (Kd.freshB (g := gb647) (o := .cells #[.int .i64 t642, .slice Ao10 t643.length co10] 27 (0, 0)) (bup BK647.out) k_ hk_.2.1)⟩)) (below_size (hset HB.out))); have n3_ := ZA (blk_below (bup BK647.out) hb); have n4_ := ZA (below_step (hset HB.out) hb); clear HO_6 HO_648001 BK647 HB; have HO_6 := n0_; have HO_648001 := n1_; have HO663 := n2_; have BK647 := n3_; have HB := n4_; clear n0_ n1_ n2_ n3_ n4_; (try clear hb); (try clear hb2); (try clear hk); (try clear hi); (try clear ho0)) | ((with_reducible refine gate_dst (N := 10) rfl ?_); (try (refine gate_guard Z94 ?_; dsimp only)); refine box_event ?hg (N := 10) ?hd (cs := #[.int .i64 0, .slice none 0 0]) (t := 27) ?hr ?_; (case hd => rfl); (case hg => rfl); (case hr => first | (go_simp; done) | (go_simp; rfl)); intro gb665 hg w60 hbox hb; have n0_ := ZA (Kd.R_below (Kd.rup HO_6.out) hb); have n1_ := ZA (Kd.N_below (Kd.N_elderB Z29 gb665 (Nat.le_of_eq hg.symm)) hb); have n2_ := ZA (Kd.N_below (Kd.N_elderB Z97 gb665 (Nat.le_of_eq hg.symm)) hb); have n3_ := ZA (blk_below (bup BK647.out) hb); have n4_ := ZA (below_step (hset HB.out) hb); have n5_ := ZA (hbox); have n6_ := Geq.mk ((Z34 : w.heap.size ≤ gb665)); have n7_ := Geq.mk ((Z34 : w.heap.size ≤ gb665)); have n8_ := Neq.mk ((Z62 : gb647 ≠ gb665)); have n9_ := Neq.mk ((Z63 : gb665 ≠ gb647)); clear HO_6 HO_648001 HO663 BK647 HB; have HO_6 := n0_; have HO_648001 := n1_; have HO663 := n2_; have BK647 := n3_; have HB := n4_; have BK665 := n5_; have GW665 := n6_; have GE665 := n7_; have NB647_665 := n8_; have NB665_647 := n9_; clear n0_ n1_ n2_ n3_ n4_ n5_ n6_ n7_ n8_ n9_ hb hbox hg; have hnb61 := NB665_647.out; have hnc61 := NB647_665.out; obtain ⟨hcz62_0, hcz62_1⟩ := blk_cells2 BK665.out; obtain ⟨hfz62_0, hfz62_1⟩ := blk_frozens2 BK665.out; obtain ⟨Ao63, co63, eo63⟩ := Kd.N_slice HO663.out; subst eo63; obtain ⟨hcz64_0, hcz64_1⟩ := blk_cells2 BK647.out; obtain ⟨hfz64_0, hfz64_1⟩ := blk_frozens2 BK647.out))
             go_roundg k2
             case measure => have := HJ5.out; have := HK2.out; omega
             case rel => exact ⟨(wrap64 (x9_2 + 1)), Z7, H', ⟨by have := HJ5.out; have := HK2.out; omega⟩, ⟨by exact Kd.rup (Kd.R_mono (Kd.R_far (p := ⟨gb665, 1, none⟩) (Kd.R_far (p := ⟨gb665, 0, none⟩) (Kd.R_types HO_6.out BK665.out Z25) (fun _ hk => hk.2) (.int .i64 t660)) (fun _ hk => hk.2) (.slice Ao63 t661.length co63)) (fun _ hk => trivial))⟩, ⟨by (with_reducible repeat (first | apply Kd.N_alloc | apply Kd.N_drewN | apply Kd.N_drew)); exact Kd.N_mono (Kd.N_far (p := ⟨gb665, 1, none⟩) (Kd.N_far (p := ⟨gb665, 0, none⟩) (Kd.N_mono HO_648001.out (fun k_ hk => (⟨hk, hk.2⟩ : _ ∧ k_ ≠ gb665))) (fun _ hk => hk.2) (.int .i64 t660)) (fun _ hk => hk.2) (.slice Ao63 t661.length co63)) (fun _ hk => ⟨hk.1.1.1.1, hk.1.1.1.2⟩)⟩, ⟨bput BK647.out⟩, ⟨hset HB.out⟩⟩
           ·rw [if_neg c55] at H
            have c55b0 : (x9_2 == (t643.length : Int)) = false := beq_eq_false_iff_ne.mpr c55
            have c55b1 : (x9_2 != (t643.length : Int)) = true := bne_iff_ne.mpr c55
            by_cases c65 : 0 ≤ x9_2
            ·rw [if_pos c65] at H
             have c65b0 : decide (0 ≤ x9_2) = true := decide_eq_true c65
             clear c65
             by_cases c66 : x9_2 < (t643.length : Int)
             ·rw [if_pos c66] at H
              have c66b0 : decide (x9_2 < (t643.length : Int)) = true := decide_eq_true c66
              clear c66
              by_cases c67 : ((rd_L1 t643 x9_2).length : Int) = 0
              ·rw [if_pos c67] at H
               have c67b0 : (((rd_L1 t643 x9_2).length : Int) == 0) = true := beq_iff_eq.mpr c67
               have c67b1 : (((rd_L1 t643 x9_2).length : Int) != 0) = false := bne_eq_false_iff_eq.mpr c67
               clear c67
               by_cases c68 : t664 = true
               ·subst c68
                rw [if_pos rfl] at H
                (try dsimp only at H)
                cases (Option.some.inj H).trans hT
               ·replace c68 := Bool.eq_false_iff.mpr c68
                subst c68
                rw [if_neg (show ¬ (false = true) by decide)] at H
                (try dsimp only at H)
                have H' := ZA H
                clear H
                obtain ⟨hcz69_0, hcz69_1⟩ := blk_cells2 BK647.out
                obtain ⟨hfz69_0, hfz69_1⟩ := blk_frozens2 BK647.out
                obtain ⟨Ao70, co70, eo70⟩ := Kd.R_slice HO_6.out
                subst eo70
                go_wp2_with (first | ((with_reducible refine gate_callee (f := 24) rfl ?_); refine goesL_ (some 81) rfl rfl Try.func24 Z12 rfl #[.agg #[.int .i64 t642, .slice Ao10 t643.length co10], .int .i64 x9_2, .slice Ao70 y650.length co70, .int .i64 5] rfl Z1 ?_; (with_reducible refine (impl_PagePut.calls k2 t642 _ _ t643 x9_2 _ _ y650 5 t660 t661 false _ ?side1 ?side2 ?side3 ?side4 A54.out).mono ?_); (case side1 => repeat (first | exact (Kd.N_reads' HO_648001.out).2.2 | (with_reducible refine Kd.C_alloc ?_ _) | (with_reducible refine Kd.C_drewN ?_ _) | (with_reducible refine Kd.C_drew ?_))); (case side2 => exact (Kd.N_reads' HO_648001.out).2.1); (case side3 => repeat (first | exact (Kd.R_reads' HO_6.out).2.2 | (with_reducible refine Kd.C_alloc ?_ _) | (with_reducible refine Kd.C_drewN ?_ _) | (with_reducible refine Kd.C_drew ?_))); (case side4 => exact (Kd.R_reads' HO_6.out).2.1); rintro e w71 ⟨v662, rfl, ho0, hb⟩; refine ⟨_, rfl, ?_⟩; have n0_ := ZA (Kd.R_below (Kd.rup HO_6.out) hb); have n1_ := ZA (Kd.N_elder' Z29 Z72 hb); have n2_ := ZA (Kd.N_lower (Kd.N_mono (ok' := fun k_ => some k_ ≠ (.slice Ao70 y650.length co70 : Value).ownBlock ∧ some k_ ≠ (.slice Ao10 t643.length co10 : Value).ownBlock ∧ k_ ≠ gb647) (Kd.S_N (Kd.S_bound ho0)) (fun k_ hk_ => ⟨(Kd.fresh' (Kd.R_lt (Kd.rup HO_6.out)) k_ hk_.2.1), (Kd.fresh' (Kd.N_lt Z29) k_ hk_.2.1), (Kd.freshB (g := gb647) (o := .cells #[.int .i64 t642, .slice Ao10 t643.length co10] 27 (0, 0)) (bup BK647.out) k_ hk_.2.1)⟩)) (below_size (hset HB.out))); have n3_ := ZA (blk_below (bup BK647.out) hb); have n4_ := ZA (below_step (hset HB.out) hb); clear HO_6 HO_648001 BK647 HB; have HO_6 := n0_; have HO_648001 := n1_; have HO663 := n2_; have BK647 := n3_; have HB := n4_; clear n0_ n1_ n2_ n3_ n4_; (try clear hb); (try clear hb2); (try clear hk); (try clear hi); (try clear ho0)) | ((with_reducible refine gate_dst (N := 10) rfl ?_); (try (refine gate_guard Z94 ?_; dsimp only)); refine box_event ?hg (N := 10) ?hd (cs := #[.int .i64 0, .slice none 0 0]) (t := 27) ?hr ?_; (case hd => rfl); (case hg => rfl); (case hr => first | (go_simp; done) | (go_simp; rfl)); intro gb665 hg w72 hbox hb; have n0_ := ZA (Kd.R_below (Kd.rup HO_6.out) hb); have n1_ := ZA (Kd.N_below (Kd.N_elderB Z29 gb665 (Nat.le_of_eq hg.symm)) hb); have n2_ := ZA (Kd.N_below (Kd.N_elderB Z97 gb665 (Nat.le_of_eq hg.symm)) hb); have n3_ := ZA (blk_below (bup BK647.out) hb); have n4_ := ZA (below_step (hset HB.out) hb); have n5_ := ZA (hbox); have n6_ := Geq.mk ((Z34 : w.heap.size ≤ gb665)); have n7_ := Geq.mk ((Z34 : w.heap.size ≤ gb665)); have n8_ := Neq.mk ((Z62 : gb647 ≠ gb665)); have n9_ := Neq.mk ((Z63 : gb665 ≠ gb647)); clear HO_6 HO_648001 HO663 BK647 HB; have HO_6 := n0_; have HO_648001 := n1_; have HO663 := n2_; have BK647 := n3_; have HB := n4_; have BK665 := n5_; have GW665 := n6_; have GE665 := n7_; have NB647_665 := n8_; have NB665_647 := n9_; clear n0_ n1_ n2_ n3_ n4_ n5_ n6_ n7_ n8_ n9_ hb hbox hg; have hnb73 := NB665_647.out; have hnc73 := NB647_665.out; obtain ⟨hcz74_0, hcz74_1⟩ := blk_cells2 BK665.out; obtain ⟨hfz74_0, hfz74_1⟩ := blk_frozens2 BK665.out; obtain ⟨Ao75, co75, eo75⟩ := Kd.N_slice HO663.out; subst eo75) | ((with_reducible refine gate_store (t := 27) (p := 10) rfl ?_); refine store_event (t := 27) (p := 10) (v := ?vo_w76) (w1 := ((w72.setCell ⟨gb665, 0, none⟩ (.int .i64 t660)).setCell ⟨gb665, 1, none⟩ (.slice Ao75 t661.length co75))) ?hg ?ho ?hn ?hr ?_; (case ho => rfl); (case hg => rfl); (case hn => rfl); (case hr => first | (go_simp; done) | (go_simp; rfl)); intro w76 hw; have n0_ : Aside0 (Kd.R (Kd.int .u8) 5 w76 w.heap.size (fun _ => True) (.slice Ao70 y650.length co70) y650) := ⟨(by rw [hw]; exact (by exact Kd.rup (Kd.R_mono (Kd.R_far (p := ⟨gb665, 1, none⟩) (Kd.R_far (p := ⟨gb665, 0, none⟩) (Kd.R_types HO_6.out BK665.out Z25) (fun _ hk => hk.2) (.int .i64 t660)) (fun _ hk => hk.2) (.slice Ao75 t661.length co75)) (fun _ hk => trivial))))⟩; have n1_ : Aside0 (Kd.N (Kd.slice 5 (Kd.int .u8)) 36 w76 w.heap.size (fun k_ => some k_ ≠ (.slice Ao70 y650.length co70 : Value).ownBlock ∧ some k_ ≠ (.slice Ao75 t661.length co75 : Value).ownBlock ∧ k_ ≠ gb647 ∧ k_ ≠ gb665) (.slice Ao10 t643.length co10) t643) := ⟨(by rw [hw]; exact (by (with_reducible repeat (first | apply Kd.N_alloc | apply Kd.N_drewN | apply Kd.N_drew)); exact Kd.N_mono (Kd.N_far (p := ⟨gb665, 1, none⟩) (Kd.N_far (p := ⟨gb665, 0, none⟩) (Kd.N_mono HO_648001.out (fun k_ hk => (⟨hk, hk.2⟩ : _ ∧ k_ ≠ gb665))) (fun _ hk => hk.2) (.int .i64 t660)) (fun _ hk => hk.2) (.slice Ao75 t661.length co75)) (fun _ hk => ⟨hk.1.1.1.1, ⟨hk.1.1.2, ⟨hk.1.1.1.2, hk.1.2⟩⟩⟩)))⟩; have n2_ : Aside0 (Kd.N (Kd.slice 5 (Kd.int .u8)) 36 w76 w.heap.size (fun k_ => some k_ ≠ (.slice Ao70 y650.length co70 : Value).ownBlock ∧ some k_ ≠ (.slice Ao10 t643.length co10 : Value).ownBlock ∧ k_ ≠ gb647 ∧ k_ ≠ gb665) (.slice Ao75 t661.length co75) t661) := ⟨(by rw [hw]; exact (by (with_reducible repeat (first | apply Kd.N_alloc | apply Kd.N_drewN | apply Kd.N_drew)); exact Kd.N_mono (Kd.N_far (p := ⟨gb665, 1, none⟩) (Kd.N_far (p := ⟨gb665, 0, none⟩) (Kd.N_mono HO663.out (fun k_ hk => (⟨hk, hk.2⟩ : _ ∧ k_ ≠ gb665))) (fun _ hk => hk.2) (.int .i64 t660)) (fun _ hk => hk.2) (.slice Ao75 t661.length co75)) (fun _ hk => ⟨hk.1.1.1, ⟨hk.1.1.2.1, ⟨hk.1.1.2.2, hk.1.2⟩⟩⟩)))⟩; have n3_ : Aside0 (w76.heap[gb647]? = some (.cells #[.int .i64 t642, .slice Ao10 t643.length co10] 27 (0, 0))) := ⟨(by rw [hw]; exact (bput BK647.out))⟩; have n4_ : Aside0 (w76.heap[gb665]? = some (.cells #[.int .i64 t660, .slice Ao75 t661.length co75] 27 (0, 0))) := ⟨(by rw [hw]; exact (bput BK665.out))⟩; have n5_ : Aside0 (Below w.heap.size w w76) := ⟨(by rw [hw]; exact (hset HB.out))⟩; clear hw HO_6 HO_648001 HO663 BK647 BK665 HB; have HO_6 := n0_; have HO_648001 := n1_; have HO663 := n2_; have BK647 := n3_; have BK665 := n4_; have HB := n5_; clear n0_ n1_ n2_ n3_ n4_ n5_; obtain ⟨hcz77_0, hcz77_1⟩ := blk_cells2 BK647.out; obtain ⟨hfz77_0, hfz77_1⟩ := blk_frozens2 BK647.out; have p666 : 0 ≤ (x9_2 : Int) := of_decide_eq_true Z10; have q666 : x9_2 < (t643.length : Int) := of_decide_eq_true Z10; obtain ⟨ad666, A666_0, c666_0, e666, hx666_0, hl666_0, hi666_0⟩ := at_L1 (Kd.N_reads' HO_648001.out).2.2 x9_2 p666 q666; cases e666; obtain ⟨ce666, hce666, hMe666, hcc666⟩ := Kd.N_get HO_648001.out [] x9_2 p666 (by first | exact q666 | exact of_decide_eq_true Z10 | (have e_ := (Kd.N_reads' HO_648001.out).1; omega)); obtain ⟨ua666_0, uc666_0, rfl, ul666_0, ge666_0⟩ := Kd.FK_slice_open hMe666; have hv666_0 := hcc666 0 _ rfl; rw [Nat.add_zero, show ((Kd.slice 5 (Kd.int .u8))).sz = 1 from rfl, Nat.mul_one] at hv666_0; replace hv666_0 := Option.some.inj (hv666_0.symm.trans hx666_0); injection hv666_0 with hva_ hvn_ hvc_; rw [hva_] at ge666_0; rw [hvc_] at ul666_0; have HL666_0 := ZA (show Kd.V (Kd.int .u8) 5 _ w.heap.size _ _ (rd_L1 t643 x9_2) from Kd.V_mk ul666_0 ge666_0); clear hva_ hvn_ hvc_ ge666_0 ul666_0 hcc666 hce666; have HR666_0 := ZA hi666_0; have HC666_0 := ZA hl666_0; clear hi666_0 hl666_0; replace p666 := eq_true p666; replace q666 := eq_true q666))
                go_roundg k2
                case measure => have := HJ5.out; have := HK2.out; omega
                case rel => exact ⟨(wrap64 (x9_2 + 1)), Z7, H', ⟨by have := HJ5.out; have := HK2.out; omega⟩, ⟨by exact Kd.rup HO_6.out⟩, ⟨by (with_reducible repeat (first | apply Kd.N_alloc | apply Kd.N_drewN | apply Kd.N_drew)); exact Kd.N_mono HO_648001.out (fun _ hk => ⟨hk.1, hk.2.2.1⟩)⟩, ⟨by exact bup BK647.out⟩, ⟨hset HB.out⟩⟩
              ·rw [if_neg c67] at H
               have c67b0 : (((rd_L1 t643 x9_2).length : Int) == 0) = false := beq_eq_false_iff_ne.mpr c67
               have c67b1 : (((rd_L1 t643 x9_2).length : Int) != 0) = true := bne_iff_ne.mpr c67
               have c67b2 : ¬ ((rd_L1 t643 x9_2) = []) := fun h_ => c67 (by rw [h_]; rfl)
               have H' := ZA H
               clear H
               obtain ⟨hcz78_0, hcz78_1⟩ := blk_cells2 BK647.out
               obtain ⟨hfz78_0, hfz78_1⟩ := blk_frozens2 BK647.out
               obtain ⟨Ao79, co79, eo79⟩ := Kd.R_slice HO_6.out
               subst eo79
               go_wp2_with (first | ((with_reducible refine gate_callee (f := 24) rfl ?_); refine goesL_ (some 81) rfl rfl Try.func24 Z12 rfl #[.agg #[.int .i64 t642, .slice Ao10 t643.length co10], .int .i64 x9_2, .slice Ao79 y650.length co79, .int .i64 5] rfl Z1 ?_; (with_reducible refine (impl_PagePut.calls k2 t642 _ _ t643 x9_2 _ _ y650 5 t660 t661 t664 _ ?side1 ?side2 ?side3 ?side4 A54.out).mono ?_); (case side1 => repeat (first | exact (Kd.N_reads' HO_648001.out).2.2 | (with_reducible refine Kd.C_alloc ?_ _) | (with_reducible refine Kd.C_drewN ?_ _) | (with_reducible refine Kd.C_drew ?_))); (case side2 => exact (Kd.N_reads' HO_648001.out).2.1); (case side3 => repeat (first | exact (Kd.R_reads' HO_6.out).2.2 | (with_reducible refine Kd.C_alloc ?_ _) | (with_reducible refine Kd.C_drewN ?_ _) | (with_reducible refine Kd.C_drew ?_))); (case side4 => exact (Kd.R_reads' HO_6.out).2.1); rintro e w80 ⟨v662, rfl, ho0, hb⟩; refine ⟨_, rfl, ?_⟩; have n0_ := ZA (Kd.R_below (Kd.rup HO_6.out) hb); have n1_ := ZA (Kd.N_elder' Z29 Z72 hb); have n2_ := ZA (Kd.N_lower (Kd.N_mono (ok' := fun k_ => some k_ ≠ (.slice Ao79 y650.length co79 : Value).ownBlock ∧ some k_ ≠ (.slice Ao10 t643.length co10 : Value).ownBlock ∧ k_ ≠ gb647) (Kd.S_N (Kd.S_bound ho0)) (fun k_ hk_ => ⟨(Kd.fresh' (Kd.R_lt (Kd.rup HO_6.out)) k_ hk_.2.1), (Kd.fresh' (Kd.N_lt Z29) k_ hk_.2.1), (Kd.freshB (g := gb647) (o := .cells #[.int .i64 t642, .slice Ao10 t643.length co10] 27 (0, 0)) (bup BK647.out) k_ hk_.2.1)⟩)) (below_size (hset HB.out))); have n3_ := ZA (blk_below (bup BK647.out) hb); have n4_ := ZA (below_step (hset HB.out) hb); clear HO_6 HO_648001 BK647 HB; have HO_6 := n0_; have HO_648001 := n1_; have HO663 := n2_; have BK647 := n3_; have HB := n4_; clear n0_ n1_ n2_ n3_ n4_; (try clear hb); (try clear hb2); (try clear hk); (try clear hi); (try clear ho0)) | ((with_reducible refine gate_dst (N := 10) rfl ?_); (try (refine gate_guard Z94 ?_; dsimp only)); refine box_event ?hg (N := 10) ?hd (cs := #[.int .i64 0, .slice none 0 0]) (t := 27) ?hr ?_; (case hd => rfl); (case hg => rfl); (case hr => first | (go_simp; done) | (go_simp; rfl)); intro gb665 hg w81 hbox hb; have n0_ := ZA (Kd.R_below (Kd.rup HO_6.out) hb); have n1_ := ZA (Kd.N_below (Kd.N_elderB Z29 gb665 (Nat.le_of_eq hg.symm)) hb); have n2_ := ZA (Kd.N_below (Kd.N_elderB Z97 gb665 (Nat.le_of_eq hg.symm)) hb); have n3_ := ZA (blk_below (bup BK647.out) hb); have n4_ := ZA (below_step (hset HB.out) hb); have n5_ := ZA (hbox); have n6_ := Geq.mk ((Z34 : w.heap.size ≤ gb665)); have n7_ := Geq.mk ((Z34 : w.heap.size ≤ gb665)); have n8_ := Neq.mk ((Z62 : gb647 ≠ gb665)); have n9_ := Neq.mk ((Z63 : gb665 ≠ gb647)); clear HO_6 HO_648001 HO663 BK647 HB; have HO_6 := n0_; have HO_648001 := n1_; have HO663 := n2_; have BK647 := n3_; have HB := n4_; have BK665 := n5_; have GW665 := n6_; have GE665 := n7_; have NB647_665 := n8_; have NB665_647 := n9_; clear n0_ n1_ n2_ n3_ n4_ n5_ n6_ n7_ n8_ n9_ hb hbox hg; have hnb82 := NB665_647.out; have hnc82 := NB647_665.out; obtain ⟨hcz83_0, hcz83_1⟩ := blk_cells2 BK665.out; obtain ⟨hfz83_0, hfz83_1⟩ := blk_frozens2 BK665.out; obtain ⟨Ao84, co84, eo84⟩ := Kd.N_slice HO663.out; subst eo84) | ((with_reducible refine gate_store (t := 27) (p := 10) rfl ?_); refine store_event (t := 27) (p := 10) (v := ?vo_w85) (w1 := ((w81.setCell ⟨gb665, 0, none⟩ (.int .i64 t660)).setCell ⟨gb665, 1, none⟩ (.slice Ao84 t661.length co84))) ?hg ?ho ?hn ?hr ?_; (case ho => rfl); (case hg => rfl); (case hn => rfl); (case hr => first | (go_simp; done) | (go_simp; rfl)); intro w85 hw; have n0_ : Aside0 (Kd.R (Kd.int .u8) 5 w85 w.heap.size (fun _ => True) (.slice Ao79 y650.length co79) y650) := ⟨(by rw [hw]; exact (by exact Kd.rup (Kd.R_mono (Kd.R_far (p := ⟨gb665, 1, none⟩) (Kd.R_far (p := ⟨gb665, 0, none⟩) (Kd.R_types HO_6.out BK665.out Z25) (fun _ hk => hk.2) (.int .i64 t660)) (fun _ hk => hk.2) (.slice Ao84 t661.length co84)) (fun _ hk => trivial))))⟩; have n1_ : Aside0 (Kd.N (Kd.slice 5 (Kd.int .u8)) 36 w85 w.heap.size (fun k_ => some k_ ≠ (.slice Ao79 y650.length co79 : Value).ownBlock ∧ some k_ ≠ (.slice Ao84 t661.length co84 : Value).ownBlock ∧ k_ ≠ gb647 ∧ k_ ≠ gb665) (.slice Ao10 t643.length co10) t643) := ⟨(by rw [hw]; exact (by (with_reducible repeat (first | apply Kd.N_alloc | apply Kd.N_drewN | apply Kd.N_drew)); exact Kd.N_mono (Kd.N_far (p := ⟨gb665, 1, none⟩) (Kd.N_far (p := ⟨gb665, 0, none⟩) (Kd.N_mono HO_648001.out (fun k_ hk => (⟨hk, hk.2⟩ : _ ∧ k_ ≠ gb665))) (fun _ hk => hk.2) (.int .i64 t660)) (fun _ hk => hk.2) (.slice Ao84 t661.length co84)) (fun _ hk => ⟨hk.1.1.1.1, ⟨hk.1.1.2, ⟨hk.1.1.1.2, hk.1.2⟩⟩⟩)))⟩; have n2_ : Aside0 (Kd.N (Kd.slice 5 (Kd.int .u8)) 36 w85 w.heap.size (fun k_ => some k_ ≠ (.slice Ao79 y650.length co79 : Value).ownBlock ∧ some k_ ≠ (.slice Ao10 t643.length co10 : Value).ownBlock ∧ k_ ≠ gb647 ∧ k_ ≠ gb665) (.slice Ao84 t661.length co84) t661) := ⟨(by rw [hw]; exact (by (with_reducible repeat (first | apply Kd.N_alloc | apply Kd.N_drewN | apply Kd.N_drew)); exact Kd.N_mono (Kd.N_far (p := ⟨gb665, 1, none⟩) (Kd.N_far (p := ⟨gb665, 0, none⟩) (Kd.N_mono HO663.out (fun k_ hk => (⟨hk, hk.2⟩ : _ ∧ k_ ≠ gb665))) (fun _ hk => hk.2) (.int .i64 t660)) (fun _ hk => hk.2) (.slice Ao84 t661.length co84)) (fun _ hk => ⟨hk.1.1.1, ⟨hk.1.1.2.1, ⟨hk.1.1.2.2, hk.1.2⟩⟩⟩)))⟩; have n3_ : Aside0 (w85.heap[gb647]? = some (.cells #[.int .i64 t642, .slice Ao10 t643.length co10] 27 (0, 0))) := ⟨(by rw [hw]; exact (bput BK647.out))⟩; have n4_ : Aside0 (w85.heap[gb665]? = some (.cells #[.int .i64 t660, .slice Ao84 t661.length co84] 27 (0, 0))) := ⟨(by rw [hw]; exact (bput BK665.out))⟩; have n5_ : Aside0 (Below w.heap.size w w85) := ⟨(by rw [hw]; exact (hset HB.out))⟩; clear hw HO_6 HO_648001 HO663 BK647 BK665 HB; have HO_6 := n0_; have HO_648001 := n1_; have HO663 := n2_; have BK647 := n3_; have BK665 := n4_; have HB := n5_; clear n0_ n1_ n2_ n3_ n4_ n5_; obtain ⟨hcz86_0, hcz86_1⟩ := blk_cells2 BK647.out; obtain ⟨hfz86_0, hfz86_1⟩ := blk_frozens2 BK647.out; have p666 : 0 ≤ (x9_2 : Int) := of_decide_eq_true Z10; have q666 : x9_2 < (t643.length : Int) := of_decide_eq_true Z10; obtain ⟨ad666, A666_0, c666_0, e666, hx666_0, hl666_0, hi666_0⟩ := at_L1 (Kd.N_reads' HO_648001.out).2.2 x9_2 p666 q666; cases e666; obtain ⟨ce666, hce666, hMe666, hcc666⟩ := Kd.N_get HO_648001.out [] x9_2 p666 (by first | exact q666 | exact of_decide_eq_true Z10 | (have e_ := (Kd.N_reads' HO_648001.out).1; omega)); obtain ⟨ua666_0, uc666_0, rfl, ul666_0, ge666_0⟩ := Kd.FK_slice_open hMe666; have hv666_0 := hcc666 0 _ rfl; rw [Nat.add_zero, show ((Kd.slice 5 (Kd.int .u8))).sz = 1 from rfl, Nat.mul_one] at hv666_0; replace hv666_0 := Option.some.inj (hv666_0.symm.trans hx666_0); injection hv666_0 with hva_ hvn_ hvc_; rw [hva_] at ge666_0; rw [hvc_] at ul666_0; have HL666_0 := ZA (show Kd.V (Kd.int .u8) 5 _ w.heap.size _ _ (rd_L1 t643 x9_2) from Kd.V_mk ul666_0 ge666_0); clear hva_ hvn_ hvc_ ge666_0 ul666_0 hcc666 hce666; have HR666_0 := ZA hi666_0; have HC666_0 := ZA hl666_0; clear hi666_0 hl666_0; replace p666 := eq_true p666; replace q666 := eq_true q666))
               go_roundg k2
               case measure => have := HJ5.out; have := HK2.out; omega
               case rel => exact ⟨(wrap64 (x9_2 + 1)), Z7, H', ⟨by have := HJ5.out; have := HK2.out; omega⟩, ⟨by exact Kd.rup HO_6.out⟩, ⟨by (with_reducible repeat (first | apply Kd.N_alloc | apply Kd.N_drewN | apply Kd.N_drew)); exact Kd.N_mono HO_648001.out (fun _ hk => ⟨hk.1, hk.2.2.1⟩)⟩, ⟨by exact bup BK647.out⟩, ⟨hset HB.out⟩⟩
             ·rw [if_neg c66] at H
              exact absurd H Z44
            ·rw [if_neg c65] at H
             exact absurd H Z44
          ·rw [if_neg c53] at H
           have c53b0 : decide (x9_2 ≤ (t643.length : Int)) = false := decide_eq_false c53
           clear c53
           obtain rfl := Option.some.inj H
           obtain ⟨hcz87_0, hcz87_1⟩ := blk_cells2 BK647.out
           obtain ⟨hfz87_0, hfz87_1⟩ := blk_frozens2 BK647.out
           go_wp2
           go_ret
           exact ⟨by first | rfl | (simp [errW_none, errW_some] <;> rfl) | (simp [*, errW_none, errW_some] <;> rfl), hset HB.out⟩
      ·rw [if_neg c23] at H
       exact absurd H Z44
     ·rw [if_neg c22] at H
      exact absurd H Z44
def laws_FnPlaces.Pure : Prop := ∀ (l0 : List Int), l0.length ≤ maxLen → l0.length * 1 ≤ 140737488351232 → (∀ x ∈ l0, (Lit.int .u8 x).wf = true) → ∃ k, laws_FnPlaces.f k l0 = some true
theorem laws_FnPlaces.walk (P : laws_FnPlaces.Pure) (a0 : Option Addr) (len0 cap0 : Nat) (z0 : List Int) (w : World) (w0 : (a0 = none ∧ len0 = 0 ∧ cap0 = 0 ∧ z0 = []) ∨ ∃ x, a0 = some x ∧ len0 ≤ cap0 ∧ cap0 ≤ maxLen ∧ z0.length = cap0 ∧ (∀ i, i < z0.length → w.cell? (x.add i) = some (.int .u8 (z0.getD i 0))) ∧ ∀ n ∈ z0, (Lit.int .u8 n).wf = true) (y0 : len0 * 1 ≤ 140737488351232) :
  Calls Try.prog 10 #[.slice a0 len0 cap0] w fun e w' => e = .returned (.bool true) ∧ Below w.heap.size w w' := by
 obtain ⟨l0, rfl, hr0, hm0, hw0, hc0⟩ := ReadsInt.ofRowC w0
 obtain ⟨k, h⟩ := P l0 hm0 y0 hw0
 refine (laws_FnPlaces.calls k _ _ l0 true w (Kd.C_of_reads (d := (0 : Int)) (h1 := fun _ => rfl) hr0) hc0 h).mono ?_
 rintro e w' ⟨rfl, hd⟩
 exact ⟨rfl, hd⟩
end Go.Proofs.Ytokpniagnbaflaa.PFnPlaces
