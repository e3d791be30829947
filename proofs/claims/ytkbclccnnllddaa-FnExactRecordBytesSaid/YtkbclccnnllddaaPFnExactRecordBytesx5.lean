-- By this session's own program (wip/xprint.py), over the kit's print.
import Derived.Test.YtkbclccnnllddaaPFnExactRecordBytesx0
import Derived.Test.YtkbclccnnllddaaPFnExactRecordBytesx3
import Derived.Test.YtkbclccnnllddaaPFnExactRecordBytesx4
namespace Go.Proofs.Ytkbclccnnllddaa.PFnExactRecordBytes
open Go.RowKit Go.Proofs.YtkbclccnnllddaaW.PrintWords Go.Proofs.YtkbclccnnllddaaW.PrintLast Go.Proofs.YtkbclccnnllddaaW.PrintMore
attribute [local go_sem] max2_int min2_int max_two min_two max_three min_three max_four min_four   -- for this text's walks alone
attribute [local go_sem high] fl_eql fl_neq fl_lss fl_leq fl_gtr fl_geq fl_add fl_sub fl_mul fl_quo fl_neg fl_ofInt fl_toInt fl_store
set_option linter.unusedVariables false
set_option linter.unusedSimpArgs false

/-! ### impl_RecordOk: function 24 -/
def impl_RecordOk.j0 : Nat → Int → Bool → Int → Int → Int → Int → Int → List Int → Option (Bool)
  | 0, _, _, _, _, _, _, _, _ => none
  | k + 1, x3, x4, x210000, x210001, x210002, x210003, x210004, x210005 => if x210000 = 1 then ((impl_isPage.f x210003).bind fun t213 => (if t213 = true then (if x3 = 256 then (if x210002 = 0 then (some (x210004 == 0)) else (some false)) else (some false)) else (some false))) else (if x210000 = 2 then ((impl_isXid.f x210002).bind fun t214 => (if t214 = true then (if x4 = true then ((impl_within.f x3 1 92).bind fun t215 => (some t215)) else (some false)) else (some false))) else (if x210000 = 3 then ((impl_isXid.f x210002).bind fun t216 => (if t216 = true then (if x4 = true then (some (x3 == 0)) else (some false)) else (some false))) else (if x210000 = 4 then (if x210002 = 0 then (if x4 = true then (some (x3 == 0)) else (some false)) else (some false)) else (if x210000 = 5 then ((impl_isXid.f x210002).bind fun t217 => (if t217 = true then (if x210003 = 0 then (if x210004 = 0 then (some (x3 == 0)) else (some false)) else (some false)) else (some false))) else (some false)))))
def impl_RecordOk.f (k : Nat) (a0_0 : Int) (a0_1 : Int) (a0_2 : Int) (a0_3 : Int) (a0_4 : Int) (l0_5 : List Int) : Option (Bool) := (impl_isLsn.f a0_1).bind fun t210 => (if t210 = true then ((impl_isPage.f a0_3).bind fun t211 => (if t211 = true then ((impl_isSlot.f a0_4).bind fun t212 => (impl_RecordOk.j0 k (l0_5.length : Int) t212 a0_0 a0_1 a0_2 a0_3 a0_4 l0_5)) else (impl_RecordOk.j0 k (l0_5.length : Int) false a0_0 a0_1 a0_2 a0_3 a0_4 l0_5))) else (some false))
theorem impl_RecordOk.mono_l : ∀ k, (∀ y0 y1 y2 y3 y4 y5 y6 y7, LeO (impl_RecordOk.j0 k y0 y1 y2 y3 y4 y5 y6 y7) (impl_RecordOk.j0 (k + 1) y0 y1 y2 y3 y4 y5 y6 y7))
  | 0 => fun _ _ _ _ _ _ _ _ r h => by simp [impl_RecordOk.j0] at h
  | k + 1 => by
    have ih0 := impl_RecordOk.mono_l k
    · intro y0 y1 y2 y3 y4 y5 y6 y7
      unfold impl_RecordOk.j0
      repeat' first
      | (with_reducible exact ih0 _ _ _ _ _ _ _ _)
      | (with_reducible exact LeO.refl _)
      | (with_reducible exact LeO.none _)
      | (with_reducible refine LeO.ite ?_ ?_)
      | (with_reducible refine LeO.bind ?_ (fun _ => ?_))
      | exact ih0 _ _ _ _ _ _ _ _
      | exact LeO.none _
      | refine LeO.ite ?_ ?_
      | refine LeO.bind ?_ (fun _ => ?_)
theorem impl_RecordOk.mono : ∀ a0 a1 a2 a3 a4 a5 k, LeO (impl_RecordOk.f k a0 a1 a2 a3 a4 a5) (impl_RecordOk.f (k + 1) a0 a1 a2 a3 a4 a5) := by
  intro a0 a1 a2 a3 a4 a5 k
  have ih0 := impl_RecordOk.mono_l k
  unfold impl_RecordOk.f
  repeat' first
      | (with_reducible exact ih0 _ _ _ _ _ _ _ _)
      | (with_reducible exact LeO.refl _)
      | (with_reducible exact LeO.none _)
      | (with_reducible refine LeO.ite ?_ ?_)
      | (with_reducible refine LeO.bind ?_ (fun _ => ?_))
      | exact ih0 _ _ _ _ _ _ _ _
      | exact LeO.none _
      | refine LeO.ite ?_ ?_
      | refine LeO.bind ?_ (fun _ => ?_)
set_option maxHeartbeats 8000000 in
set_option maxRecDepth 100000 in
theorem impl_RecordOk.calls (k : Nat) (a0_0 : Int) (a0_1 : Int) (a0_2 : Int) (a0_3 : Int) (a0_4 : Int) (A0_5 : Option Addr) (c0_5 : Nat) (l0_5 : List Int) (r : Bool) (w : World) (hr0_5 : Kd.C (Kd.int .u8) w A0_5 l0_5.length l0_5) (hc0_5 : l0_5.length ≤ c0_5) (h : impl_RecordOk.f k a0_0 a0_1 a0_2 a0_3 a0_4 l0_5 = some r) :
    Calls Try.prog 24 #[.agg #[.int .i64 a0_0, .int .i64 a0_1, .int .i64 a0_2, .int .i64 a0_3, .int .i64 a0_4, .slice A0_5 l0_5.length c0_5]] w fun e w' => e = .returned (.bool r) ∧ Below w.heap.size w w' := by
  have hu37 := Try.underlying37
  have HR0_5 := Aside0.mk hr0_5
  have HC0_5 := Aside0.mk hc0_5
  clear hr0_5 hc0_5
  have HB := Aside0.mk (Below.refl w.heap.size w)
  have H : ((impl_isLsn.f a0_1).bind fun t210 => (if t210 = true then ((impl_isPage.f a0_3).bind fun t211 => (if t211 = true then ((impl_isSlot.f a0_4).bind fun t212 => (impl_RecordOk.j0 k (l0_5.length : Int) t212 a0_0 a0_1 a0_2 a0_3 a0_4 l0_5)) else (impl_RecordOk.j0 k (l0_5.length : Int) false a0_0 a0_1 a0_2 a0_3 a0_4 l0_5))) else (some false))) = some r := h
  clear h
  replace H := Option.bind_eq_some_iff.mp H
  obtain ⟨t210, A20, H⟩ := H
  replace H : (if t210 = true then ((impl_isPage.f a0_3).bind fun t211 => (if t211 = true then ((impl_isSlot.f a0_4).bind fun t212 => (impl_RecordOk.j0 k (l0_5.length : Int) t212 a0_0 a0_1 a0_2 a0_3 a0_4 l0_5)) else (impl_RecordOk.j0 k (l0_5.length : Int) false a0_0 a0_1 a0_2 a0_3 a0_4 l0_5))) else (some false)) = some r := H
  have A2 := Aside0.mk A20
  clear A20
  by_cases c3 : t210 = true
  · subst c3
    have H1 : ((impl_isPage.f a0_3).bind fun t211 => (if t211 = true then ((impl_isSlot.f a0_4).bind fun t212 => (impl_RecordOk.j0 k (l0_5.length : Int) t212 a0_0 a0_1 a0_2 a0_3 a0_4 l0_5)) else (impl_RecordOk.j0 k (l0_5.length : Int) false a0_0 a0_1 a0_2 a0_3 a0_4 l0_5))) = some r := by rw [if_pos rfl] at H; exact H
    clear H
    have H := H1
    clear H1
    have HC4 := Aside0.mk H
    clear H
    go_enter Try.func24, Try.ntmps24
    go_upto_region 3 with (first | ((with_reducible refine gate_dst (N := 1) rfl ?_); refine box_event ?hg (N := 1) ?hd (cs := #[.int .i64 a0_0, .int .i64 a0_1, .int .i64 a0_2, .int .i64 a0_3, .int .i64 a0_4, .slice A0_5 l0_5.length c0_5]) (t := 37) ?hr ?_; (case hd => rfl); (case hg => rfl); (case hr => first | (go_simp; done) | (go_simp; rfl)); intro gb209 hg w5 hbox hb; have n0_ := Aside0.mk (below_step (by repeat (first | (with_reducible first | exact HB.out | apply below_alloc | apply pw_below_drewN | apply below_drew1) | exact HB.out)) hb); have n1_ := Aside0.mk (hbox); have n2_ := Aside0.mk ((by rw [hg]; exact (below_size (by repeat (first | (with_reducible first | exact HB.out | apply below_alloc | apply pw_below_drewN | apply below_drew1) | exact HB.out))) : w.heap.size ≤ gb209)); have n3_ := Aside0.mk ((by rw [hg]; exact (below_size (by repeat (first | (with_reducible first | exact HB.out | apply below_alloc | apply pw_below_drewN | apply below_drew1) | exact HB.out))) : w.heap.size ≤ gb209)); clear HB; have HB := n0_; have BK209 := n1_; have GW209 := n2_; have GE209 := n3_; clear n0_ n1_ n2_ n3_; clear hb hbox hg; have hcz6_0 : w5.cell? ⟨gb209, 0, none⟩ = some (.int .i64 a0_0) := (blk_cell BK209.out 0).trans rfl; have hcz6_1 : w5.cell? ⟨gb209, 1, none⟩ = some (.int .i64 a0_1) := (blk_cell BK209.out 1).trans rfl; have hcz6_2 : w5.cell? ⟨gb209, 2, none⟩ = some (.int .i64 a0_2) := (blk_cell BK209.out 2).trans rfl; have hcz6_3 : w5.cell? ⟨gb209, 3, none⟩ = some (.int .i64 a0_3) := (blk_cell BK209.out 3).trans rfl; have hcz6_4 : w5.cell? ⟨gb209, 4, none⟩ = some (.int .i64 a0_4) := (blk_cell BK209.out 4).trans rfl; have hcz6_5 : w5.cell? ⟨gb209, 5, none⟩ = some (.slice A0_5 l0_5.length c0_5) := (blk_cell BK209.out 5).trans rfl; have hfz6_0 := blk_frozen BK209.out 0; have hfz6_1 := blk_frozen BK209.out 1; have hfz6_2 := blk_frozen BK209.out 2; have hfz6_3 := blk_frozen BK209.out 3; have hfz6_4 := blk_frozen BK209.out 4; have hfz6_5 := blk_frozen BK209.out 5) | (go_at_call 50; (with_reducible refine (impl_isLsn.calls a0_1 true _ A2.out).mono ?_); rintro e w' ⟨rfl, ⟨nd, rfl⟩⟩; (try first | exact ⟨rfl, _, World.drewN_drewN _ _ _⟩ | exact ⟨rfl, _, Eq.trans (World.drewN_drewN _ _ _) (congrArg (World.drewN _) (Nat.add_assoc _ _ _))⟩)))
    repeat (go_quiet (first | ((with_reducible refine gate_dst (N := 1) rfl ?_); refine box_event ?hg (N := 1) ?hd (cs := #[.int .i64 a0_0, .int .i64 a0_1, .int .i64 a0_2, .int .i64 a0_3, .int .i64 a0_4, .slice A0_5 l0_5.length c0_5]) (t := 37) ?hr ?_; (case hd => rfl); (case hg => rfl); (case hr => first | (go_simp; done) | (go_simp; rfl)); intro gb209 hg w5 hbox hb; have n0_ := Aside0.mk (below_step (by repeat (first | (with_reducible first | exact HB.out | apply below_alloc | apply pw_below_drewN | apply below_drew1) | exact HB.out)) hb); have n1_ := Aside0.mk (hbox); have n2_ := Aside0.mk ((by rw [hg]; exact (below_size (by repeat (first | (with_reducible first | exact HB.out | apply below_alloc | apply pw_below_drewN | apply below_drew1) | exact HB.out))) : w.heap.size ≤ gb209)); have n3_ := Aside0.mk ((by rw [hg]; exact (below_size (by repeat (first | (with_reducible first | exact HB.out | apply below_alloc | apply pw_below_drewN | apply below_drew1) | exact HB.out))) : w.heap.size ≤ gb209)); clear HB; have HB := n0_; have BK209 := n1_; have GW209 := n2_; have GE209 := n3_; clear n0_ n1_ n2_ n3_; clear hb hbox hg; have hcz6_0 : w5.cell? ⟨gb209, 0, none⟩ = some (.int .i64 a0_0) := (blk_cell BK209.out 0).trans rfl; have hcz6_1 : w5.cell? ⟨gb209, 1, none⟩ = some (.int .i64 a0_1) := (blk_cell BK209.out 1).trans rfl; have hcz6_2 : w5.cell? ⟨gb209, 2, none⟩ = some (.int .i64 a0_2) := (blk_cell BK209.out 2).trans rfl; have hcz6_3 : w5.cell? ⟨gb209, 3, none⟩ = some (.int .i64 a0_3) := (blk_cell BK209.out 3).trans rfl; have hcz6_4 : w5.cell? ⟨gb209, 4, none⟩ = some (.int .i64 a0_4) := (blk_cell BK209.out 4).trans rfl; have hcz6_5 : w5.cell? ⟨gb209, 5, none⟩ = some (.slice A0_5 l0_5.length c0_5) := (blk_cell BK209.out 5).trans rfl; have hfz6_0 := blk_frozen BK209.out 0; have hfz6_1 := blk_frozen BK209.out 1; have hfz6_2 := blk_frozen BK209.out 2; have hfz6_3 := blk_frozen BK209.out 3; have hfz6_4 := blk_frozen BK209.out 4; have hfz6_5 := blk_frozen BK209.out 5) | (go_at_call 50; (with_reducible refine (impl_isLsn.calls a0_1 true _ A2.out).mono ?_); rintro e w' ⟨rfl, ⟨nd, rfl⟩⟩; (try first | exact ⟨rfl, _, World.drewN_drewN _ _ _⟩ | exact ⟨rfl, _, Eq.trans (World.drewN_drewN _ _ _) (congrArg (World.drewN _) (Nat.add_assoc _ _ _))⟩))); go_upto_region 3 with (first | ((with_reducible refine gate_dst (N := 1) rfl ?_); refine box_event ?hg (N := 1) ?hd (cs := #[.int .i64 a0_0, .int .i64 a0_1, .int .i64 a0_2, .int .i64 a0_3, .int .i64 a0_4, .slice A0_5 l0_5.length c0_5]) (t := 37) ?hr ?_; (case hd => rfl); (case hg => rfl); (case hr => first | (go_simp; done) | (go_simp; rfl)); intro gb209 hg w5 hbox hb; have n0_ := Aside0.mk (below_step (by repeat (first | (with_reducible first | exact HB.out | apply below_alloc | apply pw_below_drewN | apply below_drew1) | exact HB.out)) hb); have n1_ := Aside0.mk (hbox); have n2_ := Aside0.mk ((by rw [hg]; exact (below_size (by repeat (first | (with_reducible first | exact HB.out | apply below_alloc | apply pw_below_drewN | apply below_drew1) | exact HB.out))) : w.heap.size ≤ gb209)); have n3_ := Aside0.mk ((by rw [hg]; exact (below_size (by repeat (first | (with_reducible first | exact HB.out | apply below_alloc | apply pw_below_drewN | apply below_drew1) | exact HB.out))) : w.heap.size ≤ gb209)); clear HB; have HB := n0_; have BK209 := n1_; have GW209 := n2_; have GE209 := n3_; clear n0_ n1_ n2_ n3_; clear hb hbox hg; have hcz6_0 : w5.cell? ⟨gb209, 0, none⟩ = some (.int .i64 a0_0) := (blk_cell BK209.out 0).trans rfl; have hcz6_1 : w5.cell? ⟨gb209, 1, none⟩ = some (.int .i64 a0_1) := (blk_cell BK209.out 1).trans rfl; have hcz6_2 : w5.cell? ⟨gb209, 2, none⟩ = some (.int .i64 a0_2) := (blk_cell BK209.out 2).trans rfl; have hcz6_3 : w5.cell? ⟨gb209, 3, none⟩ = some (.int .i64 a0_3) := (blk_cell BK209.out 3).trans rfl; have hcz6_4 : w5.cell? ⟨gb209, 4, none⟩ = some (.int .i64 a0_4) := (blk_cell BK209.out 4).trans rfl; have hcz6_5 : w5.cell? ⟨gb209, 5, none⟩ = some (.slice A0_5 l0_5.length c0_5) := (blk_cell BK209.out 5).trans rfl; have hfz6_0 := blk_frozen BK209.out 0; have hfz6_1 := blk_frozen BK209.out 1; have hfz6_2 := blk_frozen BK209.out 2; have hfz6_3 := blk_frozen BK209.out 3; have hfz6_4 := blk_frozen BK209.out 4; have hfz6_5 := blk_frozen BK209.out 5) | (go_at_call 50; (with_reducible refine (impl_isLsn.calls a0_1 true _ A2.out).mono ?_); rintro e w' ⟨rfl, ⟨nd, rfl⟩⟩; (try first | exact ⟨rfl, _, World.drewN_drewN _ _ _⟩ | exact ⟨rfl, _, Eq.trans (World.drewN_drewN _ _ _) (congrArg (World.drewN _) (Nat.add_assoc _ _ _))⟩))))
    (try simp only [Act.put, List.setIfInBounds_toArray, List.set_cons_zero, List.set_cons_succ])
    go_cut [3, 4] (fun v3 v4 wc => ∃ (kq : Nat) (x3_3 : Int) (x4_3 : Bool), v3 = .int .i64 x3_3 ∧ v4 = .bool x4_3 ∧ Aside0 (impl_RecordOk.j0 kq x3_3 x4_3 a0_0 a0_1 a0_2 a0_3 a0_4 l0_5 = some r) ∧ Aside0 (kq ≤ k) ∧ Aside0 (wc.heap[gb209]? = some (.cells #[.int .i64 a0_0, .int .i64 a0_1, .int .i64 a0_2, .int .i64 a0_3, .int .i64 a0_4, (.slice A0_5 l0_5.length c0_5)] 37 (0, 0))) ∧ Aside0 (Below w.heap.size w wc))
    case first =>
      have H := HC4.out
      clear HC4
      replace H := Option.bind_eq_some_iff.mp H
      obtain ⟨t211, A70, H⟩ := H
      replace H : (if t211 = true then ((impl_isSlot.f a0_4).bind fun t212 => (impl_RecordOk.j0 k (l0_5.length : Int) t212 a0_0 a0_1 a0_2 a0_3 a0_4 l0_5)) else (impl_RecordOk.j0 k (l0_5.length : Int) false a0_0 a0_1 a0_2 a0_3 a0_4 l0_5)) = some r := H
      have A7 := Aside0.mk A70
      clear A70
      by_cases c8 : t211 = true
      · subst c8
        have H1 : ((impl_isSlot.f a0_4).bind fun t212 => (impl_RecordOk.j0 k (l0_5.length : Int) t212 a0_0 a0_1 a0_2 a0_3 a0_4 l0_5)) = some r := by rw [if_pos rfl] at H; exact H
        clear H
        have H := H1
        clear H1
        replace H := Option.bind_eq_some_iff.mp H
        obtain ⟨t212, A90, H⟩ := H
        replace H : (impl_RecordOk.j0 k (l0_5.length : Int) t212 a0_0 a0_1 a0_2 a0_3 a0_4 l0_5) = some r := H
        have A9 := Aside0.mk A90
        clear A90
        have H' := Aside0.mk H
        clear H
        have hcz10_0 : w5.cell? ⟨gb209, 0, none⟩ = some (.int .i64 a0_0) := (blk_cell BK209.out 0).trans rfl
        have hcz10_1 : w5.cell? ⟨gb209, 1, none⟩ = some (.int .i64 a0_1) := (blk_cell BK209.out 1).trans rfl
        have hcz10_2 : w5.cell? ⟨gb209, 2, none⟩ = some (.int .i64 a0_2) := (blk_cell BK209.out 2).trans rfl
        have hcz10_3 : w5.cell? ⟨gb209, 3, none⟩ = some (.int .i64 a0_3) := (blk_cell BK209.out 3).trans rfl
        have hcz10_4 : w5.cell? ⟨gb209, 4, none⟩ = some (.int .i64 a0_4) := (blk_cell BK209.out 4).trans rfl
        have hcz10_5 : w5.cell? ⟨gb209, 5, none⟩ = some (.slice A0_5 l0_5.length c0_5) := (blk_cell BK209.out 5).trans rfl
        have hfz10_0 := blk_frozen BK209.out 0
        have hfz10_1 := blk_frozen BK209.out 1
        have hfz10_2 := blk_frozen BK209.out 2
        have hfz10_3 := blk_frozen BK209.out 3
        have hfz10_4 := blk_frozen BK209.out 4
        have hfz10_5 := blk_frozen BK209.out 5
        go_wp2_with (first | (go_at_call 51; (with_reducible refine (impl_isPage.calls a0_3 true _ A7.out).mono ?_); rintro e w' ⟨rfl, ⟨nd, rfl⟩⟩; (try first | exact ⟨rfl, _, World.drewN_drewN _ _ _⟩ | exact ⟨rfl, _, Eq.trans (World.drewN_drewN _ _ _) (congrArg (World.drewN _) (Nat.add_assoc _ _ _))⟩)) | (go_at_call 52; (with_reducible refine (impl_isSlot.calls a0_4 t212 _ A9.out).mono ?_); rintro e w' ⟨rfl, ⟨nd, rfl⟩⟩; (try first | exact ⟨rfl, _, World.drewN_drewN _ _ _⟩ | exact ⟨rfl, _, Eq.trans (World.drewN_drewN _ _ _) (congrArg (World.drewN _) (Nat.add_assoc _ _ _))⟩)))
        repeat (go_quiet (first | (go_at_call 51; (with_reducible refine (impl_isPage.calls a0_3 true _ A7.out).mono ?_); rintro e w' ⟨rfl, ⟨nd, rfl⟩⟩; (try first | exact ⟨rfl, _, World.drewN_drewN _ _ _⟩ | exact ⟨rfl, _, Eq.trans (World.drewN_drewN _ _ _) (congrArg (World.drewN _) (Nat.add_assoc _ _ _))⟩)) | (go_at_call 52; (with_reducible refine (impl_isSlot.calls a0_4 t212 _ A9.out).mono ?_); rintro e w' ⟨rfl, ⟨nd, rfl⟩⟩; (try first | exact ⟨rfl, _, World.drewN_drewN _ _ _⟩ | exact ⟨rfl, _, Eq.trans (World.drewN_drewN _ _ _) (congrArg (World.drewN _) (Nat.add_assoc _ _ _))⟩))); try go_wp2_with (first | (go_at_call 51; (with_reducible refine (impl_isPage.calls a0_3 true _ A7.out).mono ?_); rintro e w' ⟨rfl, ⟨nd, rfl⟩⟩; (try first | exact ⟨rfl, _, World.drewN_drewN _ _ _⟩ | exact ⟨rfl, _, Eq.trans (World.drewN_drewN _ _ _) (congrArg (World.drewN _) (Nat.add_assoc _ _ _))⟩)) | (go_at_call 52; (with_reducible refine (impl_isSlot.calls a0_4 t212 _ A9.out).mono ?_); rintro e w' ⟨rfl, ⟨nd, rfl⟩⟩; (try first | exact ⟨rfl, _, World.drewN_drewN _ _ _⟩ | exact ⟨rfl, _, Eq.trans (World.drewN_drewN _ _ _) (congrArg (World.drewN _) (Nat.add_assoc _ _ _))⟩))))
        go_meet
        case rel => exact ⟨_, ((l0_5.length : Int)), (t212), (by first | rfl | (simp; done) | (simp [*]; done)), (by first | rfl | (simp; done) | (simp [*]; done)), H', ⟨by first | omega | exact Nat.le_refl _⟩, ⟨by (with_reducible repeat (first | refine blk_drewN ?_ _ | refine blk_drew ?_ | refine blk_alloc ?_ _)); exact BK209.out⟩, ⟨by repeat (first | (with_reducible first | exact HB.out | apply below_alloc | apply pw_below_drewN | apply below_drew1 | refine below_set ?_ GE209.out) | exact HB.out)⟩⟩
      · replace c8 := Bool.eq_false_iff.mpr c8
        subst c8
        have H1 : (impl_RecordOk.j0 k (l0_5.length : Int) false a0_0 a0_1 a0_2 a0_3 a0_4 l0_5) = some r := by rw [if_neg (show ¬ (false = true) by decide)] at H; exact H
        clear H
        have H := H1
        clear H1
        have H' := Aside0.mk H
        clear H
        have hcz11_0 : w5.cell? ⟨gb209, 0, none⟩ = some (.int .i64 a0_0) := (blk_cell BK209.out 0).trans rfl
        have hcz11_1 : w5.cell? ⟨gb209, 1, none⟩ = some (.int .i64 a0_1) := (blk_cell BK209.out 1).trans rfl
        have hcz11_2 : w5.cell? ⟨gb209, 2, none⟩ = some (.int .i64 a0_2) := (blk_cell BK209.out 2).trans rfl
        have hcz11_3 : w5.cell? ⟨gb209, 3, none⟩ = some (.int .i64 a0_3) := (blk_cell BK209.out 3).trans rfl
        have hcz11_4 : w5.cell? ⟨gb209, 4, none⟩ = some (.int .i64 a0_4) := (blk_cell BK209.out 4).trans rfl
        have hcz11_5 : w5.cell? ⟨gb209, 5, none⟩ = some (.slice A0_5 l0_5.length c0_5) := (blk_cell BK209.out 5).trans rfl
        have hfz11_0 := blk_frozen BK209.out 0
        have hfz11_1 := blk_frozen BK209.out 1
        have hfz11_2 := blk_frozen BK209.out 2
        have hfz11_3 := blk_frozen BK209.out 3
        have hfz11_4 := blk_frozen BK209.out 4
        have hfz11_5 := blk_frozen BK209.out 5
        go_wp2_with (first | (go_at_call 51; (with_reducible refine (impl_isPage.calls a0_3 false _ A7.out).mono ?_); rintro e w' ⟨rfl, ⟨nd, rfl⟩⟩; (try first | exact ⟨rfl, _, World.drewN_drewN _ _ _⟩ | exact ⟨rfl, _, Eq.trans (World.drewN_drewN _ _ _) (congrArg (World.drewN _) (Nat.add_assoc _ _ _))⟩)))
        repeat (go_quiet (first | (go_at_call 51; (with_reducible refine (impl_isPage.calls a0_3 false _ A7.out).mono ?_); rintro e w' ⟨rfl, ⟨nd, rfl⟩⟩; (try first | exact ⟨rfl, _, World.drewN_drewN _ _ _⟩ | exact ⟨rfl, _, Eq.trans (World.drewN_drewN _ _ _) (congrArg (World.drewN _) (Nat.add_assoc _ _ _))⟩))); try go_wp2_with (first | (go_at_call 51; (with_reducible refine (impl_isPage.calls a0_3 false _ A7.out).mono ?_); rintro e w' ⟨rfl, ⟨nd, rfl⟩⟩; (try first | exact ⟨rfl, _, World.drewN_drewN _ _ _⟩ | exact ⟨rfl, _, Eq.trans (World.drewN_drewN _ _ _) (congrArg (World.drewN _) (Nat.add_assoc _ _ _))⟩))))
        go_meet
        case rel => exact ⟨_, ((l0_5.length : Int)), (false), (by first | rfl | (simp; done) | (simp [*]; done)), (by first | rfl | (simp; done) | (simp [*]; done)), H', ⟨by first | omega | exact Nat.le_refl _⟩, ⟨by (with_reducible repeat (first | refine blk_drewN ?_ _ | refine blk_drew ?_ | refine blk_alloc ?_ _)); exact BK209.out⟩, ⟨by repeat (first | (with_reducible first | exact HB.out | apply below_alloc | apply pw_below_drewN | apply below_drew1 | refine below_set ?_ GE209.out) | exact HB.out)⟩⟩
    case rest =>
      clear HC4
      try clear c2
      try clear p2
      try clear c3
      try clear c8
      try clear hcz10_0
      try clear hcz10_1
      try clear hcz10_2
      try clear hcz10_3
      try clear hcz10_4
      try clear hcz10_5
      try clear hcz11_0
      try clear hcz11_1
      try clear hcz11_2
      try clear hcz11_3
      try clear hcz11_4
      try clear hcz11_5
      try clear hcz6_0
      try clear hcz6_1
      try clear hcz6_2
      try clear hcz6_3
      try clear hcz6_4
      try clear hcz6_5
      try clear hfz10_0
      try clear hfz10_1
      try clear hfz10_2
      try clear hfz10_3
      try clear hfz10_4
      try clear hfz10_5
      try clear hfz11_0
      try clear hfz11_1
      try clear hfz11_2
      try clear hfz11_3
      try clear hfz11_4
      try clear hfz11_5
      try clear hfz6_0
      try clear hfz6_1
      try clear hfz6_2
      try clear hfz6_3
      try clear hfz6_4
      try clear hfz6_5
      obtain ⟨kq, x3_3, x4_3, rfl, rfl, HA, HJ3, BK209, HB⟩ := hcut
      cases kq with
      | zero => exact absurd HA.out (by simp [impl_RecordOk.j0])
      | succ kj3 =>
        have H := HA.out
        clear HA
        simp only [impl_RecordOk.j0] at H
        by_cases c12 : a0_0 = 1
        · rw [if_pos c12] at H
          have c12b0 : (a0_0 == 1) = true := beq_iff_eq.mpr c12
          have c12b1 : (a0_0 != 1) = false := bne_eq_false_iff_eq.mpr c12
          clear c12
          replace H := Option.bind_eq_some_iff.mp H
          obtain ⟨t213, A130, H⟩ := H
          replace H : (if t213 = true then (if x3_3 = 256 then (if a0_2 = 0 then (some (a0_4 == 0)) else (some false)) else (some false)) else (some false)) = some r := H
          have A13 := Aside0.mk A130
          clear A130
          by_cases c14 : t213 = true
          · subst c14
            have H1 : (if x3_3 = 256 then (if a0_2 = 0 then (some (a0_4 == 0)) else (some false)) else (some false)) = some r := by rw [if_pos rfl] at H; exact H
            clear H
            have H := H1
            clear H1
            by_cases c15 : x3_3 = 256
            · rw [if_pos c15] at H
              have c15b0 : (x3_3 == 256) = true := beq_iff_eq.mpr c15
              have c15b1 : (x3_3 != 256) = false := bne_eq_false_iff_eq.mpr c15
              clear c15
              by_cases c16 : a0_2 = 0
              · rw [if_pos c16] at H
                have c16b0 : (a0_2 == 0) = true := beq_iff_eq.mpr c16
                have c16b1 : (a0_2 != 0) = false := bne_eq_false_iff_eq.mpr c16
                clear c16
                obtain rfl := Option.some.inj H
                have hcz17_0 : wc.cell? ⟨gb209, 0, none⟩ = some (.int .i64 a0_0) := (blk_cell BK209.out 0).trans rfl
                have hcz17_1 : wc.cell? ⟨gb209, 1, none⟩ = some (.int .i64 a0_1) := (blk_cell BK209.out 1).trans rfl
                have hcz17_2 : wc.cell? ⟨gb209, 2, none⟩ = some (.int .i64 a0_2) := (blk_cell BK209.out 2).trans rfl
                have hcz17_3 : wc.cell? ⟨gb209, 3, none⟩ = some (.int .i64 a0_3) := (blk_cell BK209.out 3).trans rfl
                have hcz17_4 : wc.cell? ⟨gb209, 4, none⟩ = some (.int .i64 a0_4) := (blk_cell BK209.out 4).trans rfl
                have hcz17_5 : wc.cell? ⟨gb209, 5, none⟩ = some (.slice A0_5 l0_5.length c0_5) := (blk_cell BK209.out 5).trans rfl
                have hfz17_0 := blk_frozen BK209.out 0
                have hfz17_1 := blk_frozen BK209.out 1
                have hfz17_2 := blk_frozen BK209.out 2
                have hfz17_3 := blk_frozen BK209.out 3
                have hfz17_4 := blk_frozen BK209.out 4
                have hfz17_5 := blk_frozen BK209.out 5
                go_wp2_with (first | (go_at_call 51; (with_reducible refine (impl_isPage.calls a0_3 true _ A13.out).mono ?_); rintro e w' ⟨rfl, ⟨nd, rfl⟩⟩; (try first | exact ⟨rfl, _, World.drewN_drewN _ _ _⟩ | exact ⟨rfl, _, Eq.trans (World.drewN_drewN _ _ _) (congrArg (World.drewN _) (Nat.add_assoc _ _ _))⟩)))
                repeat (go_quiet (first | (go_at_call 51; (with_reducible refine (impl_isPage.calls a0_3 true _ A13.out).mono ?_); rintro e w' ⟨rfl, ⟨nd, rfl⟩⟩; (try first | exact ⟨rfl, _, World.drewN_drewN _ _ _⟩ | exact ⟨rfl, _, Eq.trans (World.drewN_drewN _ _ _) (congrArg (World.drewN _) (Nat.add_assoc _ _ _))⟩))); try go_wp2_with (first | (go_at_call 51; (with_reducible refine (impl_isPage.calls a0_3 true _ A13.out).mono ?_); rintro e w' ⟨rfl, ⟨nd, rfl⟩⟩; (try first | exact ⟨rfl, _, World.drewN_drewN _ _ _⟩ | exact ⟨rfl, _, Eq.trans (World.drewN_drewN _ _ _) (congrArg (World.drewN _) (Nat.add_assoc _ _ _))⟩))))
                go_ret
                exact ⟨by first | rfl | (simp [errW_none, errW_some] <;> rfl) | (simp [*, errW_none, errW_some] <;> rfl), by repeat (first | (with_reducible first | exact HB.out | apply below_alloc | apply pw_below_drewN | apply below_drew1 | refine below_set ?_ GE209.out) | exact HB.out)⟩
              · rw [if_neg c16] at H
                have c16b0 : (a0_2 == 0) = false := beq_eq_false_iff_ne.mpr c16
                have c16b1 : (a0_2 != 0) = true := bne_iff_ne.mpr c16
                obtain rfl := Option.some.inj H
                have hcz18_0 : wc.cell? ⟨gb209, 0, none⟩ = some (.int .i64 a0_0) := (blk_cell BK209.out 0).trans rfl
                have hcz18_1 : wc.cell? ⟨gb209, 1, none⟩ = some (.int .i64 a0_1) := (blk_cell BK209.out 1).trans rfl
                have hcz18_2 : wc.cell? ⟨gb209, 2, none⟩ = some (.int .i64 a0_2) := (blk_cell BK209.out 2).trans rfl
                have hcz18_3 : wc.cell? ⟨gb209, 3, none⟩ = some (.int .i64 a0_3) := (blk_cell BK209.out 3).trans rfl
                have hcz18_4 : wc.cell? ⟨gb209, 4, none⟩ = some (.int .i64 a0_4) := (blk_cell BK209.out 4).trans rfl
                have hcz18_5 : wc.cell? ⟨gb209, 5, none⟩ = some (.slice A0_5 l0_5.length c0_5) := (blk_cell BK209.out 5).trans rfl
                have hfz18_0 := blk_frozen BK209.out 0
                have hfz18_1 := blk_frozen BK209.out 1
                have hfz18_2 := blk_frozen BK209.out 2
                have hfz18_3 := blk_frozen BK209.out 3
                have hfz18_4 := blk_frozen BK209.out 4
                have hfz18_5 := blk_frozen BK209.out 5
                go_wp2_with (first | (go_at_call 51; (with_reducible refine (impl_isPage.calls a0_3 true _ A13.out).mono ?_); rintro e w' ⟨rfl, ⟨nd, rfl⟩⟩; (try first | exact ⟨rfl, _, World.drewN_drewN _ _ _⟩ | exact ⟨rfl, _, Eq.trans (World.drewN_drewN _ _ _) (congrArg (World.drewN _) (Nat.add_assoc _ _ _))⟩)))
                repeat (go_quiet (first | (go_at_call 51; (with_reducible refine (impl_isPage.calls a0_3 true _ A13.out).mono ?_); rintro e w' ⟨rfl, ⟨nd, rfl⟩⟩; (try first | exact ⟨rfl, _, World.drewN_drewN _ _ _⟩ | exact ⟨rfl, _, Eq.trans (World.drewN_drewN _ _ _) (congrArg (World.drewN _) (Nat.add_assoc _ _ _))⟩))); try go_wp2_with (first | (go_at_call 51; (with_reducible refine (impl_isPage.calls a0_3 true _ A13.out).mono ?_); rintro e w' ⟨rfl, ⟨nd, rfl⟩⟩; (try first | exact ⟨rfl, _, World.drewN_drewN _ _ _⟩ | exact ⟨rfl, _, Eq.trans (World.drewN_drewN _ _ _) (congrArg (World.drewN _) (Nat.add_assoc _ _ _))⟩))))
                go_ret
                exact ⟨by first | rfl | (simp [errW_none, errW_some] <;> rfl) | (simp [*, errW_none, errW_some] <;> rfl), by repeat (first | (with_reducible first | exact HB.out | apply below_alloc | apply pw_below_drewN | apply below_drew1 | refine below_set ?_ GE209.out) | exact HB.out)⟩
            · rw [if_neg c15] at H
              have c15b0 : (x3_3 == 256) = false := beq_eq_false_iff_ne.mpr c15
              have c15b1 : (x3_3 != 256) = true := bne_iff_ne.mpr c15
              obtain rfl := Option.some.inj H
              have hcz19_0 : wc.cell? ⟨gb209, 0, none⟩ = some (.int .i64 a0_0) := (blk_cell BK209.out 0).trans rfl
              have hcz19_1 : wc.cell? ⟨gb209, 1, none⟩ = some (.int .i64 a0_1) := (blk_cell BK209.out 1).trans rfl
              have hcz19_2 : wc.cell? ⟨gb209, 2, none⟩ = some (.int .i64 a0_2) := (blk_cell BK209.out 2).trans rfl
              have hcz19_3 : wc.cell? ⟨gb209, 3, none⟩ = some (.int .i64 a0_3) := (blk_cell BK209.out 3).trans rfl
              have hcz19_4 : wc.cell? ⟨gb209, 4, none⟩ = some (.int .i64 a0_4) := (blk_cell BK209.out 4).trans rfl
              have hcz19_5 : wc.cell? ⟨gb209, 5, none⟩ = some (.slice A0_5 l0_5.length c0_5) := (blk_cell BK209.out 5).trans rfl
              have hfz19_0 := blk_frozen BK209.out 0
              have hfz19_1 := blk_frozen BK209.out 1
              have hfz19_2 := blk_frozen BK209.out 2
              have hfz19_3 := blk_frozen BK209.out 3
              have hfz19_4 := blk_frozen BK209.out 4
              have hfz19_5 := blk_frozen BK209.out 5
              go_wp2_with (first | (go_at_call 51; (with_reducible refine (impl_isPage.calls a0_3 true _ A13.out).mono ?_); rintro e w' ⟨rfl, ⟨nd, rfl⟩⟩; (try first | exact ⟨rfl, _, World.drewN_drewN _ _ _⟩ | exact ⟨rfl, _, Eq.trans (World.drewN_drewN _ _ _) (congrArg (World.drewN _) (Nat.add_assoc _ _ _))⟩)))
              repeat (go_quiet (first | (go_at_call 51; (with_reducible refine (impl_isPage.calls a0_3 true _ A13.out).mono ?_); rintro e w' ⟨rfl, ⟨nd, rfl⟩⟩; (try first | exact ⟨rfl, _, World.drewN_drewN _ _ _⟩ | exact ⟨rfl, _, Eq.trans (World.drewN_drewN _ _ _) (congrArg (World.drewN _) (Nat.add_assoc _ _ _))⟩))); try go_wp2_with (first | (go_at_call 51; (with_reducible refine (impl_isPage.calls a0_3 true _ A13.out).mono ?_); rintro e w' ⟨rfl, ⟨nd, rfl⟩⟩; (try first | exact ⟨rfl, _, World.drewN_drewN _ _ _⟩ | exact ⟨rfl, _, Eq.trans (World.drewN_drewN _ _ _) (congrArg (World.drewN _) (Nat.add_assoc _ _ _))⟩))))
              go_ret
              exact ⟨by first | rfl | (simp [errW_none, errW_some] <;> rfl) | (simp [*, errW_none, errW_some] <;> rfl), by repeat (first | (with_reducible first | exact HB.out | apply below_alloc | apply pw_below_drewN | apply below_drew1 | refine below_set ?_ GE209.out) | exact HB.out)⟩
          · replace c14 := Bool.eq_false_iff.mpr c14
            subst c14
            have H1 : (some false) = some r := by rw [if_neg (show ¬ (false = true) by decide)] at H; exact H
            clear H
            have H := H1
            clear H1
            obtain rfl := Option.some.inj H
            have hcz20_0 : wc.cell? ⟨gb209, 0, none⟩ = some (.int .i64 a0_0) := (blk_cell BK209.out 0).trans rfl
            have hcz20_1 : wc.cell? ⟨gb209, 1, none⟩ = some (.int .i64 a0_1) := (blk_cell BK209.out 1).trans rfl
            have hcz20_2 : wc.cell? ⟨gb209, 2, none⟩ = some (.int .i64 a0_2) := (blk_cell BK209.out 2).trans rfl
            have hcz20_3 : wc.cell? ⟨gb209, 3, none⟩ = some (.int .i64 a0_3) := (blk_cell BK209.out 3).trans rfl
            have hcz20_4 : wc.cell? ⟨gb209, 4, none⟩ = some (.int .i64 a0_4) := (blk_cell BK209.out 4).trans rfl
            have hcz20_5 : wc.cell? ⟨gb209, 5, none⟩ = some (.slice A0_5 l0_5.length c0_5) := (blk_cell BK209.out 5).trans rfl
            have hfz20_0 := blk_frozen BK209.out 0
            have hfz20_1 := blk_frozen BK209.out 1
            have hfz20_2 := blk_frozen BK209.out 2
            have hfz20_3 := blk_frozen BK209.out 3
            have hfz20_4 := blk_frozen BK209.out 4
            have hfz20_5 := blk_frozen BK209.out 5
            go_wp2_with (first | (go_at_call 51; (with_reducible refine (impl_isPage.calls a0_3 false _ A13.out).mono ?_); rintro e w' ⟨rfl, ⟨nd, rfl⟩⟩; (try first | exact ⟨rfl, _, World.drewN_drewN _ _ _⟩ | exact ⟨rfl, _, Eq.trans (World.drewN_drewN _ _ _) (congrArg (World.drewN _) (Nat.add_assoc _ _ _))⟩)))
            repeat (go_quiet (first | (go_at_call 51; (with_reducible refine (impl_isPage.calls a0_3 false _ A13.out).mono ?_); rintro e w' ⟨rfl, ⟨nd, rfl⟩⟩; (try first | exact ⟨rfl, _, World.drewN_drewN _ _ _⟩ | exact ⟨rfl, _, Eq.trans (World.drewN_drewN _ _ _) (congrArg (World.drewN _) (Nat.add_assoc _ _ _))⟩))); try go_wp2_with (first | (go_at_call 51; (with_reducible refine (impl_isPage.calls a0_3 false _ A13.out).mono ?_); rintro e w' ⟨rfl, ⟨nd, rfl⟩⟩; (try first | exact ⟨rfl, _, World.drewN_drewN _ _ _⟩ | exact ⟨rfl, _, Eq.trans (World.drewN_drewN _ _ _) (congrArg (World.drewN _) (Nat.add_assoc _ _ _))⟩))))
            go_ret
            exact ⟨by first | rfl | (simp [errW_none, errW_some] <;> rfl) | (simp [*, errW_none, errW_some] <;> rfl), by repeat (first | (with_reducible first | exact HB.out | apply below_alloc | apply pw_below_drewN | apply below_drew1 | refine below_set ?_ GE209.out) | exact HB.out)⟩
        · rw [if_neg c12] at H
          have c12b0 : (a0_0 == 1) = false := beq_eq_false_iff_ne.mpr c12
          have c12b1 : (a0_0 != 1) = true := bne_iff_ne.mpr c12
          by_cases c21 : a0_0 = 2
          · rw [if_pos c21] at H
            have c21b0 : (a0_0 == 2) = true := beq_iff_eq.mpr c21
            have c21b1 : (a0_0 != 2) = false := bne_eq_false_iff_eq.mpr c21
            clear c21
            replace H := Option.bind_eq_some_iff.mp H
            obtain ⟨t214, A220, H⟩ := H
            replace H : (if t214 = true then (if x4_3 = true then ((impl_within.f x3_3 1 92).bind fun t215 => (some t215)) else (some false)) else (some false)) = some r := H
            have A22 := Aside0.mk A220
            clear A220
            by_cases c23 : t214 = true
            · subst c23
              have H1 : (if x4_3 = true then ((impl_within.f x3_3 1 92).bind fun t215 => (some t215)) else (some false)) = some r := by rw [if_pos rfl] at H; exact H
              clear H
              have H := H1
              clear H1
              by_cases c24 : x4_3 = true
              · subst c24
                have H1 : ((impl_within.f x3_3 1 92).bind fun t215 => (some t215)) = some r := by rw [if_pos rfl] at H; exact H
                clear H
                have H := H1
                clear H1
                replace H := Option.bind_eq_some_iff.mp H
                obtain ⟨t215, A250, H⟩ := H
                replace H : (some t215) = some r := H
                have A25 := Aside0.mk A250
                clear A250
                obtain rfl := Option.some.inj H
                have hcz26_0 : wc.cell? ⟨gb209, 0, none⟩ = some (.int .i64 a0_0) := (blk_cell BK209.out 0).trans rfl
                have hcz26_1 : wc.cell? ⟨gb209, 1, none⟩ = some (.int .i64 a0_1) := (blk_cell BK209.out 1).trans rfl
                have hcz26_2 : wc.cell? ⟨gb209, 2, none⟩ = some (.int .i64 a0_2) := (blk_cell BK209.out 2).trans rfl
                have hcz26_3 : wc.cell? ⟨gb209, 3, none⟩ = some (.int .i64 a0_3) := (blk_cell BK209.out 3).trans rfl
                have hcz26_4 : wc.cell? ⟨gb209, 4, none⟩ = some (.int .i64 a0_4) := (blk_cell BK209.out 4).trans rfl
                have hcz26_5 : wc.cell? ⟨gb209, 5, none⟩ = some (.slice A0_5 l0_5.length c0_5) := (blk_cell BK209.out 5).trans rfl
                have hfz26_0 := blk_frozen BK209.out 0
                have hfz26_1 := blk_frozen BK209.out 1
                have hfz26_2 := blk_frozen BK209.out 2
                have hfz26_3 := blk_frozen BK209.out 3
                have hfz26_4 := blk_frozen BK209.out 4
                have hfz26_5 := blk_frozen BK209.out 5
                go_wp2_with (first | (go_at_call 53; (with_reducible refine (impl_isXid.calls a0_2 true _ A22.out).mono ?_); rintro e w' ⟨rfl, ⟨nd, rfl⟩⟩; (try first | exact ⟨rfl, _, World.drewN_drewN _ _ _⟩ | exact ⟨rfl, _, Eq.trans (World.drewN_drewN _ _ _) (congrArg (World.drewN _) (Nat.add_assoc _ _ _))⟩)) | (go_at_call 42; (with_reducible refine (impl_within.calls x3_3 1 92 t215 _ A25.out).mono ?_); rintro e w' ⟨rfl, ⟨nd, rfl⟩⟩; (try first | exact ⟨rfl, _, World.drewN_drewN _ _ _⟩ | exact ⟨rfl, _, Eq.trans (World.drewN_drewN _ _ _) (congrArg (World.drewN _) (Nat.add_assoc _ _ _))⟩)))
                repeat (go_quiet (first | (go_at_call 53; (with_reducible refine (impl_isXid.calls a0_2 true _ A22.out).mono ?_); rintro e w' ⟨rfl, ⟨nd, rfl⟩⟩; (try first | exact ⟨rfl, _, World.drewN_drewN _ _ _⟩ | exact ⟨rfl, _, Eq.trans (World.drewN_drewN _ _ _) (congrArg (World.drewN _) (Nat.add_assoc _ _ _))⟩)) | (go_at_call 42; (with_reducible refine (impl_within.calls x3_3 1 92 t215 _ A25.out).mono ?_); rintro e w' ⟨rfl, ⟨nd, rfl⟩⟩; (try first | exact ⟨rfl, _, World.drewN_drewN _ _ _⟩ | exact ⟨rfl, _, Eq.trans (World.drewN_drewN _ _ _) (congrArg (World.drewN _) (Nat.add_assoc _ _ _))⟩))); try go_wp2_with (first | (go_at_call 53; (with_reducible refine (impl_isXid.calls a0_2 true _ A22.out).mono ?_); rintro e w' ⟨rfl, ⟨nd, rfl⟩⟩; (try first | exact ⟨rfl, _, World.drewN_drewN _ _ _⟩ | exact ⟨rfl, _, Eq.trans (World.drewN_drewN _ _ _) (congrArg (World.drewN _) (Nat.add_assoc _ _ _))⟩)) | (go_at_call 42; (with_reducible refine (impl_within.calls x3_3 1 92 t215 _ A25.out).mono ?_); rintro e w' ⟨rfl, ⟨nd, rfl⟩⟩; (try first | exact ⟨rfl, _, World.drewN_drewN _ _ _⟩ | exact ⟨rfl, _, Eq.trans (World.drewN_drewN _ _ _) (congrArg (World.drewN _) (Nat.add_assoc _ _ _))⟩))))
                go_ret
                exact ⟨by first | rfl | (simp [errW_none, errW_some] <;> rfl) | (simp [*, errW_none, errW_some] <;> rfl), by repeat (first | (with_reducible first | exact HB.out | apply below_alloc | apply pw_below_drewN | apply below_drew1 | refine below_set ?_ GE209.out) | exact HB.out)⟩
              · replace c24 := Bool.eq_false_iff.mpr c24
                subst c24
                have H1 : (some false) = some r := by rw [if_neg (show ¬ (false = true) by decide)] at H; exact H
                clear H
                have H := H1
                clear H1
                obtain rfl := Option.some.inj H
                have hcz27_0 : wc.cell? ⟨gb209, 0, none⟩ = some (.int .i64 a0_0) := (blk_cell BK209.out 0).trans rfl
                have hcz27_1 : wc.cell? ⟨gb209, 1, none⟩ = some (.int .i64 a0_1) := (blk_cell BK209.out 1).trans rfl
                have hcz27_2 : wc.cell? ⟨gb209, 2, none⟩ = some (.int .i64 a0_2) := (blk_cell BK209.out 2).trans rfl
                have hcz27_3 : wc.cell? ⟨gb209, 3, none⟩ = some (.int .i64 a0_3) := (blk_cell BK209.out 3).trans rfl
                have hcz27_4 : wc.cell? ⟨gb209, 4, none⟩ = some (.int .i64 a0_4) := (blk_cell BK209.out 4).trans rfl
                have hcz27_5 : wc.cell? ⟨gb209, 5, none⟩ = some (.slice A0_5 l0_5.length c0_5) := (blk_cell BK209.out 5).trans rfl
                have hfz27_0 := blk_frozen BK209.out 0
                have hfz27_1 := blk_frozen BK209.out 1
                have hfz27_2 := blk_frozen BK209.out 2
                have hfz27_3 := blk_frozen BK209.out 3
                have hfz27_4 := blk_frozen BK209.out 4
                have hfz27_5 := blk_frozen BK209.out 5
                go_wp2_with (first | (go_at_call 53; (with_reducible refine (impl_isXid.calls a0_2 true _ A22.out).mono ?_); rintro e w' ⟨rfl, ⟨nd, rfl⟩⟩; (try first | exact ⟨rfl, _, World.drewN_drewN _ _ _⟩ | exact ⟨rfl, _, Eq.trans (World.drewN_drewN _ _ _) (congrArg (World.drewN _) (Nat.add_assoc _ _ _))⟩)))
                repeat (go_quiet (first | (go_at_call 53; (with_reducible refine (impl_isXid.calls a0_2 true _ A22.out).mono ?_); rintro e w' ⟨rfl, ⟨nd, rfl⟩⟩; (try first | exact ⟨rfl, _, World.drewN_drewN _ _ _⟩ | exact ⟨rfl, _, Eq.trans (World.drewN_drewN _ _ _) (congrArg (World.drewN _) (Nat.add_assoc _ _ _))⟩))); try go_wp2_with (first | (go_at_call 53; (with_reducible refine (impl_isXid.calls a0_2 true _ A22.out).mono ?_); rintro e w' ⟨rfl, ⟨nd, rfl⟩⟩; (try first | exact ⟨rfl, _, World.drewN_drewN _ _ _⟩ | exact ⟨rfl, _, Eq.trans (World.drewN_drewN _ _ _) (congrArg (World.drewN _) (Nat.add_assoc _ _ _))⟩))))
                go_ret
                exact ⟨by first | rfl | (simp [errW_none, errW_some] <;> rfl) | (simp [*, errW_none, errW_some] <;> rfl), by repeat (first | (with_reducible first | exact HB.out | apply below_alloc | apply pw_below_drewN | apply below_drew1 | refine below_set ?_ GE209.out) | exact HB.out)⟩
            · replace c23 := Bool.eq_false_iff.mpr c23
              subst c23
              have H1 : (some false) = some r := by rw [if_neg (show ¬ (false = true) by decide)] at H; exact H
              clear H
              have H := H1
              clear H1
              obtain rfl := Option.some.inj H
              have hcz28_0 : wc.cell? ⟨gb209, 0, none⟩ = some (.int .i64 a0_0) := (blk_cell BK209.out 0).trans rfl
              have hcz28_1 : wc.cell? ⟨gb209, 1, none⟩ = some (.int .i64 a0_1) := (blk_cell BK209.out 1).trans rfl
              have hcz28_2 : wc.cell? ⟨gb209, 2, none⟩ = some (.int .i64 a0_2) := (blk_cell BK209.out 2).trans rfl
              have hcz28_3 : wc.cell? ⟨gb209, 3, none⟩ = some (.int .i64 a0_3) := (blk_cell BK209.out 3).trans rfl
              have hcz28_4 : wc.cell? ⟨gb209, 4, none⟩ = some (.int .i64 a0_4) := (blk_cell BK209.out 4).trans rfl
              have hcz28_5 : wc.cell? ⟨gb209, 5, none⟩ = some (.slice A0_5 l0_5.length c0_5) := (blk_cell BK209.out 5).trans rfl
              have hfz28_0 := blk_frozen BK209.out 0
              have hfz28_1 := blk_frozen BK209.out 1
              have hfz28_2 := blk_frozen BK209.out 2
              have hfz28_3 := blk_frozen BK209.out 3
              have hfz28_4 := blk_frozen BK209.out 4
              have hfz28_5 := blk_frozen BK209.out 5
              go_wp2_with (first | (go_at_call 53; (with_reducible refine (impl_isXid.calls a0_2 false _ A22.out).mono ?_); rintro e w' ⟨rfl, ⟨nd, rfl⟩⟩; (try first | exact ⟨rfl, _, World.drewN_drewN _ _ _⟩ | exact ⟨rfl, _, Eq.trans (World.drewN_drewN _ _ _) (congrArg (World.drewN _) (Nat.add_assoc _ _ _))⟩)))
              repeat (go_quiet (first | (go_at_call 53; (with_reducible refine (impl_isXid.calls a0_2 false _ A22.out).mono ?_); rintro e w' ⟨rfl, ⟨nd, rfl⟩⟩; (try first | exact ⟨rfl, _, World.drewN_drewN _ _ _⟩ | exact ⟨rfl, _, Eq.trans (World.drewN_drewN _ _ _) (congrArg (World.drewN _) (Nat.add_assoc _ _ _))⟩))); try go_wp2_with (first | (go_at_call 53; (with_reducible refine (impl_isXid.calls a0_2 false _ A22.out).mono ?_); rintro e w' ⟨rfl, ⟨nd, rfl⟩⟩; (try first | exact ⟨rfl, _, World.drewN_drewN _ _ _⟩ | exact ⟨rfl, _, Eq.trans (World.drewN_drewN _ _ _) (congrArg (World.drewN _) (Nat.add_assoc _ _ _))⟩))))
              go_ret
              exact ⟨by first | rfl | (simp [errW_none, errW_some] <;> rfl) | (simp [*, errW_none, errW_some] <;> rfl), by repeat (first | (with_reducible first | exact HB.out | apply below_alloc | apply pw_below_drewN | apply below_drew1 | refine below_set ?_ GE209.out) | exact HB.out)⟩
          · rw [if_neg c21] at H
            have c21b0 : (a0_0 == 2) = false := beq_eq_false_iff_ne.mpr c21
            have c21b1 : (a0_0 != 2) = true := bne_iff_ne.mpr c21
            by_cases c29 : a0_0 = 3
            · rw [if_pos c29] at H
              have c29b0 : (a0_0 == 3) = true := beq_iff_eq.mpr c29
              have c29b1 : (a0_0 != 3) = false := bne_eq_false_iff_eq.mpr c29
              clear c29
              replace H := Option.bind_eq_some_iff.mp H
              obtain ⟨t216, A300, H⟩ := H
              replace H : (if t216 = true then (if x4_3 = true then (some (x3_3 == 0)) else (some false)) else (some false)) = some r := H
              have A30 := Aside0.mk A300
              clear A300
              by_cases c31 : t216 = true
              · subst c31
                have H1 : (if x4_3 = true then (some (x3_3 == 0)) else (some false)) = some r := by rw [if_pos rfl] at H; exact H
                clear H
                have H := H1
                clear H1
                by_cases c32 : x4_3 = true
                · subst c32
                  have H1 : (some (x3_3 == 0)) = some r := by rw [if_pos rfl] at H; exact H
                  clear H
                  have H := H1
                  clear H1
                  obtain rfl := Option.some.inj H
                  have hcz33_0 : wc.cell? ⟨gb209, 0, none⟩ = some (.int .i64 a0_0) := (blk_cell BK209.out 0).trans rfl
                  have hcz33_1 : wc.cell? ⟨gb209, 1, none⟩ = some (.int .i64 a0_1) := (blk_cell BK209.out 1).trans rfl
                  have hcz33_2 : wc.cell? ⟨gb209, 2, none⟩ = some (.int .i64 a0_2) := (blk_cell BK209.out 2).trans rfl
                  have hcz33_3 : wc.cell? ⟨gb209, 3, none⟩ = some (.int .i64 a0_3) := (blk_cell BK209.out 3).trans rfl
                  have hcz33_4 : wc.cell? ⟨gb209, 4, none⟩ = some (.int .i64 a0_4) := (blk_cell BK209.out 4).trans rfl
                  have hcz33_5 : wc.cell? ⟨gb209, 5, none⟩ = some (.slice A0_5 l0_5.length c0_5) := (blk_cell BK209.out 5).trans rfl
                  have hfz33_0 := blk_frozen BK209.out 0
                  have hfz33_1 := blk_frozen BK209.out 1
                  have hfz33_2 := blk_frozen BK209.out 2
                  have hfz33_3 := blk_frozen BK209.out 3
                  have hfz33_4 := blk_frozen BK209.out 4
                  have hfz33_5 := blk_frozen BK209.out 5
                  go_wp2_with (first | (go_at_call 53; (with_reducible refine (impl_isXid.calls a0_2 true _ A30.out).mono ?_); rintro e w' ⟨rfl, ⟨nd, rfl⟩⟩; (try first | exact ⟨rfl, _, World.drewN_drewN _ _ _⟩ | exact ⟨rfl, _, Eq.trans (World.drewN_drewN _ _ _) (congrArg (World.drewN _) (Nat.add_assoc _ _ _))⟩)))
                  repeat (go_quiet (first | (go_at_call 53; (with_reducible refine (impl_isXid.calls a0_2 true _ A30.out).mono ?_); rintro e w' ⟨rfl, ⟨nd, rfl⟩⟩; (try first | exact ⟨rfl, _, World.drewN_drewN _ _ _⟩ | exact ⟨rfl, _, Eq.trans (World.drewN_drewN _ _ _) (congrArg (World.drewN _) (Nat.add_assoc _ _ _))⟩))); try go_wp2_with (first | (go_at_call 53; (with_reducible refine (impl_isXid.calls a0_2 true _ A30.out).mono ?_); rintro e w' ⟨rfl, ⟨nd, rfl⟩⟩; (try first | exact ⟨rfl, _, World.drewN_drewN _ _ _⟩ | exact ⟨rfl, _, Eq.trans (World.drewN_drewN _ _ _) (congrArg (World.drewN _) (Nat.add_assoc _ _ _))⟩))))
                  go_ret
                  exact ⟨by first | rfl | (simp [errW_none, errW_some] <;> rfl) | (simp [*, errW_none, errW_some] <;> rfl), by repeat (first | (with_reducible first | exact HB.out | apply below_alloc | apply pw_below_drewN | apply below_drew1 | refine below_set ?_ GE209.out) | exact HB.out)⟩
                · replace c32 := Bool.eq_false_iff.mpr c32
                  subst c32
                  have H1 : (some false) = some r := by rw [if_neg (show ¬ (false = true) by decide)] at H; exact H
                  clear H
                  have H := H1
                  clear H1
                  obtain rfl := Option.some.inj H
                  have hcz34_0 : wc.cell? ⟨gb209, 0, none⟩ = some (.int .i64 a0_0) := (blk_cell BK209.out 0).trans rfl
                  have hcz34_1 : wc.cell? ⟨gb209, 1, none⟩ = some (.int .i64 a0_1) := (blk_cell BK209.out 1).trans rfl
                  have hcz34_2 : wc.cell? ⟨gb209, 2, none⟩ = some (.int .i64 a0_2) := (blk_cell BK209.out 2).trans rfl
                  have hcz34_3 : wc.cell? ⟨gb209, 3, none⟩ = some (.int .i64 a0_3) := (blk_cell BK209.out 3).trans rfl
                  have hcz34_4 : wc.cell? ⟨gb209, 4, none⟩ = some (.int .i64 a0_4) := (blk_cell BK209.out 4).trans rfl
                  have hcz34_5 : wc.cell? ⟨gb209, 5, none⟩ = some (.slice A0_5 l0_5.length c0_5) := (blk_cell BK209.out 5).trans rfl
                  have hfz34_0 := blk_frozen BK209.out 0
                  have hfz34_1 := blk_frozen BK209.out 1
                  have hfz34_2 := blk_frozen BK209.out 2
                  have hfz34_3 := blk_frozen BK209.out 3
                  have hfz34_4 := blk_frozen BK209.out 4
                  have hfz34_5 := blk_frozen BK209.out 5
                  go_wp2_with (first | (go_at_call 53; (with_reducible refine (impl_isXid.calls a0_2 true _ A30.out).mono ?_); rintro e w' ⟨rfl, ⟨nd, rfl⟩⟩; (try first | exact ⟨rfl, _, World.drewN_drewN _ _ _⟩ | exact ⟨rfl, _, Eq.trans (World.drewN_drewN _ _ _) (congrArg (World.drewN _) (Nat.add_assoc _ _ _))⟩)))
                  repeat (go_quiet (first | (go_at_call 53; (with_reducible refine (impl_isXid.calls a0_2 true _ A30.out).mono ?_); rintro e w' ⟨rfl, ⟨nd, rfl⟩⟩; (try first | exact ⟨rfl, _, World.drewN_drewN _ _ _⟩ | exact ⟨rfl, _, Eq.trans (World.drewN_drewN _ _ _) (congrArg (World.drewN _) (Nat.add_assoc _ _ _))⟩))); try go_wp2_with (first | (go_at_call 53; (with_reducible refine (impl_isXid.calls a0_2 true _ A30.out).mono ?_); rintro e w' ⟨rfl, ⟨nd, rfl⟩⟩; (try first | exact ⟨rfl, _, World.drewN_drewN _ _ _⟩ | exact ⟨rfl, _, Eq.trans (World.drewN_drewN _ _ _) (congrArg (World.drewN _) (Nat.add_assoc _ _ _))⟩))))
                  go_ret
                  exact ⟨by first | rfl | (simp [errW_none, errW_some] <;> rfl) | (simp [*, errW_none, errW_some] <;> rfl), by repeat (first | (with_reducible first | exact HB.out | apply below_alloc | apply pw_below_drewN | apply below_drew1 | refine below_set ?_ GE209.out) | exact HB.out)⟩
              · replace c31 := Bool.eq_false_iff.mpr c31
                subst c31
                have H1 : (some false) = some r := by rw [if_neg (show ¬ (false = true) by decide)] at H; exact H
                clear H
                have H := H1
                clear H1
                obtain rfl := Option.some.inj H
                have hcz35_0 : wc.cell? ⟨gb209, 0, none⟩ = some (.int .i64 a0_0) := (blk_cell BK209.out 0).trans rfl
                have hcz35_1 : wc.cell? ⟨gb209, 1, none⟩ = some (.int .i64 a0_1) := (blk_cell BK209.out 1).trans rfl
                have hcz35_2 : wc.cell? ⟨gb209, 2, none⟩ = some (.int .i64 a0_2) := (blk_cell BK209.out 2).trans rfl
                have hcz35_3 : wc.cell? ⟨gb209, 3, none⟩ = some (.int .i64 a0_3) := (blk_cell BK209.out 3).trans rfl
                have hcz35_4 : wc.cell? ⟨gb209, 4, none⟩ = some (.int .i64 a0_4) := (blk_cell BK209.out 4).trans rfl
                have hcz35_5 : wc.cell? ⟨gb209, 5, none⟩ = some (.slice A0_5 l0_5.length c0_5) := (blk_cell BK209.out 5).trans rfl
                have hfz35_0 := blk_frozen BK209.out 0
                have hfz35_1 := blk_frozen BK209.out 1
                have hfz35_2 := blk_frozen BK209.out 2
                have hfz35_3 := blk_frozen BK209.out 3
                have hfz35_4 := blk_frozen BK209.out 4
                have hfz35_5 := blk_frozen BK209.out 5
                go_wp2_with (first | (go_at_call 53; (with_reducible refine (impl_isXid.calls a0_2 false _ A30.out).mono ?_); rintro e w' ⟨rfl, ⟨nd, rfl⟩⟩; (try first | exact ⟨rfl, _, World.drewN_drewN _ _ _⟩ | exact ⟨rfl, _, Eq.trans (World.drewN_drewN _ _ _) (congrArg (World.drewN _) (Nat.add_assoc _ _ _))⟩)))
                repeat (go_quiet (first | (go_at_call 53; (with_reducible refine (impl_isXid.calls a0_2 false _ A30.out).mono ?_); rintro e w' ⟨rfl, ⟨nd, rfl⟩⟩; (try first | exact ⟨rfl, _, World.drewN_drewN _ _ _⟩ | exact ⟨rfl, _, Eq.trans (World.drewN_drewN _ _ _) (congrArg (World.drewN _) (Nat.add_assoc _ _ _))⟩))); try go_wp2_with (first | (go_at_call 53; (with_reducible refine (impl_isXid.calls a0_2 false _ A30.out).mono ?_); rintro e w' ⟨rfl, ⟨nd, rfl⟩⟩; (try first | exact ⟨rfl, _, World.drewN_drewN _ _ _⟩ | exact ⟨rfl, _, Eq.trans (World.drewN_drewN _ _ _) (congrArg (World.drewN _) (Nat.add_assoc _ _ _))⟩))))
                go_ret
                exact ⟨by first | rfl | (simp [errW_none, errW_some] <;> rfl) | (simp [*, errW_none, errW_some] <;> rfl), by repeat (first | (with_reducible first | exact HB.out | apply below_alloc | apply pw_below_drewN | apply below_drew1 | refine below_set ?_ GE209.out) | exact HB.out)⟩
            · rw [if_neg c29] at H
              have c29b0 : (a0_0 == 3) = false := beq_eq_false_iff_ne.mpr c29
              have c29b1 : (a0_0 != 3) = true := bne_iff_ne.mpr c29
              by_cases c36 : a0_0 = 4
              · rw [if_pos c36] at H
                have c36b0 : (a0_0 == 4) = true := beq_iff_eq.mpr c36
                have c36b1 : (a0_0 != 4) = false := bne_eq_false_iff_eq.mpr c36
                clear c36
                by_cases c37 : a0_2 = 0
                · rw [if_pos c37] at H
                  have c37b0 : (a0_2 == 0) = true := beq_iff_eq.mpr c37
                  have c37b1 : (a0_2 != 0) = false := bne_eq_false_iff_eq.mpr c37
                  clear c37
                  by_cases c38 : x4_3 = true
                  · subst c38
                    have H1 : (some (x3_3 == 0)) = some r := by rw [if_pos rfl] at H; exact H
                    clear H
                    have H := H1
                    clear H1
                    obtain rfl := Option.some.inj H
                    have hcz39_0 : wc.cell? ⟨gb209, 0, none⟩ = some (.int .i64 a0_0) := (blk_cell BK209.out 0).trans rfl
                    have hcz39_1 : wc.cell? ⟨gb209, 1, none⟩ = some (.int .i64 a0_1) := (blk_cell BK209.out 1).trans rfl
                    have hcz39_2 : wc.cell? ⟨gb209, 2, none⟩ = some (.int .i64 a0_2) := (blk_cell BK209.out 2).trans rfl
                    have hcz39_3 : wc.cell? ⟨gb209, 3, none⟩ = some (.int .i64 a0_3) := (blk_cell BK209.out 3).trans rfl
                    have hcz39_4 : wc.cell? ⟨gb209, 4, none⟩ = some (.int .i64 a0_4) := (blk_cell BK209.out 4).trans rfl
                    have hcz39_5 : wc.cell? ⟨gb209, 5, none⟩ = some (.slice A0_5 l0_5.length c0_5) := (blk_cell BK209.out 5).trans rfl
                    have hfz39_0 := blk_frozen BK209.out 0
                    have hfz39_1 := blk_frozen BK209.out 1
                    have hfz39_2 := blk_frozen BK209.out 2
                    have hfz39_3 := blk_frozen BK209.out 3
                    have hfz39_4 := blk_frozen BK209.out 4
                    have hfz39_5 := blk_frozen BK209.out 5
                    go_wp2
                    repeat (go_quiet (fail); try go_wp2)
                    go_ret
                    exact ⟨by first | rfl | (simp [errW_none, errW_some] <;> rfl) | (simp [*, errW_none, errW_some] <;> rfl), by repeat (first | (with_reducible first | exact HB.out | apply below_alloc | apply pw_below_drewN | apply below_drew1 | refine below_set ?_ GE209.out) | exact HB.out)⟩
                  · replace c38 := Bool.eq_false_iff.mpr c38
                    subst c38
                    have H1 : (some false) = some r := by rw [if_neg (show ¬ (false = true) by decide)] at H; exact H
                    clear H
                    have H := H1
                    clear H1
                    obtain rfl := Option.some.inj H
                    have hcz40_0 : wc.cell? ⟨gb209, 0, none⟩ = some (.int .i64 a0_0) := (blk_cell BK209.out 0).trans rfl
                    have hcz40_1 : wc.cell? ⟨gb209, 1, none⟩ = some (.int .i64 a0_1) := (blk_cell BK209.out 1).trans rfl
                    have hcz40_2 : wc.cell? ⟨gb209, 2, none⟩ = some (.int .i64 a0_2) := (blk_cell BK209.out 2).trans rfl
                    have hcz40_3 : wc.cell? ⟨gb209, 3, none⟩ = some (.int .i64 a0_3) := (blk_cell BK209.out 3).trans rfl
                    have hcz40_4 : wc.cell? ⟨gb209, 4, none⟩ = some (.int .i64 a0_4) := (blk_cell BK209.out 4).trans rfl
                    have hcz40_5 : wc.cell? ⟨gb209, 5, none⟩ = some (.slice A0_5 l0_5.length c0_5) := (blk_cell BK209.out 5).trans rfl
                    have hfz40_0 := blk_frozen BK209.out 0
                    have hfz40_1 := blk_frozen BK209.out 1
                    have hfz40_2 := blk_frozen BK209.out 2
                    have hfz40_3 := blk_frozen BK209.out 3
                    have hfz40_4 := blk_frozen BK209.out 4
                    have hfz40_5 := blk_frozen BK209.out 5
                    go_wp2
                    repeat (go_quiet (fail); try go_wp2)
                    go_ret
                    exact ⟨by first | rfl | (simp [errW_none, errW_some] <;> rfl) | (simp [*, errW_none, errW_some] <;> rfl), by repeat (first | (with_reducible first | exact HB.out | apply below_alloc | apply pw_below_drewN | apply below_drew1 | refine below_set ?_ GE209.out) | exact HB.out)⟩
                · rw [if_neg c37] at H
                  have c37b0 : (a0_2 == 0) = false := beq_eq_false_iff_ne.mpr c37
                  have c37b1 : (a0_2 != 0) = true := bne_iff_ne.mpr c37
                  obtain rfl := Option.some.inj H
                  have hcz41_0 : wc.cell? ⟨gb209, 0, none⟩ = some (.int .i64 a0_0) := (blk_cell BK209.out 0).trans rfl
                  have hcz41_1 : wc.cell? ⟨gb209, 1, none⟩ = some (.int .i64 a0_1) := (blk_cell BK209.out 1).trans rfl
                  have hcz41_2 : wc.cell? ⟨gb209, 2, none⟩ = some (.int .i64 a0_2) := (blk_cell BK209.out 2).trans rfl
                  have hcz41_3 : wc.cell? ⟨gb209, 3, none⟩ = some (.int .i64 a0_3) := (blk_cell BK209.out 3).trans rfl
                  have hcz41_4 : wc.cell? ⟨gb209, 4, none⟩ = some (.int .i64 a0_4) := (blk_cell BK209.out 4).trans rfl
                  have hcz41_5 : wc.cell? ⟨gb209, 5, none⟩ = some (.slice A0_5 l0_5.length c0_5) := (blk_cell BK209.out 5).trans rfl
                  have hfz41_0 := blk_frozen BK209.out 0
                  have hfz41_1 := blk_frozen BK209.out 1
                  have hfz41_2 := blk_frozen BK209.out 2
                  have hfz41_3 := blk_frozen BK209.out 3
                  have hfz41_4 := blk_frozen BK209.out 4
                  have hfz41_5 := blk_frozen BK209.out 5
                  go_wp2
                  repeat (go_quiet (fail); try go_wp2)
                  go_ret
                  exact ⟨by first | rfl | (simp [errW_none, errW_some] <;> rfl) | (simp [*, errW_none, errW_some] <;> rfl), by repeat (first | (with_reducible first | exact HB.out | apply below_alloc | apply pw_below_drewN | apply below_drew1 | refine below_set ?_ GE209.out) | exact HB.out)⟩
              · rw [if_neg c36] at H
                have c36b0 : (a0_0 == 4) = false := beq_eq_false_iff_ne.mpr c36
                have c36b1 : (a0_0 != 4) = true := bne_iff_ne.mpr c36
                by_cases c42 : a0_0 = 5
                · rw [if_pos c42] at H
                  have c42b0 : (a0_0 == 5) = true := beq_iff_eq.mpr c42
                  have c42b1 : (a0_0 != 5) = false := bne_eq_false_iff_eq.mpr c42
                  clear c42
                  replace H := Option.bind_eq_some_iff.mp H
                  obtain ⟨t217, A430, H⟩ := H
                  replace H : (if t217 = true then (if a0_3 = 0 then (if a0_4 = 0 then (some (x3_3 == 0)) else (some false)) else (some false)) else (some false)) = some r := H
                  have A43 := Aside0.mk A430
                  clear A430
                  by_cases c44 : t217 = true
                  · subst c44
                    have H1 : (if a0_3 = 0 then (if a0_4 = 0 then (some (x3_3 == 0)) else (some false)) else (some false)) = some r := by rw [if_pos rfl] at H; exact H
                    clear H
                    have H := H1
                    clear H1
                    by_cases c45 : a0_3 = 0
                    · rw [if_pos c45] at H
                      have c45b0 : (a0_3 == 0) = true := beq_iff_eq.mpr c45
                      have c45b1 : (a0_3 != 0) = false := bne_eq_false_iff_eq.mpr c45
                      clear c45
                      by_cases c46 : a0_4 = 0
                      · rw [if_pos c46] at H
                        have c46b0 : (a0_4 == 0) = true := beq_iff_eq.mpr c46
                        have c46b1 : (a0_4 != 0) = false := bne_eq_false_iff_eq.mpr c46
                        clear c46
                        obtain rfl := Option.some.inj H
                        have hcz47_0 : wc.cell? ⟨gb209, 0, none⟩ = some (.int .i64 a0_0) := (blk_cell BK209.out 0).trans rfl
                        have hcz47_1 : wc.cell? ⟨gb209, 1, none⟩ = some (.int .i64 a0_1) := (blk_cell BK209.out 1).trans rfl
                        have hcz47_2 : wc.cell? ⟨gb209, 2, none⟩ = some (.int .i64 a0_2) := (blk_cell BK209.out 2).trans rfl
                        have hcz47_3 : wc.cell? ⟨gb209, 3, none⟩ = some (.int .i64 a0_3) := (blk_cell BK209.out 3).trans rfl
                        have hcz47_4 : wc.cell? ⟨gb209, 4, none⟩ = some (.int .i64 a0_4) := (blk_cell BK209.out 4).trans rfl
                        have hcz47_5 : wc.cell? ⟨gb209, 5, none⟩ = some (.slice A0_5 l0_5.length c0_5) := (blk_cell BK209.out 5).trans rfl
                        have hfz47_0 := blk_frozen BK209.out 0
                        have hfz47_1 := blk_frozen BK209.out 1
                        have hfz47_2 := blk_frozen BK209.out 2
                        have hfz47_3 := blk_frozen BK209.out 3
                        have hfz47_4 := blk_frozen BK209.out 4
                        have hfz47_5 := blk_frozen BK209.out 5
                        go_wp2_with (first | (go_at_call 53; (with_reducible refine (impl_isXid.calls a0_2 true _ A43.out).mono ?_); rintro e w' ⟨rfl, ⟨nd, rfl⟩⟩; (try first | exact ⟨rfl, _, World.drewN_drewN _ _ _⟩ | exact ⟨rfl, _, Eq.trans (World.drewN_drewN _ _ _) (congrArg (World.drewN _) (Nat.add_assoc _ _ _))⟩)))
                        repeat (go_quiet (first | (go_at_call 53; (with_reducible refine (impl_isXid.calls a0_2 true _ A43.out).mono ?_); rintro e w' ⟨rfl, ⟨nd, rfl⟩⟩; (try first | exact ⟨rfl, _, World.drewN_drewN _ _ _⟩ | exact ⟨rfl, _, Eq.trans (World.drewN_drewN _ _ _) (congrArg (World.drewN _) (Nat.add_assoc _ _ _))⟩))); try go_wp2_with (first | (go_at_call 53; (with_reducible refine (impl_isXid.calls a0_2 true _ A43.out).mono ?_); rintro e w' ⟨rfl, ⟨nd, rfl⟩⟩; (try first | exact ⟨rfl, _, World.drewN_drewN _ _ _⟩ | exact ⟨rfl, _, Eq.trans (World.drewN_drewN _ _ _) (congrArg (World.drewN _) (Nat.add_assoc _ _ _))⟩))))
                        go_ret
                        exact ⟨by first | rfl | (simp [errW_none, errW_some] <;> rfl) | (simp [*, errW_none, errW_some] <;> rfl), by repeat (first | (with_reducible first | exact HB.out | apply below_alloc | apply pw_below_drewN | apply below_drew1 | refine below_set ?_ GE209.out) | exact HB.out)⟩
                      · rw [if_neg c46] at H
                        have c46b0 : (a0_4 == 0) = false := beq_eq_false_iff_ne.mpr c46
                        have c46b1 : (a0_4 != 0) = true := bne_iff_ne.mpr c46
                        obtain rfl := Option.some.inj H
                        have hcz48_0 : wc.cell? ⟨gb209, 0, none⟩ = some (.int .i64 a0_0) := (blk_cell BK209.out 0).trans rfl
                        have hcz48_1 : wc.cell? ⟨gb209, 1, none⟩ = some (.int .i64 a0_1) := (blk_cell BK209.out 1).trans rfl
                        have hcz48_2 : wc.cell? ⟨gb209, 2, none⟩ = some (.int .i64 a0_2) := (blk_cell BK209.out 2).trans rfl
                        have hcz48_3 : wc.cell? ⟨gb209, 3, none⟩ = some (.int .i64 a0_3) := (blk_cell BK209.out 3).trans rfl
                        have hcz48_4 : wc.cell? ⟨gb209, 4, none⟩ = some (.int .i64 a0_4) := (blk_cell BK209.out 4).trans rfl
                        have hcz48_5 : wc.cell? ⟨gb209, 5, none⟩ = some (.slice A0_5 l0_5.length c0_5) := (blk_cell BK209.out 5).trans rfl
                        have hfz48_0 := blk_frozen BK209.out 0
                        have hfz48_1 := blk_frozen BK209.out 1
                        have hfz48_2 := blk_frozen BK209.out 2
                        have hfz48_3 := blk_frozen BK209.out 3
                        have hfz48_4 := blk_frozen BK209.out 4
                        have hfz48_5 := blk_frozen BK209.out 5
                        go_wp2_with (first | (go_at_call 53; (with_reducible refine (impl_isXid.calls a0_2 true _ A43.out).mono ?_); rintro e w' ⟨rfl, ⟨nd, rfl⟩⟩; (try first | exact ⟨rfl, _, World.drewN_drewN _ _ _⟩ | exact ⟨rfl, _, Eq.trans (World.drewN_drewN _ _ _) (congrArg (World.drewN _) (Nat.add_assoc _ _ _))⟩)))
                        repeat (go_quiet (first | (go_at_call 53; (with_reducible refine (impl_isXid.calls a0_2 true _ A43.out).mono ?_); rintro e w' ⟨rfl, ⟨nd, rfl⟩⟩; (try first | exact ⟨rfl, _, World.drewN_drewN _ _ _⟩ | exact ⟨rfl, _, Eq.trans (World.drewN_drewN _ _ _) (congrArg (World.drewN _) (Nat.add_assoc _ _ _))⟩))); try go_wp2_with (first | (go_at_call 53; (with_reducible refine (impl_isXid.calls a0_2 true _ A43.out).mono ?_); rintro e w' ⟨rfl, ⟨nd, rfl⟩⟩; (try first | exact ⟨rfl, _, World.drewN_drewN _ _ _⟩ | exact ⟨rfl, _, Eq.trans (World.drewN_drewN _ _ _) (congrArg (World.drewN _) (Nat.add_assoc _ _ _))⟩))))
                        go_ret
                        exact ⟨by first | rfl | (simp [errW_none, errW_some] <;> rfl) | (simp [*, errW_none, errW_some] <;> rfl), by repeat (first | (with_reducible first | exact HB.out | apply below_alloc | apply pw_below_drewN | apply below_drew1 | refine below_set ?_ GE209.out) | exact HB.out)⟩
                    · rw [if_neg c45] at H
                      have c45b0 : (a0_3 == 0) = false := beq_eq_false_iff_ne.mpr c45
                      have c45b1 : (a0_3 != 0) = true := bne_iff_ne.mpr c45
                      obtain rfl := Option.some.inj H
                      have hcz49_0 : wc.cell? ⟨gb209, 0, none⟩ = some (.int .i64 a0_0) := (blk_cell BK209.out 0).trans rfl
                      have hcz49_1 : wc.cell? ⟨gb209, 1, none⟩ = some (.int .i64 a0_1) := (blk_cell BK209.out 1).trans rfl
                      have hcz49_2 : wc.cell? ⟨gb209, 2, none⟩ = some (.int .i64 a0_2) := (blk_cell BK209.out 2).trans rfl
                      have hcz49_3 : wc.cell? ⟨gb209, 3, none⟩ = some (.int .i64 a0_3) := (blk_cell BK209.out 3).trans rfl
                      have hcz49_4 : wc.cell? ⟨gb209, 4, none⟩ = some (.int .i64 a0_4) := (blk_cell BK209.out 4).trans rfl
                      have hcz49_5 : wc.cell? ⟨gb209, 5, none⟩ = some (.slice A0_5 l0_5.length c0_5) := (blk_cell BK209.out 5).trans rfl
                      have hfz49_0 := blk_frozen BK209.out 0
                      have hfz49_1 := blk_frozen BK209.out 1
                      have hfz49_2 := blk_frozen BK209.out 2
                      have hfz49_3 := blk_frozen BK209.out 3
                      have hfz49_4 := blk_frozen BK209.out 4
                      have hfz49_5 := blk_frozen BK209.out 5
                      go_wp2_with (first | (go_at_call 53; (with_reducible refine (impl_isXid.calls a0_2 true _ A43.out).mono ?_); rintro e w' ⟨rfl, ⟨nd, rfl⟩⟩; (try first | exact ⟨rfl, _, World.drewN_drewN _ _ _⟩ | exact ⟨rfl, _, Eq.trans (World.drewN_drewN _ _ _) (congrArg (World.drewN _) (Nat.add_assoc _ _ _))⟩)))
                      repeat (go_quiet (first | (go_at_call 53; (with_reducible refine (impl_isXid.calls a0_2 true _ A43.out).mono ?_); rintro e w' ⟨rfl, ⟨nd, rfl⟩⟩; (try first | exact ⟨rfl, _, World.drewN_drewN _ _ _⟩ | exact ⟨rfl, _, Eq.trans (World.drewN_drewN _ _ _) (congrArg (World.drewN _) (Nat.add_assoc _ _ _))⟩))); try go_wp2_with (first | (go_at_call 53; (with_reducible refine (impl_isXid.calls a0_2 true _ A43.out).mono ?_); rintro e w' ⟨rfl, ⟨nd, rfl⟩⟩; (try first | exact ⟨rfl, _, World.drewN_drewN _ _ _⟩ | exact ⟨rfl, _, Eq.trans (World.drewN_drewN _ _ _) (congrArg (World.drewN _) (Nat.add_assoc _ _ _))⟩))))
                      go_ret
                      exact ⟨by first | rfl | (simp [errW_none, errW_some] <;> rfl) | (simp [*, errW_none, errW_some] <;> rfl), by repeat (first | (with_reducible first | exact HB.out | apply below_alloc | apply pw_below_drewN | apply below_drew1 | refine below_set ?_ GE209.out) | exact HB.out)⟩
                  · replace c44 := Bool.eq_false_iff.mpr c44
                    subst c44
                    have H1 : (some false) = some r := by rw [if_neg (show ¬ (false = true) by decide)] at H; exact H
                    clear H
                    have H := H1
                    clear H1
                    obtain rfl := Option.some.inj H
                    have hcz50_0 : wc.cell? ⟨gb209, 0, none⟩ = some (.int .i64 a0_0) := (blk_cell BK209.out 0).trans rfl
                    have hcz50_1 : wc.cell? ⟨gb209, 1, none⟩ = some (.int .i64 a0_1) := (blk_cell BK209.out 1).trans rfl
                    have hcz50_2 : wc.cell? ⟨gb209, 2, none⟩ = some (.int .i64 a0_2) := (blk_cell BK209.out 2).trans rfl
                    have hcz50_3 : wc.cell? ⟨gb209, 3, none⟩ = some (.int .i64 a0_3) := (blk_cell BK209.out 3).trans rfl
                    have hcz50_4 : wc.cell? ⟨gb209, 4, none⟩ = some (.int .i64 a0_4) := (blk_cell BK209.out 4).trans rfl
                    have hcz50_5 : wc.cell? ⟨gb209, 5, none⟩ = some (.slice A0_5 l0_5.length c0_5) := (blk_cell BK209.out 5).trans rfl
                    have hfz50_0 := blk_frozen BK209.out 0
                    have hfz50_1 := blk_frozen BK209.out 1
                    have hfz50_2 := blk_frozen BK209.out 2
                    have hfz50_3 := blk_frozen BK209.out 3
                    have hfz50_4 := blk_frozen BK209.out 4
                    have hfz50_5 := blk_frozen BK209.out 5
                    go_wp2_with (first | (go_at_call 53; (with_reducible refine (impl_isXid.calls a0_2 false _ A43.out).mono ?_); rintro e w' ⟨rfl, ⟨nd, rfl⟩⟩; (try first | exact ⟨rfl, _, World.drewN_drewN _ _ _⟩ | exact ⟨rfl, _, Eq.trans (World.drewN_drewN _ _ _) (congrArg (World.drewN _) (Nat.add_assoc _ _ _))⟩)))
                    repeat (go_quiet (first | (go_at_call 53; (with_reducible refine (impl_isXid.calls a0_2 false _ A43.out).mono ?_); rintro e w' ⟨rfl, ⟨nd, rfl⟩⟩; (try first | exact ⟨rfl, _, World.drewN_drewN _ _ _⟩ | exact ⟨rfl, _, Eq.trans (World.drewN_drewN _ _ _) (congrArg (World.drewN _) (Nat.add_assoc _ _ _))⟩))); try go_wp2_with (first | (go_at_call 53; (with_reducible refine (impl_isXid.calls a0_2 false _ A43.out).mono ?_); rintro e w' ⟨rfl, ⟨nd, rfl⟩⟩; (try first | exact ⟨rfl, _, World.drewN_drewN _ _ _⟩ | exact ⟨rfl, _, Eq.trans (World.drewN_drewN _ _ _) (congrArg (World.drewN _) (Nat.add_assoc _ _ _))⟩))))
                    go_ret
                    exact ⟨by first | rfl | (simp [errW_none, errW_some] <;> rfl) | (simp [*, errW_none, errW_some] <;> rfl), by repeat (first | (with_reducible first | exact HB.out | apply below_alloc | apply pw_below_drewN | apply below_drew1 | refine below_set ?_ GE209.out) | exact HB.out)⟩
                · rw [if_neg c42] at H
                  have c42b0 : (a0_0 == 5) = false := beq_eq_false_iff_ne.mpr c42
                  have c42b1 : (a0_0 != 5) = true := bne_iff_ne.mpr c42
                  obtain rfl := Option.some.inj H
                  have hcz51_0 : wc.cell? ⟨gb209, 0, none⟩ = some (.int .i64 a0_0) := (blk_cell BK209.out 0).trans rfl
                  have hcz51_1 : wc.cell? ⟨gb209, 1, none⟩ = some (.int .i64 a0_1) := (blk_cell BK209.out 1).trans rfl
                  have hcz51_2 : wc.cell? ⟨gb209, 2, none⟩ = some (.int .i64 a0_2) := (blk_cell BK209.out 2).trans rfl
                  have hcz51_3 : wc.cell? ⟨gb209, 3, none⟩ = some (.int .i64 a0_3) := (blk_cell BK209.out 3).trans rfl
                  have hcz51_4 : wc.cell? ⟨gb209, 4, none⟩ = some (.int .i64 a0_4) := (blk_cell BK209.out 4).trans rfl
                  have hcz51_5 : wc.cell? ⟨gb209, 5, none⟩ = some (.slice A0_5 l0_5.length c0_5) := (blk_cell BK209.out 5).trans rfl
                  have hfz51_0 := blk_frozen BK209.out 0
                  have hfz51_1 := blk_frozen BK209.out 1
                  have hfz51_2 := blk_frozen BK209.out 2
                  have hfz51_3 := blk_frozen BK209.out 3
                  have hfz51_4 := blk_frozen BK209.out 4
                  have hfz51_5 := blk_frozen BK209.out 5
                  go_wp2
                  repeat (go_quiet (fail); try go_wp2)
                  go_ret
                  exact ⟨by first | rfl | (simp [errW_none, errW_some] <;> rfl) | (simp [*, errW_none, errW_some] <;> rfl), by repeat (first | (with_reducible first | exact HB.out | apply below_alloc | apply pw_below_drewN | apply below_drew1 | refine below_set ?_ GE209.out) | exact HB.out)⟩
  · replace c3 := Bool.eq_false_iff.mpr c3
    subst c3
    have H1 : (some false) = some r := by rw [if_neg (show ¬ (false = true) by decide)] at H; exact H
    clear H
    have H := H1
    clear H1
    obtain rfl := Option.some.inj H
    go_enter Try.func24, Try.ntmps24
    go_wp2_with (first | ((with_reducible refine gate_dst (N := 1) rfl ?_); refine box_event ?hg (N := 1) ?hd (cs := #[.int .i64 a0_0, .int .i64 a0_1, .int .i64 a0_2, .int .i64 a0_3, .int .i64 a0_4, .slice A0_5 l0_5.length c0_5]) (t := 37) ?hr ?_; (case hd => rfl); (case hg => rfl); (case hr => first | (go_simp; done) | (go_simp; rfl)); intro gb209 hg w52 hbox hb; have n0_ := Aside0.mk (below_step (by repeat (first | (with_reducible first | exact HB.out | apply below_alloc | apply pw_below_drewN | apply below_drew1) | exact HB.out)) hb); have n1_ := Aside0.mk (hbox); have n2_ := Aside0.mk ((by rw [hg]; exact (below_size (by repeat (first | (with_reducible first | exact HB.out | apply below_alloc | apply pw_below_drewN | apply below_drew1) | exact HB.out))) : w.heap.size ≤ gb209)); have n3_ := Aside0.mk ((by rw [hg]; exact (below_size (by repeat (first | (with_reducible first | exact HB.out | apply below_alloc | apply pw_below_drewN | apply below_drew1) | exact HB.out))) : w.heap.size ≤ gb209)); clear HB; have HB := n0_; have BK209 := n1_; have GW209 := n2_; have GE209 := n3_; clear n0_ n1_ n2_ n3_; clear hb hbox hg; have hcz53_0 : w52.cell? ⟨gb209, 0, none⟩ = some (.int .i64 a0_0) := (blk_cell BK209.out 0).trans rfl; have hcz53_1 : w52.cell? ⟨gb209, 1, none⟩ = some (.int .i64 a0_1) := (blk_cell BK209.out 1).trans rfl; have hcz53_2 : w52.cell? ⟨gb209, 2, none⟩ = some (.int .i64 a0_2) := (blk_cell BK209.out 2).trans rfl; have hcz53_3 : w52.cell? ⟨gb209, 3, none⟩ = some (.int .i64 a0_3) := (blk_cell BK209.out 3).trans rfl; have hcz53_4 : w52.cell? ⟨gb209, 4, none⟩ = some (.int .i64 a0_4) := (blk_cell BK209.out 4).trans rfl; have hcz53_5 : w52.cell? ⟨gb209, 5, none⟩ = some (.slice A0_5 l0_5.length c0_5) := (blk_cell BK209.out 5).trans rfl; have hfz53_0 := blk_frozen BK209.out 0; have hfz53_1 := blk_frozen BK209.out 1; have hfz53_2 := blk_frozen BK209.out 2; have hfz53_3 := blk_frozen BK209.out 3; have hfz53_4 := blk_frozen BK209.out 4; have hfz53_5 := blk_frozen BK209.out 5) | (go_at_call 50; (with_reducible refine (impl_isLsn.calls a0_1 false _ A2.out).mono ?_); rintro e w' ⟨rfl, ⟨nd, rfl⟩⟩; (try first | exact ⟨rfl, _, World.drewN_drewN _ _ _⟩ | exact ⟨rfl, _, Eq.trans (World.drewN_drewN _ _ _) (congrArg (World.drewN _) (Nat.add_assoc _ _ _))⟩)))
    repeat (go_quiet (first | ((with_reducible refine gate_dst (N := 1) rfl ?_); refine box_event ?hg (N := 1) ?hd (cs := #[.int .i64 a0_0, .int .i64 a0_1, .int .i64 a0_2, .int .i64 a0_3, .int .i64 a0_4, .slice A0_5 l0_5.length c0_5]) (t := 37) ?hr ?_; (case hd => rfl); (case hg => rfl); (case hr => first | (go_simp; done) | (go_simp; rfl)); intro gb209 hg w52 hbox hb; have n0_ := Aside0.mk (below_step (by repeat (first | (with_reducible first | exact HB.out | apply below_alloc | apply pw_below_drewN | apply below_drew1) | exact HB.out)) hb); have n1_ := Aside0.mk (hbox); have n2_ := Aside0.mk ((by rw [hg]; exact (below_size (by repeat (first | (with_reducible first | exact HB.out | apply below_alloc | apply pw_below_drewN | apply below_drew1) | exact HB.out))) : w.heap.size ≤ gb209)); have n3_ := Aside0.mk ((by rw [hg]; exact (below_size (by repeat (first | (with_reducible first | exact HB.out | apply below_alloc | apply pw_below_drewN | apply below_drew1) | exact HB.out))) : w.heap.size ≤ gb209)); clear HB; have HB := n0_; have BK209 := n1_; have GW209 := n2_; have GE209 := n3_; clear n0_ n1_ n2_ n3_; clear hb hbox hg; have hcz53_0 : w52.cell? ⟨gb209, 0, none⟩ = some (.int .i64 a0_0) := (blk_cell BK209.out 0).trans rfl; have hcz53_1 : w52.cell? ⟨gb209, 1, none⟩ = some (.int .i64 a0_1) := (blk_cell BK209.out 1).trans rfl; have hcz53_2 : w52.cell? ⟨gb209, 2, none⟩ = some (.int .i64 a0_2) := (blk_cell BK209.out 2).trans rfl; have hcz53_3 : w52.cell? ⟨gb209, 3, none⟩ = some (.int .i64 a0_3) := (blk_cell BK209.out 3).trans rfl; have hcz53_4 : w52.cell? ⟨gb209, 4, none⟩ = some (.int .i64 a0_4) := (blk_cell BK209.out 4).trans rfl; have hcz53_5 : w52.cell? ⟨gb209, 5, none⟩ = some (.slice A0_5 l0_5.length c0_5) := (blk_cell BK209.out 5).trans rfl; have hfz53_0 := blk_frozen BK209.out 0; have hfz53_1 := blk_frozen BK209.out 1; have hfz53_2 := blk_frozen BK209.out 2; have hfz53_3 := blk_frozen BK209.out 3; have hfz53_4 := blk_frozen BK209.out 4; have hfz53_5 := blk_frozen BK209.out 5) | (go_at_call 50; (with_reducible refine (impl_isLsn.calls a0_1 false _ A2.out).mono ?_); rintro e w' ⟨rfl, ⟨nd, rfl⟩⟩; (try first | exact ⟨rfl, _, World.drewN_drewN _ _ _⟩ | exact ⟨rfl, _, Eq.trans (World.drewN_drewN _ _ _) (congrArg (World.drewN _) (Nat.add_assoc _ _ _))⟩))); try go_wp2_with (first | ((with_reducible refine gate_dst (N := 1) rfl ?_); refine box_event ?hg (N := 1) ?hd (cs := #[.int .i64 a0_0, .int .i64 a0_1, .int .i64 a0_2, .int .i64 a0_3, .int .i64 a0_4, .slice A0_5 l0_5.length c0_5]) (t := 37) ?hr ?_; (case hd => rfl); (case hg => rfl); (case hr => first | (go_simp; done) | (go_simp; rfl)); intro gb209 hg w52 hbox hb; have n0_ := Aside0.mk (below_step (by repeat (first | (with_reducible first | exact HB.out | apply below_alloc | apply pw_below_drewN | apply below_drew1) | exact HB.out)) hb); have n1_ := Aside0.mk (hbox); have n2_ := Aside0.mk ((by rw [hg]; exact (below_size (by repeat (first | (with_reducible first | exact HB.out | apply below_alloc | apply pw_below_drewN | apply below_drew1) | exact HB.out))) : w.heap.size ≤ gb209)); have n3_ := Aside0.mk ((by rw [hg]; exact (below_size (by repeat (first | (with_reducible first | exact HB.out | apply below_alloc | apply pw_below_drewN | apply below_drew1) | exact HB.out))) : w.heap.size ≤ gb209)); clear HB; have HB := n0_; have BK209 := n1_; have GW209 := n2_; have GE209 := n3_; clear n0_ n1_ n2_ n3_; clear hb hbox hg; have hcz53_0 : w52.cell? ⟨gb209, 0, none⟩ = some (.int .i64 a0_0) := (blk_cell BK209.out 0).trans rfl; have hcz53_1 : w52.cell? ⟨gb209, 1, none⟩ = some (.int .i64 a0_1) := (blk_cell BK209.out 1).trans rfl; have hcz53_2 : w52.cell? ⟨gb209, 2, none⟩ = some (.int .i64 a0_2) := (blk_cell BK209.out 2).trans rfl; have hcz53_3 : w52.cell? ⟨gb209, 3, none⟩ = some (.int .i64 a0_3) := (blk_cell BK209.out 3).trans rfl; have hcz53_4 : w52.cell? ⟨gb209, 4, none⟩ = some (.int .i64 a0_4) := (blk_cell BK209.out 4).trans rfl; have hcz53_5 : w52.cell? ⟨gb209, 5, none⟩ = some (.slice A0_5 l0_5.length c0_5) := (blk_cell BK209.out 5).trans rfl; have hfz53_0 := blk_frozen BK209.out 0; have hfz53_1 := blk_frozen BK209.out 1; have hfz53_2 := blk_frozen BK209.out 2; have hfz53_3 := blk_frozen BK209.out 3; have hfz53_4 := blk_frozen BK209.out 4; have hfz53_5 := blk_frozen BK209.out 5) | (go_at_call 50; (with_reducible refine (impl_isLsn.calls a0_1 false _ A2.out).mono ?_); rintro e w' ⟨rfl, ⟨nd, rfl⟩⟩; (try first | exact ⟨rfl, _, World.drewN_drewN _ _ _⟩ | exact ⟨rfl, _, Eq.trans (World.drewN_drewN _ _ _) (congrArg (World.drewN _) (Nat.add_assoc _ _ _))⟩))))
    go_ret
    exact ⟨by first | rfl | (simp [errW_none, errW_some] <;> rfl) | (simp [*, errW_none, errW_some] <;> rfl), by repeat (first | (with_reducible first | exact HB.out | apply below_alloc | apply pw_below_drewN | apply below_drew1 | refine below_set ?_ GE209.out) | exact HB.out)⟩

/-! ### slices_Grow_byte_byte: function 55 -/
def slices_Grow_byte_byte.f (a0 : Int) : Option (List Int) := if 0 ≤ a0 ∧ a0 ≤ 35184372088832 then some [] else none
theorem slices_Grow_byte_byte.calls (a0 : Int) (r : List Int) (w : World) (h : slices_Grow_byte_byte.f a0 = some r) :
    Calls Try.prog 55 #[.slice none 0 0, .int .i64 a0] w fun e w' => ∃ v0_ : Value, e = .returned (v0_) ∧ Kd.R (Kd.int .u8) 5 w' w.heap.size (fun _ => True) v0_ r ∧ Below w.heap.size w w' := by
  unfold slices_Grow_byte_byte.f at h
  split at h
  · rename_i h0
    obtain rfl := Option.some.inj h
    obtain ⟨n, rfl⟩ := Int.eq_ofNat_of_zero_le h0.1
    exact grow_calls n w (by omega)
  · cases h


end Go.Proofs.Ytkbclccnnllddaa.PFnExactRecordBytes
