-- By this session's own program (wip/xprint.py), over the kit's print.
import Derived.Test.YtkbclccnnllddaaPFnExactLogBytesx0
import Derived.Test.YtkbclccnnllddaaPFnExactLogBytesx1
namespace Go.Proofs.Ytkbclccnnllddaa.PFnExactLogBytes
open Go.RowKit Go.Proofs.YtkbclccnnllddaaW.PrintWords Go.Proofs.YtkbclccnnllddaaW.PrintLast Go.Proofs.YtkbclccnnllddaaW.PrintMore
attribute [local go_sem] max2_int min2_int max_two min_two max_three min_three max_four min_four   -- for this text's walks alone
attribute [local go_sem high] fl_eql fl_neq fl_lss fl_leq fl_gtr fl_geq fl_add fl_sub fl_mul fl_quo fl_neg fl_ofInt fl_toInt fl_store
set_option linter.unusedVariables false
set_option linter.unusedSimpArgs false

/-! ### laws_eqRecordS: function 34 -/
def laws_eqRecordS.l0 : Nat → List (S37) → List (S37) → Int → Option (Bool)
  | 0, _, _, _ => none
  | k + 1, x0, x1, x5 => if x5 < (x0.length : Int) then (if 0 ≤ x5 then (if x5 < (x1.length : Int) then ((laws_eqRecord.f k ((rd_T37 x0 x5).f0) ((rd_T37 x0 x5).f1) ((rd_T37 x0 x5).f2) ((rd_T37 x0 x5).f3) ((rd_T37 x0 x5).f4) ((rd_T37 x0 x5).f5) ((rd_T37 x1 x5).f0) ((rd_T37 x1 x5).f1) ((rd_T37 x1 x5).f2) ((rd_T37 x1 x5).f3) ((rd_T37 x1 x5).f4) ((rd_T37 x1 x5).f5)).bind fun t110 => (if t110 = true then (laws_eqRecordS.l0 k x0 x1 (wrap64 (x5 + 1))) else (some false))) else (none)) else (none)) else (some true)
def laws_eqRecordS.f (k : Nat) (l0 : List (S37)) (l1 : List (S37)) : Option (Bool) := if (l0.length : Int) = (l1.length : Int) then (laws_eqRecordS.l0 k l0 l1 0) else (some false)
theorem laws_eqRecordS.mono_l : ∀ k, (∀ y0 y1 y2, LeO (laws_eqRecordS.l0 k y0 y1 y2) (laws_eqRecordS.l0 (k + 1) y0 y1 y2))
  | 0 => fun _ _ _ r h => by simp [laws_eqRecordS.l0] at h
  | k + 1 => by
    have ih0 := laws_eqRecordS.mono_l k
    · intro y0 y1 y2
      unfold laws_eqRecordS.l0
      repeat' first
      | (with_reducible exact ih0 _ _ _)
      | (with_reducible exact laws_eqRecord.mono _ _ _ _ _ _ _ _ _ _ _ _ _)
      | (with_reducible exact LeO.refl _)
      | (with_reducible exact LeO.none _)
      | (with_reducible refine LeO.ite ?_ ?_)
      | (with_reducible refine LeO.bind ?_ (fun _ => ?_))
      | exact ih0 _ _ _
      | exact laws_eqRecord.mono _ _ _ _ _ _ _ _ _ _ _ _ _
      | exact LeO.none _
      | refine LeO.ite ?_ ?_
      | refine LeO.bind ?_ (fun _ => ?_)
theorem laws_eqRecordS.mono : ∀ a0 a1 k, LeO (laws_eqRecordS.f k a0 a1) (laws_eqRecordS.f (k + 1) a0 a1) := by
  intro a0 a1 k
  have ih0 := laws_eqRecordS.mono_l k
  unfold laws_eqRecordS.f
  repeat' first
      | (with_reducible exact ih0 _ _ _)
      | (with_reducible exact laws_eqRecord.mono _ _ _ _ _ _ _ _ _ _ _ _ _)
      | (with_reducible exact LeO.refl _)
      | (with_reducible exact LeO.none _)
      | (with_reducible refine LeO.ite ?_ ?_)
      | (with_reducible refine LeO.bind ?_ (fun _ => ?_))
      | exact ih0 _ _ _
      | exact laws_eqRecord.mono _ _ _ _ _ _ _ _ _ _ _ _ _
      | exact LeO.none _
      | refine LeO.ite ?_ ?_
      | refine LeO.bind ?_ (fun _ => ?_)
def laws_eqRecordS.T6 : Bool × List (List Nat × List Nat) := (true, [([], []), ([], []), ([0, 1], [0, 1]), ([2], [2]), ([], []), ([], []), ([4, 5], [4, 5]), ([6], [6]), ([3, 7], [3, 7]), ([8], [8])])
def laws_eqRecordS.B6 : List Nat := [0, 0, 3, 7, 0, 0, 48, 112, 255, 511]
theorem laws_eqRecordS.tab6 : rtab .any (opsOf Try.f34 6) = laws_eqRecordS.T6 := by kernel_rfl
theorem laws_eqRecordS.bits6 : waitsOk laws_eqRecordS.T6.2 laws_eqRecordS.B6 = true := by kernel_rfl
set_option maxHeartbeats 8000000 in
set_option maxRecDepth 100000 in
theorem laws_eqRecordS.calls (k : Nat) (A0 : Option Addr) (c0 : Nat) (l0 : List (S37)) (A1 : Option Addr) (c1 : Nat) (l1 : List (S37)) (r : Bool) (w : World) (hr0 : Kd.C k37 w A0 l0.length l0) (hc0 : l0.length ≤ c0) (hr1 : Kd.C k37 w A1 l1.length l1) (hc1 : l1.length ≤ c1) (h : laws_eqRecordS.f k l0 l1 = some r) :
    Calls Try.prog 34 #[.slice A0 l0.length c0, .slice A1 l1.length c1] w fun e w' => e = .returned (.bool r) ∧ Below w.heap.size w w' := by
  have hu37 := Try.underlying37
  have HR0 := Aside0.mk hr0
  have HC0 := Aside0.mk hc0
  clear hr0 hc0
  have HR1 := Aside0.mk hr1
  have HC1 := Aside0.mk hc1
  clear hr1 hc1
  have HB := Aside0.mk (Below.refl w.heap.size w)
  have H : (if (l0.length : Int) = (l1.length : Int) then (laws_eqRecordS.l0 k l0 l1 0) else (some false)) = some r := h
  clear h
  by_cases c3 : (l0.length : Int) = (l1.length : Int)
  · rw [if_pos c3] at H
    have c3b0 : ((l0.length : Int) == (l1.length : Int)) = true := beq_iff_eq.mpr c3
    have c3b1 : ((l0.length : Int) != (l1.length : Int)) = false := bne_eq_false_iff_eq.mpr c3
    have c3b2 : (l0.length == l1.length) = true := by first | simpa using c3 | (simp at c3 ⊢; omega)
    clear c3
    have H' := Aside0.mk H
    clear H
    go_enter Try.func34, Try.ntmps34
    go_wp2
    go_loopg [5] k (fun kq v5 w' => ∃ (x5_1 : Int), v5 = .int .i64 x5_1 ∧ Aside0 (laws_eqRecordS.l0 kq l0 l1 x5_1 = some r) ∧ Aside0 (kq ≤ k) ∧ Aside0 (Below w.heap.size w w'))
    case atStart => exact ⟨(0), (by first | rfl | (simp; done) | (simp [*]; done)), H', ⟨Nat.le_refl _⟩, ⟨by repeat (first | (with_reducible first | exact HB.out | apply below_alloc | apply pw_below_drewN | apply below_drew1) | exact HB.out)⟩⟩
    case round =>
      clear H'
      try clear c1
      try clear p2
      try clear c3
      try clear c3b0
      try clear c3b1
      try clear c3b2
      obtain ⟨x5_1, rfl, HA, HK1, HB⟩ := hrel
      cases gk with
      | zero => exact absurd HA.out (by simp [laws_eqRecordS.l0])
      | succ k1 =>
        have H := HA.out
        clear HA
        simp only [laws_eqRecordS.l0] at H
        by_cases c4 : x5_1 < (l0.length : Int)
        · rw [if_pos c4] at H
          have c4b0 : decide (x5_1 < (l0.length : Int)) = true := decide_eq_true c4
          clear c4
          by_cases c5 : 0 ≤ x5_1
          · rw [if_pos c5] at H
            have c5b0 : decide (0 ≤ x5_1) = true := decide_eq_true c5
            clear c5
            by_cases c6 : x5_1 < (l1.length : Int)
            · rw [if_pos c6] at H
              have c6b0 : decide (x5_1 < (l1.length : Int)) = true := decide_eq_true c6
              clear c6
              replace H := Option.bind_eq_some_iff.mp H
              obtain ⟨t110, A70, H⟩ := H
              replace H : (if t110 = true then (laws_eqRecordS.l0 k1 l0 l1 (wrap64 (x5_1 + 1))) else (some false)) = some r := H
              have A7 := Aside0.mk A70
              clear A70
              by_cases c8 : t110 = true
              · subst c8
                have H1 : (laws_eqRecordS.l0 k1 l0 l1 (wrap64 (x5_1 + 1))) = some r := by rw [if_pos rfl] at H; exact H
                clear H
                have H := H1
                clear H1
                have H' := Aside0.mk H
                clear H
                try go_wp2
                have n0_ := Aside0.mk (below_drew1 HB.out)
                clear HB
                have HB := n0_
                clear n0_
                have p108 : 0 ≤ (x5_1 : Int) := of_decide_eq_true (by first | (with_reducible assumption) | assumption)
                have q108 : x5_1 < (l0.length : Int) := of_decide_eq_true (by first | (with_reducible assumption) | assumption)
                obtain ⟨ad108, A108_5, c108_5, e108, hx108_0, hx108_1, hx108_2, hx108_3, hx108_4, hx108_5, hl108_5, hi108_5⟩ := at_T37 HR0.out x5_1 p108 q108
                have hw108_5 := hx108_5
                have hw108_4 := hx108_4
                have hw108_3 := hx108_3
                have hw108_2 := hx108_2
                have hw108_1 := hx108_1
                have hw108_0 := hx108_0
                cases e108
                replace hx108_0 := (HB.out.cell (World.block_lt_of_cell? w _ hx108_0)).trans hx108_0
                replace hx108_1 := (HB.out.cell (World.block_lt_of_cell? w _ hx108_1)).trans hx108_1
                replace hx108_2 := (HB.out.cell (World.block_lt_of_cell? w _ hx108_2)).trans hx108_2
                replace hx108_3 := (HB.out.cell (World.block_lt_of_cell? w _ hx108_3)).trans hx108_3
                replace hx108_4 := (HB.out.cell (World.block_lt_of_cell? w _ hx108_4)).trans hx108_4
                replace hx108_5 := (HB.out.cell (World.block_lt_of_cell? w _ hx108_5)).trans hx108_5
                have HR108_5 := Aside0.mk hi108_5
                have HC108_5 := Aside0.mk hl108_5
                clear hi108_5 hl108_5
                replace p108 := eq_true p108
                replace q108 := eq_true q108
                have p109 : 0 ≤ (x5_1 : Int) := of_decide_eq_true (by first | (with_reducible assumption) | assumption)
                have q109 : x5_1 < (l1.length : Int) := of_decide_eq_true (by first | (with_reducible assumption) | assumption)
                obtain ⟨ad109, A109_5, c109_5, e109, hx109_0, hx109_1, hx109_2, hx109_3, hx109_4, hx109_5, hl109_5, hi109_5⟩ := at_T37 HR1.out x5_1 p109 q109
                have hw109_5 := hx109_5
                have hw109_4 := hx109_4
                have hw109_3 := hx109_3
                have hw109_2 := hx109_2
                have hw109_1 := hx109_1
                have hw109_0 := hx109_0
                cases e109
                replace hx109_0 := (HB.out.cell (World.block_lt_of_cell? w _ hx109_0)).trans hx109_0
                replace hx109_1 := (HB.out.cell (World.block_lt_of_cell? w _ hx109_1)).trans hx109_1
                replace hx109_2 := (HB.out.cell (World.block_lt_of_cell? w _ hx109_2)).trans hx109_2
                replace hx109_3 := (HB.out.cell (World.block_lt_of_cell? w _ hx109_3)).trans hx109_3
                replace hx109_4 := (HB.out.cell (World.block_lt_of_cell? w _ hx109_4)).trans hx109_4
                replace hx109_5 := (HB.out.cell (World.block_lt_of_cell? w _ hx109_5)).trans hx109_5
                have HR109_5 := Aside0.mk hi109_5
                have HC109_5 := Aside0.mk hl109_5
                clear hi109_5 hl109_5
                replace p109 := eq_true p109
                replace q109 := eq_true q109
                refine start_ (n := 10) (S := fun w' => w'.cell? (ad108.add ((x5_1).toNat * 6)) = some (.int .i64 ((rd_T37 l0 x5_1).f0)) ∧ w'.cell? ⟨(ad108.add ((x5_1).toNat * 6)).block, (ad108.add ((x5_1).toNat * 6)).off + 1, none⟩ = some (.int .i64 ((rd_T37 l0 x5_1).f1)) ∧ w'.cell? ⟨(ad108.add ((x5_1).toNat * 6)).block, (ad108.add ((x5_1).toNat * 6)).off + 2, none⟩ = some (.int .i64 ((rd_T37 l0 x5_1).f2)) ∧ w'.cell? ⟨(ad108.add ((x5_1).toNat * 6)).block, (ad108.add ((x5_1).toNat * 6)).off + 3, none⟩ = some (.int .i64 ((rd_T37 l0 x5_1).f3)) ∧ w'.cell? ⟨(ad108.add ((x5_1).toNat * 6)).block, (ad108.add ((x5_1).toNat * 6)).off + 4, none⟩ = some (.int .i64 ((rd_T37 l0 x5_1).f4)) ∧ w'.cell? ⟨(ad108.add ((x5_1).toNat * 6)).block, (ad108.add ((x5_1).toNat * 6)).off + 5, none⟩ = some (.slice A108_5 ((rd_T37 l0 x5_1).f5).length c108_5) ∧ w'.cell? (ad109.add ((x5_1).toNat * 6)) = some (.int .i64 ((rd_T37 l1 x5_1).f0)) ∧ w'.cell? ⟨(ad109.add ((x5_1).toNat * 6)).block, (ad109.add ((x5_1).toNat * 6)).off + 1, none⟩ = some (.int .i64 ((rd_T37 l1 x5_1).f1)) ∧ w'.cell? ⟨(ad109.add ((x5_1).toNat * 6)).block, (ad109.add ((x5_1).toNat * 6)).off + 2, none⟩ = some (.int .i64 ((rd_T37 l1 x5_1).f2)) ∧ w'.cell? ⟨(ad109.add ((x5_1).toNat * 6)).block, (ad109.add ((x5_1).toNat * 6)).off + 3, none⟩ = some (.int .i64 ((rd_T37 l1 x5_1).f3)) ∧ w'.cell? ⟨(ad109.add ((x5_1).toNat * 6)).block, (ad109.add ((x5_1).toNat * 6)).off + 4, none⟩ = some (.int .i64 ((rd_T37 l1 x5_1).f4)) ∧ w'.cell? ⟨(ad109.add ((x5_1).toNat * 6)).block, (ad109.add ((x5_1).toNat * 6)).off + 5, none⟩ = some (.slice A109_5 ((rd_T37 l1 x5_1).f5).length c109_5)) (ds := []) #[false, false, false, false, false, false, false, false, false, false] (by kernel_rfl) rfl rfl ⟨((HB.out.cell (World.block_lt_of_cell? w _ hw108_0)).trans hw108_0), ((HB.out.cell (World.block_lt_of_cell? w _ hw108_1)).trans hw108_1), ((HB.out.cell (World.block_lt_of_cell? w _ hw108_2)).trans hw108_2), ((HB.out.cell (World.block_lt_of_cell? w _ hw108_3)).trans hw108_3), ((HB.out.cell (World.block_lt_of_cell? w _ hw108_4)).trans hw108_4), ((HB.out.cell (World.block_lt_of_cell? w _ hw108_5)).trans hw108_5), ((HB.out.cell (World.block_lt_of_cell? w _ hw109_0)).trans hw109_0), ((HB.out.cell (World.block_lt_of_cell? w _ hw109_1)).trans hw109_1), ((HB.out.cell (World.block_lt_of_cell? w _ hw109_2)).trans hw109_2), ((HB.out.cell (World.block_lt_of_cell? w _ hw109_3)).trans hw109_3), ((HB.out.cell (World.block_lt_of_cell? w _ hw109_4)).trans hw109_4), ((HB.out.cell (World.block_lt_of_cell? w _ hw109_5)).trans hw109_5)⟩ (fun hHeld => ?_); refine with_tabW laws_eqRecordS.tab6 laws_eqRecordS.bits6 (fun HT_ HW_ => ?_)
                generalize wr.drew = w9 at HB HR108_5 HR109_5 hx108_0 hx108_1 hx108_2 hx108_3 hx108_4 hx108_5 hx109_0 hx109_1 hx109_2 hx109_3 hx109_4 hx109_5 hHeld ⊢
                refine pure_ (i := 0) (N := some 17) (v := ?_) (a' := ?_) #[true, false, false, false, false, false, false, false, false, false] rfl rfl (any_of HT_.out (by kernel_rfl)) (fun _ _ _ h => h) (Or.inl ⟨by rfl, ?_⟩) ?_ ?_
                rotate_left
                · intro w'
                  go_simp
                  with_reducible rfl
                rotate_left
                · simp only [Act.put, List.setIfInBounds_toArray, List.set_cons_zero, List.set_cons_succ, i64_w, i32_w]
                  rfl
                refine pure_ (i := 1) (N := some 18) (v := ?_) (a' := ?_) #[true, true, false, false, false, false, false, false, false, false] rfl rfl (any_of HT_.out (by kernel_rfl)) (fun _ _ _ h => h) (Or.inl ⟨by rfl, ?_⟩) ?_ ?_
                rotate_left
                · intro w'
                  go_simp
                  with_reducible rfl
                rotate_left
                · simp only [Act.put, List.setIfInBounds_toArray, List.set_cons_zero, List.set_cons_succ, i64_w, i32_w]
                  rfl
                refine pure_ (i := 2) (N := some 19) (v := ?_) (a' := ?_) #[true, true, true, false, false, false, false, false, false, false] rfl rfl (any_of HT_.out (by kernel_rfl)) (fun _ _ _ h => h) (Or.inl ⟨by rfl, ?_⟩) ?_ ?_
                rotate_left
                · intro w'
                  go_simp
                  with_reducible rfl
                rotate_left
                · simp only [Act.put, List.setIfInBounds_toArray, List.set_cons_zero, List.set_cons_succ, i64_w, i32_w]
                  rfl
                refine pure_ (i := 4) (N := some 21) (v := ?_) (a' := ?_) #[true, true, true, false, true, false, false, false, false, false] rfl rfl (any_of HT_.out (by kernel_rfl)) (fun _ _ _ h => h) (Or.inl ⟨by rfl, ?_⟩) ?_ ?_
                rotate_left
                · intro w'
                  go_simp
                  with_reducible rfl
                rotate_left
                · simp only [Act.put, List.setIfInBounds_toArray, List.set_cons_zero, List.set_cons_succ, i64_w, i32_w]
                  rfl
                refine pure_ (i := 5) (N := some 22) (v := ?_) (a' := ?_) #[true, true, true, false, true, true, false, false, false, false] rfl rfl (any_of HT_.out (by kernel_rfl)) (fun _ _ _ h => h) (Or.inl ⟨by rfl, ?_⟩) ?_ ?_
                rotate_left
                · intro w'
                  go_simp
                  with_reducible rfl
                rotate_left
                · simp only [Act.put, List.setIfInBounds_toArray, List.set_cons_zero, List.set_cons_succ, i64_w, i32_w]
                  rfl
                refine pure_ (i := 6) (N := some 23) (v := ?_) (a' := ?_) #[true, true, true, false, true, true, true, false, false, false] rfl rfl (any_of HT_.out (by kernel_rfl)) (fun _ _ _ h => h) (Or.inl ⟨by rfl, ?_⟩) ?_ ?_
                rotate_left
                · intro w'
                  go_simp
                  with_reducible rfl
                rotate_left
                · simp only [Act.put, List.setIfInBounds_toArray, List.set_cons_zero, List.set_cons_succ, i64_w, i32_w]
                  rfl
                refine take_ (i := 3) (N := some 20) (v := ?_) (a' := ?_) #[true, true, true, true, true, true, true, false, false, false] rfl rfl (take_ofW HT_.out HW_.out (by kernel_rfl)) (fun _ _ _ h => h) (Or.inl ⟨by rfl, ?_⟩) hHeld ?_ ?_
                rotate_left
                · rintro w' ⟨s0, s1, s2, s3, s4, s5, s6, s7, s8, s9, s10, s11⟩
                  go_simp
                  with_reducible rfl
                rotate_left
                · simp only [Act.put, List.setIfInBounds_toArray, List.set_cons_zero, List.set_cons_succ, i64_w, i32_w]
                  rfl
                refine take_ (i := 7) (N := some 24) (v := ?_) (a' := ?_) #[true, true, true, true, true, true, true, true, false, false] rfl rfl (take_ofW HT_.out HW_.out (by kernel_rfl)) (fun _ _ _ h => h) (Or.inl ⟨by rfl, ?_⟩) hHeld ?_ ?_
                rotate_left
                · rintro w' ⟨s0, s1, s2, s3, s4, s5, s6, s7, s8, s9, s10, s11⟩
                  go_simp
                  with_reducible rfl
                rotate_left
                · simp only [Act.put, List.setIfInBounds_toArray, List.set_cons_zero, List.set_cons_succ, i64_w, i32_w]
                  rfl
                refine one_ (i := 8) (N := some 25) #[true, true, true, true, true, true, true, true, true, false] rfl rfl (one_of HT_.out (by kernel_rfl)) (by decide) (fun K hK => ?_)
                refine goes_ Try.func25 (by kernel_rfl) rfl #[.agg #[.int .i64 ((rd_T37 l0 x5_1).f0), .int .i64 ((rd_T37 l0 x5_1).f1), .int .i64 ((rd_T37 l0 x5_1).f2), .int .i64 ((rd_T37 l0 x5_1).f3), .int .i64 ((rd_T37 l0 x5_1).f4), .slice A108_5 ((rd_T37 l0 x5_1).f5).length c108_5], .agg #[.int .i64 ((rd_T37 l1 x5_1).f0), .int .i64 ((rd_T37 l1 x5_1).f1), .int .i64 ((rd_T37 l1 x5_1).f2), .int .i64 ((rd_T37 l1 x5_1).f3), .int .i64 ((rd_T37 l1 x5_1).f4), .slice A109_5 ((rd_T37 l1 x5_1).f5).length c109_5]] (by rfl) rfl rfl (by (try simp only [List.map_toArray, List.map_cons, List.map_nil]); first | done | rfl | (simp only [List.length_drop, List.length_take]; rfl)) ?_
                with_reducible refine (laws_eqRecord.calls k1 ((rd_T37 l0 x5_1).f0) ((rd_T37 l0 x5_1).f1) ((rd_T37 l0 x5_1).f2) ((rd_T37 l0 x5_1).f3) ((rd_T37 l0 x5_1).f4) _ _ ((rd_T37 l0 x5_1).f5) ((rd_T37 l1 x5_1).f0) ((rd_T37 l1 x5_1).f1) ((rd_T37 l1 x5_1).f2) ((rd_T37 l1 x5_1).f3) ((rd_T37 l1 x5_1).f4) _ _ ((rd_T37 l1 x5_1).f5) true _ ?side1 ?side2 ?side3 ?side4 A7.out).mono ?_
                (case side1 => repeat (first | exact (Kd.C_below HR108_5.out HB.out) | (with_reducible refine Kd.C_alloc ?_ _) | (with_reducible refine Kd.C_drewN ?_ _) | (with_reducible refine Kd.C_drew ?_)))
                (case side2 => exact HC108_5.out)
                (case side3 => repeat (first | exact (Kd.C_below HR109_5.out HB.out) | (with_reducible refine Kd.C_alloc ?_ _) | (with_reducible refine Kd.C_drewN ?_ _) | (with_reducible refine Kd.C_drew ?_)))
                (case side4 => exact HC109_5.out)
                rintro e w10 ⟨rfl, hb⟩
                refine ⟨_, rfl, ?_⟩
                have n0_ := Aside0.mk (below_step (by repeat (first | (with_reducible first | exact HB.out | apply below_alloc | apply pw_below_drewN | apply below_drew1) | exact HB.out)) hb)
                clear HB
                have HB := n0_
                clear n0_
                (try clear hb)
                (try clear hb2)
                (try clear hk)
                (try clear hi)
                refine hK.out _ _ ⟨((HB.out.cell (World.block_lt_of_cell? w _ hw108_0)).trans hw108_0), ((HB.out.cell (World.block_lt_of_cell? w _ hw108_1)).trans hw108_1), ((HB.out.cell (World.block_lt_of_cell? w _ hw108_2)).trans hw108_2), ((HB.out.cell (World.block_lt_of_cell? w _ hw108_3)).trans hw108_3), ((HB.out.cell (World.block_lt_of_cell? w _ hw108_4)).trans hw108_4), ((HB.out.cell (World.block_lt_of_cell? w _ hw108_5)).trans hw108_5), ((HB.out.cell (World.block_lt_of_cell? w _ hw109_0)).trans hw109_0), ((HB.out.cell (World.block_lt_of_cell? w _ hw109_1)).trans hw109_1), ((HB.out.cell (World.block_lt_of_cell? w _ hw109_2)).trans hw109_2), ((HB.out.cell (World.block_lt_of_cell? w _ hw109_3)).trans hw109_3), ((HB.out.cell (World.block_lt_of_cell? w _ hw109_4)).trans hw109_4), ((HB.out.cell (World.block_lt_of_cell? w _ hw109_5)).trans hw109_5)⟩ (fun hHeld => ?_)
                clear hK K
                refine norm_ (a' := ?_) ?_ ?_
                rotate_left
                · show Act.put _ (some 25) _ = _
                  simp only [Act.put, List.setIfInBounds_toArray, List.set_cons_zero, List.set_cons_succ, i64_w, i32_w]
                  rfl
                refine pure_ (i := 9) (N := some 26) (v := ?_) (a' := ?_) #[true, true, true, true, true, true, true, true, true, true] rfl rfl (any_of HT_.out (by kernel_rfl)) (fun _ _ _ h => h) (Or.inl ⟨by rfl, ?_⟩) ?_ ?_
                rotate_left
                · intro w'
                  go_simp
                  with_reducible rfl
                rotate_left
                · simp only [Act.put, List.setIfInBounds_toArray, List.set_cons_zero, List.set_cons_succ, i64_w, i32_w]
                  rfl
                refine done_ (done_of HT_.out (by kernel_rfl)) ?_
                try go_wp2
                go_roundg k1
                case measure => have := HK1.out; omega
                case rel => exact ⟨(wrap64 (x5_1 + 1)), (by first | rfl | (simp; done) | (simp [*]; done)), H', ⟨by have := HK1.out; omega⟩, ⟨by repeat (first | (with_reducible first | exact HB.out | apply below_alloc | apply pw_below_drewN | apply below_drew1) | exact HB.out)⟩⟩
              · replace c8 := Bool.eq_false_iff.mpr c8
                subst c8
                have H1 : (some false) = some r := by rw [if_neg (show ¬ (false = true) by decide)] at H; exact H
                clear H
                have H := H1
                clear H1
                obtain rfl := Option.some.inj H
                try go_wp2
                have n0_ := Aside0.mk (below_drew1 HB.out)
                clear HB
                have HB := n0_
                clear n0_
                have p108 : 0 ≤ (x5_1 : Int) := of_decide_eq_true (by first | (with_reducible assumption) | assumption)
                have q108 : x5_1 < (l0.length : Int) := of_decide_eq_true (by first | (with_reducible assumption) | assumption)
                obtain ⟨ad108, A108_5, c108_5, e108, hx108_0, hx108_1, hx108_2, hx108_3, hx108_4, hx108_5, hl108_5, hi108_5⟩ := at_T37 HR0.out x5_1 p108 q108
                have hw108_5 := hx108_5
                have hw108_4 := hx108_4
                have hw108_3 := hx108_3
                have hw108_2 := hx108_2
                have hw108_1 := hx108_1
                have hw108_0 := hx108_0
                cases e108
                replace hx108_0 := (HB.out.cell (World.block_lt_of_cell? w _ hx108_0)).trans hx108_0
                replace hx108_1 := (HB.out.cell (World.block_lt_of_cell? w _ hx108_1)).trans hx108_1
                replace hx108_2 := (HB.out.cell (World.block_lt_of_cell? w _ hx108_2)).trans hx108_2
                replace hx108_3 := (HB.out.cell (World.block_lt_of_cell? w _ hx108_3)).trans hx108_3
                replace hx108_4 := (HB.out.cell (World.block_lt_of_cell? w _ hx108_4)).trans hx108_4
                replace hx108_5 := (HB.out.cell (World.block_lt_of_cell? w _ hx108_5)).trans hx108_5
                have HR108_5 := Aside0.mk hi108_5
                have HC108_5 := Aside0.mk hl108_5
                clear hi108_5 hl108_5
                replace p108 := eq_true p108
                replace q108 := eq_true q108
                have p109 : 0 ≤ (x5_1 : Int) := of_decide_eq_true (by first | (with_reducible assumption) | assumption)
                have q109 : x5_1 < (l1.length : Int) := of_decide_eq_true (by first | (with_reducible assumption) | assumption)
                obtain ⟨ad109, A109_5, c109_5, e109, hx109_0, hx109_1, hx109_2, hx109_3, hx109_4, hx109_5, hl109_5, hi109_5⟩ := at_T37 HR1.out x5_1 p109 q109
                have hw109_5 := hx109_5
                have hw109_4 := hx109_4
                have hw109_3 := hx109_3
                have hw109_2 := hx109_2
                have hw109_1 := hx109_1
                have hw109_0 := hx109_0
                cases e109
                replace hx109_0 := (HB.out.cell (World.block_lt_of_cell? w _ hx109_0)).trans hx109_0
                replace hx109_1 := (HB.out.cell (World.block_lt_of_cell? w _ hx109_1)).trans hx109_1
                replace hx109_2 := (HB.out.cell (World.block_lt_of_cell? w _ hx109_2)).trans hx109_2
                replace hx109_3 := (HB.out.cell (World.block_lt_of_cell? w _ hx109_3)).trans hx109_3
                replace hx109_4 := (HB.out.cell (World.block_lt_of_cell? w _ hx109_4)).trans hx109_4
                replace hx109_5 := (HB.out.cell (World.block_lt_of_cell? w _ hx109_5)).trans hx109_5
                have HR109_5 := Aside0.mk hi109_5
                have HC109_5 := Aside0.mk hl109_5
                clear hi109_5 hl109_5
                replace p109 := eq_true p109
                replace q109 := eq_true q109
                refine start_ (n := 10) (S := fun w' => w'.cell? (ad108.add ((x5_1).toNat * 6)) = some (.int .i64 ((rd_T37 l0 x5_1).f0)) ∧ w'.cell? ⟨(ad108.add ((x5_1).toNat * 6)).block, (ad108.add ((x5_1).toNat * 6)).off + 1, none⟩ = some (.int .i64 ((rd_T37 l0 x5_1).f1)) ∧ w'.cell? ⟨(ad108.add ((x5_1).toNat * 6)).block, (ad108.add ((x5_1).toNat * 6)).off + 2, none⟩ = some (.int .i64 ((rd_T37 l0 x5_1).f2)) ∧ w'.cell? ⟨(ad108.add ((x5_1).toNat * 6)).block, (ad108.add ((x5_1).toNat * 6)).off + 3, none⟩ = some (.int .i64 ((rd_T37 l0 x5_1).f3)) ∧ w'.cell? ⟨(ad108.add ((x5_1).toNat * 6)).block, (ad108.add ((x5_1).toNat * 6)).off + 4, none⟩ = some (.int .i64 ((rd_T37 l0 x5_1).f4)) ∧ w'.cell? ⟨(ad108.add ((x5_1).toNat * 6)).block, (ad108.add ((x5_1).toNat * 6)).off + 5, none⟩ = some (.slice A108_5 ((rd_T37 l0 x5_1).f5).length c108_5) ∧ w'.cell? (ad109.add ((x5_1).toNat * 6)) = some (.int .i64 ((rd_T37 l1 x5_1).f0)) ∧ w'.cell? ⟨(ad109.add ((x5_1).toNat * 6)).block, (ad109.add ((x5_1).toNat * 6)).off + 1, none⟩ = some (.int .i64 ((rd_T37 l1 x5_1).f1)) ∧ w'.cell? ⟨(ad109.add ((x5_1).toNat * 6)).block, (ad109.add ((x5_1).toNat * 6)).off + 2, none⟩ = some (.int .i64 ((rd_T37 l1 x5_1).f2)) ∧ w'.cell? ⟨(ad109.add ((x5_1).toNat * 6)).block, (ad109.add ((x5_1).toNat * 6)).off + 3, none⟩ = some (.int .i64 ((rd_T37 l1 x5_1).f3)) ∧ w'.cell? ⟨(ad109.add ((x5_1).toNat * 6)).block, (ad109.add ((x5_1).toNat * 6)).off + 4, none⟩ = some (.int .i64 ((rd_T37 l1 x5_1).f4)) ∧ w'.cell? ⟨(ad109.add ((x5_1).toNat * 6)).block, (ad109.add ((x5_1).toNat * 6)).off + 5, none⟩ = some (.slice A109_5 ((rd_T37 l1 x5_1).f5).length c109_5)) (ds := []) #[false, false, false, false, false, false, false, false, false, false] (by kernel_rfl) rfl rfl ⟨((HB.out.cell (World.block_lt_of_cell? w _ hw108_0)).trans hw108_0), ((HB.out.cell (World.block_lt_of_cell? w _ hw108_1)).trans hw108_1), ((HB.out.cell (World.block_lt_of_cell? w _ hw108_2)).trans hw108_2), ((HB.out.cell (World.block_lt_of_cell? w _ hw108_3)).trans hw108_3), ((HB.out.cell (World.block_lt_of_cell? w _ hw108_4)).trans hw108_4), ((HB.out.cell (World.block_lt_of_cell? w _ hw108_5)).trans hw108_5), ((HB.out.cell (World.block_lt_of_cell? w _ hw109_0)).trans hw109_0), ((HB.out.cell (World.block_lt_of_cell? w _ hw109_1)).trans hw109_1), ((HB.out.cell (World.block_lt_of_cell? w _ hw109_2)).trans hw109_2), ((HB.out.cell (World.block_lt_of_cell? w _ hw109_3)).trans hw109_3), ((HB.out.cell (World.block_lt_of_cell? w _ hw109_4)).trans hw109_4), ((HB.out.cell (World.block_lt_of_cell? w _ hw109_5)).trans hw109_5)⟩ (fun hHeld => ?_); refine with_tabW laws_eqRecordS.tab6 laws_eqRecordS.bits6 (fun HT_ HW_ => ?_)
                generalize wr.drew = w11 at HB HR108_5 HR109_5 hx108_0 hx108_1 hx108_2 hx108_3 hx108_4 hx108_5 hx109_0 hx109_1 hx109_2 hx109_3 hx109_4 hx109_5 hHeld ⊢
                refine pure_ (i := 0) (N := some 17) (v := ?_) (a' := ?_) #[true, false, false, false, false, false, false, false, false, false] rfl rfl (any_of HT_.out (by kernel_rfl)) (fun _ _ _ h => h) (Or.inl ⟨by rfl, ?_⟩) ?_ ?_
                rotate_left
                · intro w'
                  go_simp
                  with_reducible rfl
                rotate_left
                · simp only [Act.put, List.setIfInBounds_toArray, List.set_cons_zero, List.set_cons_succ, i64_w, i32_w]
                  rfl
                refine pure_ (i := 1) (N := some 18) (v := ?_) (a' := ?_) #[true, true, false, false, false, false, false, false, false, false] rfl rfl (any_of HT_.out (by kernel_rfl)) (fun _ _ _ h => h) (Or.inl ⟨by rfl, ?_⟩) ?_ ?_
                rotate_left
                · intro w'
                  go_simp
                  with_reducible rfl
                rotate_left
                · simp only [Act.put, List.setIfInBounds_toArray, List.set_cons_zero, List.set_cons_succ, i64_w, i32_w]
                  rfl
                refine pure_ (i := 2) (N := some 19) (v := ?_) (a' := ?_) #[true, true, true, false, false, false, false, false, false, false] rfl rfl (any_of HT_.out (by kernel_rfl)) (fun _ _ _ h => h) (Or.inl ⟨by rfl, ?_⟩) ?_ ?_
                rotate_left
                · intro w'
                  go_simp
                  with_reducible rfl
                rotate_left
                · simp only [Act.put, List.setIfInBounds_toArray, List.set_cons_zero, List.set_cons_succ, i64_w, i32_w]
                  rfl
                refine pure_ (i := 4) (N := some 21) (v := ?_) (a' := ?_) #[true, true, true, false, true, false, false, false, false, false] rfl rfl (any_of HT_.out (by kernel_rfl)) (fun _ _ _ h => h) (Or.inl ⟨by rfl, ?_⟩) ?_ ?_
                rotate_left
                · intro w'
                  go_simp
                  with_reducible rfl
                rotate_left
                · simp only [Act.put, List.setIfInBounds_toArray, List.set_cons_zero, List.set_cons_succ, i64_w, i32_w]
                  rfl
                refine pure_ (i := 5) (N := some 22) (v := ?_) (a' := ?_) #[true, true, true, false, true, true, false, false, false, false] rfl rfl (any_of HT_.out (by kernel_rfl)) (fun _ _ _ h => h) (Or.inl ⟨by rfl, ?_⟩) ?_ ?_
                rotate_left
                · intro w'
                  go_simp
                  with_reducible rfl
                rotate_left
                · simp only [Act.put, List.setIfInBounds_toArray, List.set_cons_zero, List.set_cons_succ, i64_w, i32_w]
                  rfl
                refine pure_ (i := 6) (N := some 23) (v := ?_) (a' := ?_) #[true, true, true, false, true, true, true, false, false, false] rfl rfl (any_of HT_.out (by kernel_rfl)) (fun _ _ _ h => h) (Or.inl ⟨by rfl, ?_⟩) ?_ ?_
                rotate_left
                · intro w'
                  go_simp
                  with_reducible rfl
                rotate_left
                · simp only [Act.put, List.setIfInBounds_toArray, List.set_cons_zero, List.set_cons_succ, i64_w, i32_w]
                  rfl
                refine take_ (i := 3) (N := some 20) (v := ?_) (a' := ?_) #[true, true, true, true, true, true, true, false, false, false] rfl rfl (take_ofW HT_.out HW_.out (by kernel_rfl)) (fun _ _ _ h => h) (Or.inl ⟨by rfl, ?_⟩) hHeld ?_ ?_
                rotate_left
                · rintro w' ⟨s0, s1, s2, s3, s4, s5, s6, s7, s8, s9, s10, s11⟩
                  go_simp
                  with_reducible rfl
                rotate_left
                · simp only [Act.put, List.setIfInBounds_toArray, List.set_cons_zero, List.set_cons_succ, i64_w, i32_w]
                  rfl
                refine take_ (i := 7) (N := some 24) (v := ?_) (a' := ?_) #[true, true, true, true, true, true, true, true, false, false] rfl rfl (take_ofW HT_.out HW_.out (by kernel_rfl)) (fun _ _ _ h => h) (Or.inl ⟨by rfl, ?_⟩) hHeld ?_ ?_
                rotate_left
                · rintro w' ⟨s0, s1, s2, s3, s4, s5, s6, s7, s8, s9, s10, s11⟩
                  go_simp
                  with_reducible rfl
                rotate_left
                · simp only [Act.put, List.setIfInBounds_toArray, List.set_cons_zero, List.set_cons_succ, i64_w, i32_w]
                  rfl
                refine one_ (i := 8) (N := some 25) #[true, true, true, true, true, true, true, true, true, false] rfl rfl (one_of HT_.out (by kernel_rfl)) (by decide) (fun K hK => ?_)
                refine goes_ Try.func25 (by kernel_rfl) rfl #[.agg #[.int .i64 ((rd_T37 l0 x5_1).f0), .int .i64 ((rd_T37 l0 x5_1).f1), .int .i64 ((rd_T37 l0 x5_1).f2), .int .i64 ((rd_T37 l0 x5_1).f3), .int .i64 ((rd_T37 l0 x5_1).f4), .slice A108_5 ((rd_T37 l0 x5_1).f5).length c108_5], .agg #[.int .i64 ((rd_T37 l1 x5_1).f0), .int .i64 ((rd_T37 l1 x5_1).f1), .int .i64 ((rd_T37 l1 x5_1).f2), .int .i64 ((rd_T37 l1 x5_1).f3), .int .i64 ((rd_T37 l1 x5_1).f4), .slice A109_5 ((rd_T37 l1 x5_1).f5).length c109_5]] (by rfl) rfl rfl (by (try simp only [List.map_toArray, List.map_cons, List.map_nil]); first | done | rfl | (simp only [List.length_drop, List.length_take]; rfl)) ?_
                with_reducible refine (laws_eqRecord.calls k1 ((rd_T37 l0 x5_1).f0) ((rd_T37 l0 x5_1).f1) ((rd_T37 l0 x5_1).f2) ((rd_T37 l0 x5_1).f3) ((rd_T37 l0 x5_1).f4) _ _ ((rd_T37 l0 x5_1).f5) ((rd_T37 l1 x5_1).f0) ((rd_T37 l1 x5_1).f1) ((rd_T37 l1 x5_1).f2) ((rd_T37 l1 x5_1).f3) ((rd_T37 l1 x5_1).f4) _ _ ((rd_T37 l1 x5_1).f5) false _ ?side1 ?side2 ?side3 ?side4 A7.out).mono ?_
                (case side1 => repeat (first | exact (Kd.C_below HR108_5.out HB.out) | (with_reducible refine Kd.C_alloc ?_ _) | (with_reducible refine Kd.C_drewN ?_ _) | (with_reducible refine Kd.C_drew ?_)))
                (case side2 => exact HC108_5.out)
                (case side3 => repeat (first | exact (Kd.C_below HR109_5.out HB.out) | (with_reducible refine Kd.C_alloc ?_ _) | (with_reducible refine Kd.C_drewN ?_ _) | (with_reducible refine Kd.C_drew ?_)))
                (case side4 => exact HC109_5.out)
                rintro e w12 ⟨rfl, hb⟩
                refine ⟨_, rfl, ?_⟩
                have n0_ := Aside0.mk (below_step (by repeat (first | (with_reducible first | exact HB.out | apply below_alloc | apply pw_below_drewN | apply below_drew1) | exact HB.out)) hb)
                clear HB
                have HB := n0_
                clear n0_
                (try clear hb)
                (try clear hb2)
                (try clear hk)
                (try clear hi)
                refine hK.out _ _ ⟨((HB.out.cell (World.block_lt_of_cell? w _ hw108_0)).trans hw108_0), ((HB.out.cell (World.block_lt_of_cell? w _ hw108_1)).trans hw108_1), ((HB.out.cell (World.block_lt_of_cell? w _ hw108_2)).trans hw108_2), ((HB.out.cell (World.block_lt_of_cell? w _ hw108_3)).trans hw108_3), ((HB.out.cell (World.block_lt_of_cell? w _ hw108_4)).trans hw108_4), ((HB.out.cell (World.block_lt_of_cell? w _ hw108_5)).trans hw108_5), ((HB.out.cell (World.block_lt_of_cell? w _ hw109_0)).trans hw109_0), ((HB.out.cell (World.block_lt_of_cell? w _ hw109_1)).trans hw109_1), ((HB.out.cell (World.block_lt_of_cell? w _ hw109_2)).trans hw109_2), ((HB.out.cell (World.block_lt_of_cell? w _ hw109_3)).trans hw109_3), ((HB.out.cell (World.block_lt_of_cell? w _ hw109_4)).trans hw109_4), ((HB.out.cell (World.block_lt_of_cell? w _ hw109_5)).trans hw109_5)⟩ (fun hHeld => ?_)
                clear hK K
                refine norm_ (a' := ?_) ?_ ?_
                rotate_left
                · show Act.put _ (some 25) _ = _
                  simp only [Act.put, List.setIfInBounds_toArray, List.set_cons_zero, List.set_cons_succ, i64_w, i32_w]
                  rfl
                refine pure_ (i := 9) (N := some 26) (v := ?_) (a' := ?_) #[true, true, true, true, true, true, true, true, true, true] rfl rfl (any_of HT_.out (by kernel_rfl)) (fun _ _ _ h => h) (Or.inl ⟨by rfl, ?_⟩) ?_ ?_
                rotate_left
                · intro w'
                  go_simp
                  with_reducible rfl
                rotate_left
                · simp only [Act.put, List.setIfInBounds_toArray, List.set_cons_zero, List.set_cons_succ, i64_w, i32_w]
                  rfl
                refine done_ (done_of HT_.out (by kernel_rfl)) ?_
                try go_wp2
                go_ret
                exact ⟨by first | rfl | (simp [errW_none, errW_some] <;> rfl) | (simp [*, errW_none, errW_some] <;> rfl), by repeat (first | (with_reducible first | exact HB.out | apply below_alloc | apply pw_below_drewN | apply below_drew1) | exact HB.out)⟩
            · rw [if_neg c6] at H
              exact absurd H (by simp)
          · rw [if_neg c5] at H
            exact absurd H (by simp)
        · rw [if_neg c4] at H
          have c4b0 : decide (x5_1 < (l0.length : Int)) = false := decide_eq_false c4
          clear c4
          obtain rfl := Option.some.inj H
          go_wp2
          go_ret
          exact ⟨by first | rfl | (simp [errW_none, errW_some] <;> rfl) | (simp [*, errW_none, errW_some] <;> rfl), by repeat (first | (with_reducible first | exact HB.out | apply below_alloc | apply pw_below_drewN | apply below_drew1) | exact HB.out)⟩
  · rw [if_neg c3] at H
    have c3b0 : ((l0.length : Int) == (l1.length : Int)) = false := beq_eq_false_iff_ne.mpr c3
    have c3b1 : ((l0.length : Int) != (l1.length : Int)) = true := bne_iff_ne.mpr c3
    have c3b2 : (l0.length == l1.length) = false := by first | simpa using c3 | (simp at c3 ⊢; omega)
    obtain rfl := Option.some.inj H
    go_enter Try.func34, Try.ntmps34
    go_wp2
    go_ret
    exact ⟨by first | rfl | (simp [errW_none, errW_some] <;> rfl) | (simp [*, errW_none, errW_some] <;> rfl), by repeat (first | (with_reducible first | exact HB.out | apply below_alloc | apply pw_below_drewN | apply below_drew1) | exact HB.out)⟩

/-! ### laws_markRecordS: function 35 -/
def laws_markRecordS.go (k : Nat) : Nat → Nat → List S37 → Int → Option (Int × List S37)
  | 0, _, y, a => some (a, y)
  | d + 1, i, y, a => if 0 ≤ a ∧ a ≤ 1000000000000 then (laws_markByteS.f k ((y.getD i z37).f5) (a + 1 + 1 + 1 + 1 + 1)).bind fun t => laws_markRecordS.go k d (i + 1) (y.set i ⟨(a), (a + 1), (a + 1 + 1), (a + 1 + 1 + 1), (a + 1 + 1 + 1 + 1), t.2⟩) t.1 else none
def laws_markRecordS.f (k : Nat) (l0 : List (S37)) (a1 : Int) : Option (Int × (List (S37))) := if l0.length ≤ 1048576 then laws_markRecordS.go k l0.length 0 l0 a1 else none
set_option maxHeartbeats 8000000 in
set_option maxRecDepth 100000 in
theorem laws_markRecordS.calls (k : Nat) (P0_ : Nat → Prop) (A0 : Option Addr) (c0 : Nat) (l0 : List (S37)) (a1 : Int) (r1 : Int) (r2 : List (S37)) (w0 w : World) (hB : Below w0.heap.size w0 w) (ho0 : Kd.S k37 37 w w0.heap.size P0_ (.slice A0 l0.length c0) l0) (h : laws_markRecordS.f k l0 a1 = some (r1, r2)) :
    Calls Try.prog 35 #[.slice A0 l0.length c0, .int .i64 a1] w fun e w' => e = .returned (.int .i64 r1) ∧ Kd.S k37 37 w' w0.heap.size P0_ (.slice A0 l0.length c0) r2 ∧ Below w0.heap.size w0 w' ∧ Kept w w' P0_ := by
  have hu := Try.underlying37
  unfold laws_markRecordS.f at h
  by_cases hlen : l0.length ≤ 1048576
  case neg =>
    rw [if_neg hlen] at h
    cases h
  rw [if_pos hlen] at h
  have H' := Aside0.mk h
  have HO := Aside0.mk ho0
  have HB := Aside0.mk hB
  clear h ho0 hB
  go_enter Try.func35, Try.ntmps35
  go_wp2
  go_loopw [1, 5] (fun v1 v5 wr => ∃ (i : Nat) (a : Int) (y : List (S37)), v1 = .int .i64 a ∧ v5 = .int .i64 (i : Int) ∧ Aside0 (i ≤ l0.length ∧ y.length = l0.length ∧ laws_markRecordS.go k (l0.length - i) i y a = some (r1, r2)) ∧ Aside0 (Kd.S k37 37 wr w0.heap.size P0_ (.slice A0 l0.length c0) y) ∧ Aside0 (Below w0.heap.size w0 wr) ∧ Aside0 (Kept w wr P0_)) (fun _ v _ => l0.length - (intOf v).toNat)
  case atStart => exact ⟨0, a1, l0, rfl, rfl, ⟨by omega, rfl, H'.out⟩, HO, HB, ⟨Kept.refl _ _⟩⟩
  case round =>
    obtain ⟨i, a, y, rfl, rfl, ⟨hi, hy, hg⟩, HO2, HB2, HK2⟩ := hrel
    by_cases hlt : i < l0.length
    · have cc : decide ((i : Int) < (l0.length : Int)) = true := decide_eq_true (by omega)
      have p1 : 0 ≤ (i : Int) := by omega
      obtain ⟨g, cap, ev, hbg, hgl, _⟩ := Kd.S_form HO2.out (by omega)
      rw [hy] at ev
      injection ev with ea en ec
      subst ea
      subst ec
      have HL := Kd.S_elem HO2.out z37 (i : Int) p1 (by omega)
      obtain ⟨oki, c, hcl, hM, hcc, hfr, hoki, hH⟩ := HL
      obtain ⟨v, rfl, hR⟩ := k37_openM hM
      have hgP : P0_ g := (Kd.S_R HO2.out).1 g (by simp [Value.ownBlock])
      rw [Int.toNat_natCast] at hcc hfr
      rw [show l0.length - i = (l0.length - (i + 1)) + 1 by omega] at hg
      rw [laws_markRecordS.go] at hg
      by_cases hab : 0 ≤ a ∧ a ≤ 1000000000000
      case neg =>
        rw [if_neg hab] at hg
        cases hg
      rw [if_pos hab] at hg
      obtain ⟨h0a, h1a⟩ := hab
      obtain ⟨⟨t1, t2⟩, hA, hg⟩ := Option.bind_eq_some_iff.1 hg
      dsimp only at hg
      have hx0 : wr.cell? ⟨g, i * 6, none⟩ = some (.int .i64 (rdOf z37 y (i : Int)).f0) := hcc 0 _ rfl
      have hx1 : wr.cell? ⟨g, i * 6 + 1, none⟩ = some (.int .i64 (rdOf z37 y (i : Int)).f1) := hcc 1 _ rfl
      have hx2 : wr.cell? ⟨g, i * 6 + 2, none⟩ = some (.int .i64 (rdOf z37 y (i : Int)).f2) := hcc 2 _ rfl
      have hx3 : wr.cell? ⟨g, i * 6 + 3, none⟩ = some (.int .i64 (rdOf z37 y (i : Int)).f3) := hcc 3 _ rfl
      have hx4 : wr.cell? ⟨g, i * 6 + 4, none⟩ = some (.int .i64 (rdOf z37 y (i : Int)).f4) := hcc 4 _ rfl
      have hx5 : wr.cell? ⟨g, i * 6 + 5, none⟩ = some v := hcc 5 v rfl
      have hf0 : wr.frozen? ⟨g, i * 6, none⟩ = false := hfr 0
      have hf1 : wr.frozen? ⟨g, i * 6 + 1, none⟩ = false := hfr 1
      have hf2 : wr.frozen? ⟨g, i * 6 + 2, none⟩ = false := hfr 2
      have hf3 : wr.frozen? ⟨g, i * 6 + 3, none⟩ = false := hfr 3
      have hf4 : wr.frozen? ⟨g, i * 6 + 4, none⟩ = false := hfr 4
      have hf5 : wr.frozen? ⟨g, i * 6 + 5, none⟩ = false := hfr 5
      have HA := Aside0.mk hA
      have HH := Aside0.mk hH
      have HR := Aside0.mk hR
      have HOK := Aside0.mk hoki
      have HGB := Aside0.mk hbg
      clear hcc hfr hA hH hR hoki hM hcl hbg
      have HBW := HB2
      have HKW := HK2
      have hs := Kd.H_seg HH.out p1 (by omega) (seg := [.int .i64 (a)]) (j := 0) (show 0 + 1 ≤ 6 by decide) (by intro q hq; rw [List.mem_singleton.1 hq]; rfl)
      rw [Int.toNat_natCast] at hs
      have hH2 : Kd.H k37 37 (wr.setCell ⟨g, i * 6, none⟩ (.int .i64 (a))) w0.heap.size P0_ (.slice (some ⟨g, 0, none⟩) l0.length c0) y (i : Int) oki [.int .i64 (a), .int .i64 (rdOf z37 y (i : Int)).f1, .int .i64 (rdOf z37 y (i : Int)).f2, .int .i64 (rdOf z37 y (i : Int)).f3, .int .i64 (rdOf z37 y (i : Int)).f4, v] := hs.1
      have hR2 : Kd.R (Kd.int .u8) 5 (wr.setCell ⟨g, i * 6, none⟩ (.int .i64 (a))) w0.heap.size oki v (y.getD i z37).f5 := Kd.R_far (p := ⟨g, i * 6, none⟩) HR.out (fun k hk he => (HOK.out k hk).2 he) _
      have hB2 : Below w0.heap.size w0 (wr.setCell ⟨g, i * 6, none⟩ (.int .i64 (a))) := below_set HBW.out HGB.out
      have hK2 : Kept w (wr.setCell ⟨g, i * 6, none⟩ (.int .i64 (a))) P0_ := Kept.setCell HKW.out (.inl hgP) _
      clear hs HH HR HBW HKW
      have HH := Aside0.mk hH2
      have HR := Aside0.mk hR2
      have HBW := Aside0.mk hB2
      have HKW := Aside0.mk hK2
      clear hH2 hR2 hB2 hK2
      have hs := Kd.H_seg HH.out p1 (by omega) (seg := [.int .i64 (a + 1)]) (j := 1) (show 1 + 1 ≤ 6 by decide) (by intro q hq; rw [List.mem_singleton.1 hq]; rfl)
      rw [Int.toNat_natCast] at hs
      have hH2 : Kd.H k37 37 ((wr.setCell ⟨g, i * 6, none⟩ (.int .i64 (a))).setCell ⟨g, i * 6 + 1, none⟩ (.int .i64 (a + 1))) w0.heap.size P0_ (.slice (some ⟨g, 0, none⟩) l0.length c0) y (i : Int) oki [.int .i64 (a), .int .i64 (a + 1), .int .i64 (rdOf z37 y (i : Int)).f2, .int .i64 (rdOf z37 y (i : Int)).f3, .int .i64 (rdOf z37 y (i : Int)).f4, v] := hs.1
      have hR2 : Kd.R (Kd.int .u8) 5 ((wr.setCell ⟨g, i * 6, none⟩ (.int .i64 (a))).setCell ⟨g, i * 6 + 1, none⟩ (.int .i64 (a + 1))) w0.heap.size oki v (y.getD i z37).f5 := Kd.R_far (p := ⟨g, i * 6 + 1, none⟩) HR.out (fun k hk he => (HOK.out k hk).2 he) _
      have hB2 : Below w0.heap.size w0 ((wr.setCell ⟨g, i * 6, none⟩ (.int .i64 (a))).setCell ⟨g, i * 6 + 1, none⟩ (.int .i64 (a + 1))) := below_set HBW.out HGB.out
      have hK2 : Kept w ((wr.setCell ⟨g, i * 6, none⟩ (.int .i64 (a))).setCell ⟨g, i * 6 + 1, none⟩ (.int .i64 (a + 1))) P0_ := Kept.setCell HKW.out (.inl hgP) _
      clear hs HH HR HBW HKW
      have HH := Aside0.mk hH2
      have HR := Aside0.mk hR2
      have HBW := Aside0.mk hB2
      have HKW := Aside0.mk hK2
      clear hH2 hR2 hB2 hK2
      have hs := Kd.H_seg HH.out p1 (by omega) (seg := [.int .i64 (a + 1 + 1)]) (j := 2) (show 2 + 1 ≤ 6 by decide) (by intro q hq; rw [List.mem_singleton.1 hq]; rfl)
      rw [Int.toNat_natCast] at hs
      have hH2 : Kd.H k37 37 (((wr.setCell ⟨g, i * 6, none⟩ (.int .i64 (a))).setCell ⟨g, i * 6 + 1, none⟩ (.int .i64 (a + 1))).setCell ⟨g, i * 6 + 2, none⟩ (.int .i64 (a + 1 + 1))) w0.heap.size P0_ (.slice (some ⟨g, 0, none⟩) l0.length c0) y (i : Int) oki [.int .i64 (a), .int .i64 (a + 1), .int .i64 (a + 1 + 1), .int .i64 (rdOf z37 y (i : Int)).f3, .int .i64 (rdOf z37 y (i : Int)).f4, v] := hs.1
      have hR2 : Kd.R (Kd.int .u8) 5 (((wr.setCell ⟨g, i * 6, none⟩ (.int .i64 (a))).setCell ⟨g, i * 6 + 1, none⟩ (.int .i64 (a + 1))).setCell ⟨g, i * 6 + 2, none⟩ (.int .i64 (a + 1 + 1))) w0.heap.size oki v (y.getD i z37).f5 := Kd.R_far (p := ⟨g, i * 6 + 2, none⟩) HR.out (fun k hk he => (HOK.out k hk).2 he) _
      have hB2 : Below w0.heap.size w0 (((wr.setCell ⟨g, i * 6, none⟩ (.int .i64 (a))).setCell ⟨g, i * 6 + 1, none⟩ (.int .i64 (a + 1))).setCell ⟨g, i * 6 + 2, none⟩ (.int .i64 (a + 1 + 1))) := below_set HBW.out HGB.out
      have hK2 : Kept w (((wr.setCell ⟨g, i * 6, none⟩ (.int .i64 (a))).setCell ⟨g, i * 6 + 1, none⟩ (.int .i64 (a + 1))).setCell ⟨g, i * 6 + 2, none⟩ (.int .i64 (a + 1 + 1))) P0_ := Kept.setCell HKW.out (.inl hgP) _
      clear hs HH HR HBW HKW
      have HH := Aside0.mk hH2
      have HR := Aside0.mk hR2
      have HBW := Aside0.mk hB2
      have HKW := Aside0.mk hK2
      clear hH2 hR2 hB2 hK2
      have hs := Kd.H_seg HH.out p1 (by omega) (seg := [.int .i64 (a + 1 + 1 + 1)]) (j := 3) (show 3 + 1 ≤ 6 by decide) (by intro q hq; rw [List.mem_singleton.1 hq]; rfl)
      rw [Int.toNat_natCast] at hs
      have hH2 : Kd.H k37 37 ((((wr.setCell ⟨g, i * 6, none⟩ (.int .i64 (a))).setCell ⟨g, i * 6 + 1, none⟩ (.int .i64 (a + 1))).setCell ⟨g, i * 6 + 2, none⟩ (.int .i64 (a + 1 + 1))).setCell ⟨g, i * 6 + 3, none⟩ (.int .i64 (a + 1 + 1 + 1))) w0.heap.size P0_ (.slice (some ⟨g, 0, none⟩) l0.length c0) y (i : Int) oki [.int .i64 (a), .int .i64 (a + 1), .int .i64 (a + 1 + 1), .int .i64 (a + 1 + 1 + 1), .int .i64 (rdOf z37 y (i : Int)).f4, v] := hs.1
      have hR2 : Kd.R (Kd.int .u8) 5 ((((wr.setCell ⟨g, i * 6, none⟩ (.int .i64 (a))).setCell ⟨g, i * 6 + 1, none⟩ (.int .i64 (a + 1))).setCell ⟨g, i * 6 + 2, none⟩ (.int .i64 (a + 1 + 1))).setCell ⟨g, i * 6 + 3, none⟩ (.int .i64 (a + 1 + 1 + 1))) w0.heap.size oki v (y.getD i z37).f5 := Kd.R_far (p := ⟨g, i * 6 + 3, none⟩) HR.out (fun k hk he => (HOK.out k hk).2 he) _
      have hB2 : Below w0.heap.size w0 ((((wr.setCell ⟨g, i * 6, none⟩ (.int .i64 (a))).setCell ⟨g, i * 6 + 1, none⟩ (.int .i64 (a + 1))).setCell ⟨g, i * 6 + 2, none⟩ (.int .i64 (a + 1 + 1))).setCell ⟨g, i * 6 + 3, none⟩ (.int .i64 (a + 1 + 1 + 1))) := below_set HBW.out HGB.out
      have hK2 : Kept w ((((wr.setCell ⟨g, i * 6, none⟩ (.int .i64 (a))).setCell ⟨g, i * 6 + 1, none⟩ (.int .i64 (a + 1))).setCell ⟨g, i * 6 + 2, none⟩ (.int .i64 (a + 1 + 1))).setCell ⟨g, i * 6 + 3, none⟩ (.int .i64 (a + 1 + 1 + 1))) P0_ := Kept.setCell HKW.out (.inl hgP) _
      clear hs HH HR HBW HKW
      have HH := Aside0.mk hH2
      have HR := Aside0.mk hR2
      have HBW := Aside0.mk hB2
      have HKW := Aside0.mk hK2
      clear hH2 hR2 hB2 hK2
      have hs := Kd.H_seg HH.out p1 (by omega) (seg := [.int .i64 (a + 1 + 1 + 1 + 1)]) (j := 4) (show 4 + 1 ≤ 6 by decide) (by intro q hq; rw [List.mem_singleton.1 hq]; rfl)
      rw [Int.toNat_natCast] at hs
      have hH2 : Kd.H k37 37 (((((wr.setCell ⟨g, i * 6, none⟩ (.int .i64 (a))).setCell ⟨g, i * 6 + 1, none⟩ (.int .i64 (a + 1))).setCell ⟨g, i * 6 + 2, none⟩ (.int .i64 (a + 1 + 1))).setCell ⟨g, i * 6 + 3, none⟩ (.int .i64 (a + 1 + 1 + 1))).setCell ⟨g, i * 6 + 4, none⟩ (.int .i64 (a + 1 + 1 + 1 + 1))) w0.heap.size P0_ (.slice (some ⟨g, 0, none⟩) l0.length c0) y (i : Int) oki [.int .i64 (a), .int .i64 (a + 1), .int .i64 (a + 1 + 1), .int .i64 (a + 1 + 1 + 1), .int .i64 (a + 1 + 1 + 1 + 1), v] := hs.1
      have hR2 : Kd.R (Kd.int .u8) 5 (((((wr.setCell ⟨g, i * 6, none⟩ (.int .i64 (a))).setCell ⟨g, i * 6 + 1, none⟩ (.int .i64 (a + 1))).setCell ⟨g, i * 6 + 2, none⟩ (.int .i64 (a + 1 + 1))).setCell ⟨g, i * 6 + 3, none⟩ (.int .i64 (a + 1 + 1 + 1))).setCell ⟨g, i * 6 + 4, none⟩ (.int .i64 (a + 1 + 1 + 1 + 1))) w0.heap.size oki v (y.getD i z37).f5 := Kd.R_far (p := ⟨g, i * 6 + 4, none⟩) HR.out (fun k hk he => (HOK.out k hk).2 he) _
      have hB2 : Below w0.heap.size w0 (((((wr.setCell ⟨g, i * 6, none⟩ (.int .i64 (a))).setCell ⟨g, i * 6 + 1, none⟩ (.int .i64 (a + 1))).setCell ⟨g, i * 6 + 2, none⟩ (.int .i64 (a + 1 + 1))).setCell ⟨g, i * 6 + 3, none⟩ (.int .i64 (a + 1 + 1 + 1))).setCell ⟨g, i * 6 + 4, none⟩ (.int .i64 (a + 1 + 1 + 1 + 1))) := below_set HBW.out HGB.out
      have hK2 : Kept w (((((wr.setCell ⟨g, i * 6, none⟩ (.int .i64 (a))).setCell ⟨g, i * 6 + 1, none⟩ (.int .i64 (a + 1))).setCell ⟨g, i * 6 + 2, none⟩ (.int .i64 (a + 1 + 1))).setCell ⟨g, i * 6 + 3, none⟩ (.int .i64 (a + 1 + 1 + 1))).setCell ⟨g, i * 6 + 4, none⟩ (.int .i64 (a + 1 + 1 + 1 + 1))) P0_ := Kept.setCell HKW.out (.inl hgP) _
      clear hs HH HR HBW HKW
      have HH := Aside0.mk hH2
      have HR := Aside0.mk hR2
      have HBW := Aside0.mk hB2
      have HKW := Aside0.mk hK2
      clear hH2 hR2 hB2 hK2
      go_wp2_with (first | (go_at_call 17; refine (laws_markByteS.calls k oki v ((y.getD i z37).f5) (a + 1 + 1 + 1 + 1 + 1) t1 t2 w0 _ HBW.out HR.out HA.out).mono ?_; rintro e w' ⟨rfl, hR3, hB3, hK3⟩))
      have HS := Aside0.mk (Kd.H_back (Kd.H_kept HH.out hK3 (fun _ _ hn => hn)) (x' := (⟨(a), (a + 1), (a + 1 + 1), (a + 1 + 1 + 1), (a + 1 + 1 + 1 + 1), t2⟩ : S37)) (okp := oki) (k37_mkM _ _ _ (⟨(a), (a + 1), (a + 1 + 1), (a + 1 + 1 + 1), (a + 1 + 1 + 1 + 1), t2⟩ : S37) (Kd.R_back HR.out hR3 rfl)) (fun _ hk => hk))
      have HK4 := Aside0.mk (HKW.out.then_ hK3 (fun k hk => .inl (HOK.out k hk).1))
      have HB4 := Aside0.mk hB3
      clear hR3 hK3 hB3
      rw [Int.toNat_natCast] at HS
      go_roundw
      case measure => simp [intOf]; omega
      case rel => exact ⟨i + 1, t1, y.set i ⟨(a), (a + 1), (a + 1 + 1), (a + 1 + 1 + 1), (a + 1 + 1 + 1 + 1), t2⟩, rfl, by rw [Int.natCast_add]; rfl, ⟨by omega, by rw [List.length_set]; exact hy, hg⟩, HS, HB4, HK4⟩
    · have cc : decide ((i : Int) < (l0.length : Int)) = false := decide_eq_false (by omega)
      rw [show l0.length - i = 0 by omega, laws_markRecordS.go] at hg
      injection hg with hg
      injection hg with e1 e2
      subst e1
      subst e2
      go_wp2
      go_ret
      exact ⟨rfl, HO2.out, HB2.out, HK2.out⟩

/-! ### laws_szByteS: function 48 -/
def laws_szByteS.f (l0 : List Int) (a1 : Int) : Option (Int) := if (wrap64 (a1 - (l0.length : Int))) < 0 then (some (-1)) else (some (wrap64 (a1 - (l0.length : Int))))
set_option maxHeartbeats 8000000 in
set_option maxRecDepth 100000 in
theorem laws_szByteS.calls (A0 : Option Addr) (c0 : Nat) (l0 : List Int) (a1 : Int) (r : Int) (w : World) (hr0 : Kd.C (Kd.int .u8) w A0 l0.length l0) (hc0 : l0.length ≤ c0) (h : laws_szByteS.f l0 a1 = some r) :
    Calls Try.prog 48 #[.slice A0 l0.length c0, .int .i64 a1] w fun e w' => e = .returned (.int .i64 r) ∧ Drawn0 w w' := by
  have HR0 := Aside0.mk hr0
  have HC0 := Aside0.mk hc0
  clear hr0 hc0
  have H : (if (wrap64 (a1 - (l0.length : Int))) < 0 then (some (-1)) else (some (wrap64 (a1 - (l0.length : Int))))) = some r := h
  clear h
  by_cases c3 : (wrap64 (a1 - (l0.length : Int))) < 0
  · rw [if_pos c3] at H
    have c3b0 : decide ((wrap64 (a1 - (l0.length : Int))) < 0) = true := decide_eq_true c3
    clear c3
    obtain rfl := Option.some.inj H
    go_enter Try.func48, Try.ntmps48
    go_wp2
    go_ret
    exact ⟨by first | rfl | (simp; done) | (simp [*]; done), by repeat (first | exact Drawn0.refl _ | apply Drawn0.step)⟩
  · rw [if_neg c3] at H
    have c3b0 : decide ((wrap64 (a1 - (l0.length : Int))) < 0) = false := decide_eq_false c3
    clear c3
    obtain rfl := Option.some.inj H
    go_enter Try.func48, Try.ntmps48
    go_wp2
    go_ret
    exact ⟨by first | rfl | (simp; done) | (simp [*]; done), by repeat (first | exact Drawn0.refl _ | apply Drawn0.step)⟩

/-! ### laws_szRecord: function 21 -/
def laws_szRecord.f (a0_0 : Int) (a0_1 : Int) (a0_2 : Int) (a0_3 : Int) (a0_4 : Int) (l0_5 : List Int) (a1 : Int) : Option (Int) := (laws_szByteS.f l0_5 a1).bind fun t112 => (if t112 < 0 then (some (-1)) else (some t112))
set_option maxHeartbeats 8000000 in
set_option maxRecDepth 100000 in
theorem laws_szRecord.calls (a0_0 : Int) (a0_1 : Int) (a0_2 : Int) (a0_3 : Int) (a0_4 : Int) (A0_5 : Option Addr) (c0_5 : Nat) (l0_5 : List Int) (a1 : Int) (r : Int) (w : World) (hr0_5 : Kd.C (Kd.int .u8) w A0_5 l0_5.length l0_5) (hc0_5 : l0_5.length ≤ c0_5) (h : laws_szRecord.f a0_0 a0_1 a0_2 a0_3 a0_4 l0_5 a1 = some r) :
    Calls Try.prog 21 #[.agg #[.int .i64 a0_0, .int .i64 a0_1, .int .i64 a0_2, .int .i64 a0_3, .int .i64 a0_4, .slice A0_5 l0_5.length c0_5], .int .i64 a1] w fun e w' => e = .returned (.int .i64 r) ∧ Below w.heap.size w w' := by
  have hu34 := Try.underlying34
  have HR0_5 := Aside0.mk hr0_5
  have HC0_5 := Aside0.mk hc0_5
  clear hr0_5 hc0_5
  have HB := Aside0.mk (Below.refl w.heap.size w)
  have H : ((laws_szByteS.f l0_5 a1).bind fun t112 => (if t112 < 0 then (some (-1)) else (some t112))) = some r := h
  clear h
  replace H := Option.bind_eq_some_iff.mp H
  obtain ⟨t112, A30, H⟩ := H
  replace H : (if t112 < 0 then (some (-1)) else (some t112)) = some r := H
  have A3 := Aside0.mk A30
  clear A30
  by_cases c4 : t112 < 0
  · rw [if_pos c4] at H
    have c4b0 : decide (t112 < 0) = true := decide_eq_true c4
    clear c4
    obtain rfl := Option.some.inj H
    go_enter Try.func21, Try.ntmps21
    go_wp2_with (first | ((with_reducible refine gate_dst (N := 2) rfl ?_); refine box_event ?hg (N := 2) ?hd (cs := #[.int .i64 a0_0, .int .i64 a0_1, .int .i64 a0_2, .int .i64 a0_3, .int .i64 a0_4, .slice A0_5 l0_5.length c0_5]) (t := 34) ?hr ?_; (case hd => rfl); (case hg => rfl); (case hr => first | (go_simp; done) | (go_simp; rfl)); intro gb111 hg w5 hbox hb; have n0_ := Aside0.mk (below_step (by repeat (first | (with_reducible first | exact HB.out | apply below_alloc | apply pw_below_drewN | apply below_drew1) | exact HB.out)) hb); have n1_ := Aside0.mk (hbox); have n2_ := Aside0.mk ((by rw [hg]; exact (below_size (by repeat (first | (with_reducible first | exact HB.out | apply below_alloc | apply pw_below_drewN | apply below_drew1) | exact HB.out))) : w.heap.size ≤ gb111)); have n3_ := Aside0.mk ((by rw [hg]; exact (below_size (by repeat (first | (with_reducible first | exact HB.out | apply below_alloc | apply pw_below_drewN | apply below_drew1) | exact HB.out))) : w.heap.size ≤ gb111)); clear HB; have HB := n0_; have BK111 := n1_; have GW111 := n2_; have GE111 := n3_; clear n0_ n1_ n2_ n3_; clear hb hbox hg; have hcz6_0 : w5.cell? ⟨gb111, 0, none⟩ = some (.int .i64 a0_0) := (blk_cell BK111.out 0).trans rfl; have hcz6_1 : w5.cell? ⟨gb111, 1, none⟩ = some (.int .i64 a0_1) := (blk_cell BK111.out 1).trans rfl; have hcz6_2 : w5.cell? ⟨gb111, 2, none⟩ = some (.int .i64 a0_2) := (blk_cell BK111.out 2).trans rfl; have hcz6_3 : w5.cell? ⟨gb111, 3, none⟩ = some (.int .i64 a0_3) := (blk_cell BK111.out 3).trans rfl; have hcz6_4 : w5.cell? ⟨gb111, 4, none⟩ = some (.int .i64 a0_4) := (blk_cell BK111.out 4).trans rfl; have hcz6_5 : w5.cell? ⟨gb111, 5, none⟩ = some (.slice A0_5 l0_5.length c0_5) := (blk_cell BK111.out 5).trans rfl; have hfz6_0 := blk_frozen BK111.out 0; have hfz6_1 := blk_frozen BK111.out 1; have hfz6_2 := blk_frozen BK111.out 2; have hfz6_3 := blk_frozen BK111.out 3; have hfz6_4 := blk_frozen BK111.out 4; have hfz6_5 := blk_frozen BK111.out 5) | ((with_reducible refine gate_callee (f := 48) rfl ?_); refine goesL_ (some 8) rfl rfl Try.func48 (by kernel_rfl) rfl #[.slice A0_5 l0_5.length c0_5, .int .i64 a1] rfl (by (try simp only [List.map_toArray, List.map_cons, List.map_nil]); first | done | rfl | (simp only [List.length_drop, List.length_take]; rfl)) ?_; (with_reducible refine (laws_szByteS.calls _ _ l0_5 a1 t112 _ ?side1 ?side2 A3.out).mono ?_); (case side1 => repeat (first | exact (Kd.C_below HR0_5.out HB.out) | (with_reducible refine Kd.C_alloc ?_ _) | (with_reducible refine Kd.C_drewN ?_ _) | (with_reducible refine Kd.C_drew ?_))); (case side2 => exact HC0_5.out); rintro e w' ⟨rfl, ⟨nd, rfl⟩⟩; refine ⟨_, rfl, ?_⟩))
    go_ret
    exact ⟨by first | rfl | (simp [errW_none, errW_some] <;> rfl) | (simp [*, errW_none, errW_some] <;> rfl), by repeat (first | (with_reducible first | exact HB.out | apply below_alloc | apply pw_below_drewN | apply below_drew1 | refine below_set ?_ GE111.out) | exact HB.out)⟩
  · rw [if_neg c4] at H
    have c4b0 : decide (t112 < 0) = false := decide_eq_false c4
    clear c4
    obtain rfl := Option.some.inj H
    go_enter Try.func21, Try.ntmps21
    go_wp2_with (first | ((with_reducible refine gate_dst (N := 2) rfl ?_); refine box_event ?hg (N := 2) ?hd (cs := #[.int .i64 a0_0, .int .i64 a0_1, .int .i64 a0_2, .int .i64 a0_3, .int .i64 a0_4, .slice A0_5 l0_5.length c0_5]) (t := 34) ?hr ?_; (case hd => rfl); (case hg => rfl); (case hr => first | (go_simp; done) | (go_simp; rfl)); intro gb111 hg w7 hbox hb; have n0_ := Aside0.mk (below_step (by repeat (first | (with_reducible first | exact HB.out | apply below_alloc | apply pw_below_drewN | apply below_drew1) | exact HB.out)) hb); have n1_ := Aside0.mk (hbox); have n2_ := Aside0.mk ((by rw [hg]; exact (below_size (by repeat (first | (with_reducible first | exact HB.out | apply below_alloc | apply pw_below_drewN | apply below_drew1) | exact HB.out))) : w.heap.size ≤ gb111)); have n3_ := Aside0.mk ((by rw [hg]; exact (below_size (by repeat (first | (with_reducible first | exact HB.out | apply below_alloc | apply pw_below_drewN | apply below_drew1) | exact HB.out))) : w.heap.size ≤ gb111)); clear HB; have HB := n0_; have BK111 := n1_; have GW111 := n2_; have GE111 := n3_; clear n0_ n1_ n2_ n3_; clear hb hbox hg; have hcz8_0 : w7.cell? ⟨gb111, 0, none⟩ = some (.int .i64 a0_0) := (blk_cell BK111.out 0).trans rfl; have hcz8_1 : w7.cell? ⟨gb111, 1, none⟩ = some (.int .i64 a0_1) := (blk_cell BK111.out 1).trans rfl; have hcz8_2 : w7.cell? ⟨gb111, 2, none⟩ = some (.int .i64 a0_2) := (blk_cell BK111.out 2).trans rfl; have hcz8_3 : w7.cell? ⟨gb111, 3, none⟩ = some (.int .i64 a0_3) := (blk_cell BK111.out 3).trans rfl; have hcz8_4 : w7.cell? ⟨gb111, 4, none⟩ = some (.int .i64 a0_4) := (blk_cell BK111.out 4).trans rfl; have hcz8_5 : w7.cell? ⟨gb111, 5, none⟩ = some (.slice A0_5 l0_5.length c0_5) := (blk_cell BK111.out 5).trans rfl; have hfz8_0 := blk_frozen BK111.out 0; have hfz8_1 := blk_frozen BK111.out 1; have hfz8_2 := blk_frozen BK111.out 2; have hfz8_3 := blk_frozen BK111.out 3; have hfz8_4 := blk_frozen BK111.out 4; have hfz8_5 := blk_frozen BK111.out 5) | ((with_reducible refine gate_callee (f := 48) rfl ?_); refine goesL_ (some 8) rfl rfl Try.func48 (by kernel_rfl) rfl #[.slice A0_5 l0_5.length c0_5, .int .i64 a1] rfl (by (try simp only [List.map_toArray, List.map_cons, List.map_nil]); first | done | rfl | (simp only [List.length_drop, List.length_take]; rfl)) ?_; (with_reducible refine (laws_szByteS.calls _ _ l0_5 a1 t112 _ ?side1 ?side2 A3.out).mono ?_); (case side1 => repeat (first | exact (Kd.C_below HR0_5.out HB.out) | (with_reducible refine Kd.C_alloc ?_ _) | (with_reducible refine Kd.C_drewN ?_ _) | (with_reducible refine Kd.C_drew ?_))); (case side2 => exact HC0_5.out); rintro e w' ⟨rfl, ⟨nd, rfl⟩⟩; refine ⟨_, rfl, ?_⟩))
    go_ret
    exact ⟨by first | rfl | (simp [errW_none, errW_some] <;> rfl) | (simp [*, errW_none, errW_some] <;> rfl), by repeat (first | (with_reducible first | exact HB.out | apply below_alloc | apply pw_below_drewN | apply below_drew1 | refine below_set ?_ GE111.out) | exact HB.out)⟩

/-! ### laws_szRecordS: function 37 -/
def laws_szRecordS.l0 : Nat → List (S34) → Int → Int → Option (Int)
  | 0, _, _, _ => none
  | k + 1, x0, x1, x5 => if x5 < (x0.length : Int) then (if 0 ≤ x5 then ((laws_szRecord.f ((rd_T34 x0 x5).f0) ((rd_T34 x0 x5).f1) ((rd_T34 x0 x5).f2) ((rd_T34 x0 x5).f3) ((rd_T34 x0 x5).f4) ((rd_T34 x0 x5).f5) x1).bind fun t114 => (if t114 < 0 then (some (-1)) else (laws_szRecordS.l0 k x0 t114 (wrap64 (x5 + 1))))) else (none)) else (some x1)
def laws_szRecordS.f (k : Nat) (l0 : List (S34)) (a1 : Int) : Option (Int) := if (wrap64 (a1 - (l0.length : Int))) < 0 then (some (-1)) else (laws_szRecordS.l0 k l0 (wrap64 (a1 - (l0.length : Int))) 0)
theorem laws_szRecordS.mono_l : ∀ k, (∀ y0 y1 y2, LeO (laws_szRecordS.l0 k y0 y1 y2) (laws_szRecordS.l0 (k + 1) y0 y1 y2))
  | 0 => fun _ _ _ r h => by simp [laws_szRecordS.l0] at h
  | k + 1 => by
    have ih0 := laws_szRecordS.mono_l k
    · intro y0 y1 y2
      unfold laws_szRecordS.l0
      repeat' first
      | (with_reducible exact ih0 _ _ _)
      | (with_reducible exact LeO.refl _)
      | (with_reducible exact LeO.none _)
      | (with_reducible refine LeO.ite ?_ ?_)
      | (with_reducible refine LeO.bind ?_ (fun _ => ?_))
      | exact ih0 _ _ _
      | exact LeO.none _
      | refine LeO.ite ?_ ?_
      | refine LeO.bind ?_ (fun _ => ?_)
theorem laws_szRecordS.mono : ∀ a0 a1 k, LeO (laws_szRecordS.f k a0 a1) (laws_szRecordS.f (k + 1) a0 a1) := by
  intro a0 a1 k
  have ih0 := laws_szRecordS.mono_l k
  unfold laws_szRecordS.f
  repeat' first
      | (with_reducible exact ih0 _ _ _)
      | (with_reducible exact LeO.refl _)
      | (with_reducible exact LeO.none _)
      | (with_reducible refine LeO.ite ?_ ?_)
      | (with_reducible refine LeO.bind ?_ (fun _ => ?_))
      | exact ih0 _ _ _
      | exact LeO.none _
      | refine LeO.ite ?_ ?_
      | refine LeO.bind ?_ (fun _ => ?_)
set_option maxHeartbeats 8000000 in
set_option maxRecDepth 100000 in
theorem laws_szRecordS.calls (k : Nat) (A0 : Option Addr) (c0 : Nat) (l0 : List (S34)) (a1 : Int) (r : Int) (w : World) (hr0 : Kd.C k34 w A0 l0.length l0) (hc0 : l0.length ≤ c0) (h : laws_szRecordS.f k l0 a1 = some r) :
    Calls Try.prog 37 #[.slice A0 l0.length c0, .int .i64 a1] w fun e w' => e = .returned (.int .i64 r) ∧ Below w.heap.size w w' := by
  have hu34 := Try.underlying34
  have HR0 := Aside0.mk hr0
  have HC0 := Aside0.mk hc0
  clear hr0 hc0
  have HB := Aside0.mk (Below.refl w.heap.size w)
  have H : (if (wrap64 (a1 - (l0.length : Int))) < 0 then (some (-1)) else (laws_szRecordS.l0 k l0 (wrap64 (a1 - (l0.length : Int))) 0)) = some r := h
  clear h
  by_cases c3 : (wrap64 (a1 - (l0.length : Int))) < 0
  · rw [if_pos c3] at H
    have c3b0 : decide ((wrap64 (a1 - (l0.length : Int))) < 0) = true := decide_eq_true c3
    clear c3
    obtain rfl := Option.some.inj H
    go_enter Try.func37, Try.ntmps37
    go_wp2
    go_ret
    exact ⟨by first | rfl | (simp [errW_none, errW_some] <;> rfl) | (simp [*, errW_none, errW_some] <;> rfl), by repeat (first | (with_reducible first | exact HB.out | apply below_alloc | apply pw_below_drewN | apply below_drew1) | exact HB.out)⟩
  · rw [if_neg c3] at H
    have c3b0 : decide ((wrap64 (a1 - (l0.length : Int))) < 0) = false := decide_eq_false c3
    clear c3
    have H' := Aside0.mk H
    clear H
    go_enter Try.func37, Try.ntmps37
    go_wp2
    go_loopg [1, 5] k (fun kq v1 v5 w' => ∃ (x1_1 : Int) (x5_1 : Int), v1 = .int .i64 x1_1 ∧ v5 = .int .i64 x5_1 ∧ Aside0 (laws_szRecordS.l0 kq l0 x1_1 x5_1 = some r) ∧ Aside0 (kq ≤ k) ∧ Aside0 (Below w.heap.size w w'))
    case atStart => exact ⟨(wrap64 (a1 - (l0.length : Int))), (0), (by first | rfl | (simp; done) | (simp [*]; done)), (by first | rfl | (simp; done) | (simp [*]; done)), H', ⟨Nat.le_refl _⟩, ⟨by repeat (first | (with_reducible first | exact HB.out | apply below_alloc | apply pw_below_drewN | apply below_drew1) | exact HB.out)⟩⟩
    case round =>
      clear H'
      try clear p2
      try clear c3
      try clear c3b0
      obtain ⟨x1_1, x5_1, rfl, rfl, HA, HK1, HB⟩ := hrel
      cases gk with
      | zero => exact absurd HA.out (by simp [laws_szRecordS.l0])
      | succ k1 =>
        have H := HA.out
        clear HA
        simp only [laws_szRecordS.l0] at H
        by_cases c4 : x5_1 < (l0.length : Int)
        · rw [if_pos c4] at H
          have c4b0 : decide (x5_1 < (l0.length : Int)) = true := decide_eq_true c4
          clear c4
          by_cases c5 : 0 ≤ x5_1
          · rw [if_pos c5] at H
            have c5b0 : decide (0 ≤ x5_1) = true := decide_eq_true c5
            clear c5
            replace H := Option.bind_eq_some_iff.mp H
            obtain ⟨t114, A60, H⟩ := H
            replace H : (if t114 < 0 then (some (-1)) else (laws_szRecordS.l0 k1 l0 t114 (wrap64 (x5_1 + 1)))) = some r := H
            have A6 := Aside0.mk A60
            clear A60
            by_cases c7 : t114 < 0
            · rw [if_pos c7] at H
              have c7b0 : decide (t114 < 0) = true := decide_eq_true c7
              clear c7
              obtain rfl := Option.some.inj H
              have p113 : 0 ≤ (x5_1 : Int) := of_decide_eq_true (by first | (with_reducible assumption) | assumption)
              have q113 : x5_1 < (l0.length : Int) := of_decide_eq_true (by first | (with_reducible assumption) | assumption)
              obtain ⟨ad113, A113_5, c113_5, e113, hx113_0, hx113_1, hx113_2, hx113_3, hx113_4, hx113_5, hl113_5, hi113_5⟩ := at_T34 HR0.out x5_1 p113 q113
              cases e113
              replace hx113_0 := (HB.out.cell (World.block_lt_of_cell? w _ hx113_0)).trans hx113_0
              replace hx113_1 := (HB.out.cell (World.block_lt_of_cell? w _ hx113_1)).trans hx113_1
              replace hx113_2 := (HB.out.cell (World.block_lt_of_cell? w _ hx113_2)).trans hx113_2
              replace hx113_3 := (HB.out.cell (World.block_lt_of_cell? w _ hx113_3)).trans hx113_3
              replace hx113_4 := (HB.out.cell (World.block_lt_of_cell? w _ hx113_4)).trans hx113_4
              replace hx113_5 := (HB.out.cell (World.block_lt_of_cell? w _ hx113_5)).trans hx113_5
              have HR113_5 := Aside0.mk hi113_5
              have HC113_5 := Aside0.mk hl113_5
              clear hi113_5 hl113_5
              replace p113 := eq_true p113
              replace q113 := eq_true q113
              go_wp2_with (first | ((with_reducible refine gate_callee (f := 21) rfl ?_); refine goesL_ (some 23) rfl rfl Try.func21 (by kernel_rfl) rfl #[.agg #[.int .i64 ((rd_T34 l0 x5_1).f0), .int .i64 ((rd_T34 l0 x5_1).f1), .int .i64 ((rd_T34 l0 x5_1).f2), .int .i64 ((rd_T34 l0 x5_1).f3), .int .i64 ((rd_T34 l0 x5_1).f4), .slice A113_5 ((rd_T34 l0 x5_1).f5).length c113_5], .int .i64 x1_1] rfl (by (try simp only [List.map_toArray, List.map_cons, List.map_nil]); first | done | rfl | (simp only [List.length_drop, List.length_take]; rfl)) ?_; (with_reducible refine (laws_szRecord.calls ((rd_T34 l0 x5_1).f0) ((rd_T34 l0 x5_1).f1) ((rd_T34 l0 x5_1).f2) ((rd_T34 l0 x5_1).f3) ((rd_T34 l0 x5_1).f4) _ _ ((rd_T34 l0 x5_1).f5) x1_1 t114 _ ?side1 ?side2 A6.out).mono ?_); (case side1 => repeat (first | exact (Kd.C_below HR113_5.out HB.out) | (with_reducible refine Kd.C_alloc ?_ _) | (with_reducible refine Kd.C_drewN ?_ _) | (with_reducible refine Kd.C_drew ?_))); (case side2 => exact HC113_5.out); rintro e w8 ⟨rfl, hb⟩; refine ⟨_, rfl, ?_⟩; have n0_ := Aside0.mk (below_step (by repeat (first | (with_reducible first | exact HB.out | apply below_alloc | apply pw_below_drewN | apply below_drew1) | exact HB.out)) hb); clear HB; have HB := n0_; clear n0_; (try clear hb); (try clear hb2); (try clear hk); (try clear hi)))
              go_ret
              exact ⟨by first | rfl | (simp [errW_none, errW_some] <;> rfl) | (simp [*, errW_none, errW_some] <;> rfl), by repeat (first | (with_reducible first | exact HB.out | apply below_alloc | apply pw_below_drewN | apply below_drew1) | exact HB.out)⟩
            · rw [if_neg c7] at H
              have c7b0 : decide (t114 < 0) = false := decide_eq_false c7
              clear c7
              have H' := Aside0.mk H
              clear H
              have p113 : 0 ≤ (x5_1 : Int) := of_decide_eq_true (by first | (with_reducible assumption) | assumption)
              have q113 : x5_1 < (l0.length : Int) := of_decide_eq_true (by first | (with_reducible assumption) | assumption)
              obtain ⟨ad113, A113_5, c113_5, e113, hx113_0, hx113_1, hx113_2, hx113_3, hx113_4, hx113_5, hl113_5, hi113_5⟩ := at_T34 HR0.out x5_1 p113 q113
              cases e113
              replace hx113_0 := (HB.out.cell (World.block_lt_of_cell? w _ hx113_0)).trans hx113_0
              replace hx113_1 := (HB.out.cell (World.block_lt_of_cell? w _ hx113_1)).trans hx113_1
              replace hx113_2 := (HB.out.cell (World.block_lt_of_cell? w _ hx113_2)).trans hx113_2
              replace hx113_3 := (HB.out.cell (World.block_lt_of_cell? w _ hx113_3)).trans hx113_3
              replace hx113_4 := (HB.out.cell (World.block_lt_of_cell? w _ hx113_4)).trans hx113_4
              replace hx113_5 := (HB.out.cell (World.block_lt_of_cell? w _ hx113_5)).trans hx113_5
              have HR113_5 := Aside0.mk hi113_5
              have HC113_5 := Aside0.mk hl113_5
              clear hi113_5 hl113_5
              replace p113 := eq_true p113
              replace q113 := eq_true q113
              go_wp2_with (first | ((with_reducible refine gate_callee (f := 21) rfl ?_); refine goesL_ (some 23) rfl rfl Try.func21 (by kernel_rfl) rfl #[.agg #[.int .i64 ((rd_T34 l0 x5_1).f0), .int .i64 ((rd_T34 l0 x5_1).f1), .int .i64 ((rd_T34 l0 x5_1).f2), .int .i64 ((rd_T34 l0 x5_1).f3), .int .i64 ((rd_T34 l0 x5_1).f4), .slice A113_5 ((rd_T34 l0 x5_1).f5).length c113_5], .int .i64 x1_1] rfl (by (try simp only [List.map_toArray, List.map_cons, List.map_nil]); first | done | rfl | (simp only [List.length_drop, List.length_take]; rfl)) ?_; (with_reducible refine (laws_szRecord.calls ((rd_T34 l0 x5_1).f0) ((rd_T34 l0 x5_1).f1) ((rd_T34 l0 x5_1).f2) ((rd_T34 l0 x5_1).f3) ((rd_T34 l0 x5_1).f4) _ _ ((rd_T34 l0 x5_1).f5) x1_1 t114 _ ?side1 ?side2 A6.out).mono ?_); (case side1 => repeat (first | exact (Kd.C_below HR113_5.out HB.out) | (with_reducible refine Kd.C_alloc ?_ _) | (with_reducible refine Kd.C_drewN ?_ _) | (with_reducible refine Kd.C_drew ?_))); (case side2 => exact HC113_5.out); rintro e w9 ⟨rfl, hb⟩; refine ⟨_, rfl, ?_⟩; have n0_ := Aside0.mk (below_step (by repeat (first | (with_reducible first | exact HB.out | apply below_alloc | apply pw_below_drewN | apply below_drew1) | exact HB.out)) hb); clear HB; have HB := n0_; clear n0_; (try clear hb); (try clear hb2); (try clear hk); (try clear hi)))
              go_roundg k1
              case measure => have := HK1.out; omega
              case rel => exact ⟨(t114), (wrap64 (x5_1 + 1)), (by first | rfl | (simp; done) | (simp [*]; done)), (by first | rfl | (simp; done) | (simp [*]; done)), H', ⟨by have := HK1.out; omega⟩, ⟨by repeat (first | (with_reducible first | exact HB.out | apply below_alloc | apply pw_below_drewN | apply below_drew1) | exact HB.out)⟩⟩
          · rw [if_neg c5] at H
            exact absurd H (by simp)
        · rw [if_neg c4] at H
          have c4b0 : decide (x5_1 < (l0.length : Int)) = false := decide_eq_false c4
          clear c4
          obtain rfl := Option.some.inj H
          go_wp2
          go_ret
          exact ⟨by first | rfl | (simp [errW_none, errW_some] <;> rfl) | (simp [*, errW_none, errW_some] <;> rfl), by repeat (first | (with_reducible first | exact HB.out | apply below_alloc | apply pw_below_drewN | apply below_drew1) | exact HB.out)⟩

end Go.Proofs.Ytkbclccnnllddaa.PFnExactLogBytes
