-- By this session's own program (wip/xprint.py), over the kit's print.
import Derived.Test.YtjbocmkphnmfgaaPFnSumsx0
import Derived.Test.YtjbocmkphnmfgaaPFnSumsx1
import Derived.Test.YtjbocmkphnmfgaaPFnSumsx2
namespace Go.Proofs.Ytjbocmkphnmfgaa.PFnSums
open Go.RowKit Go.Proofs.YtjbocmkphnmfgaaW.PrintWords Go.Proofs.YtjbocmkphnmfgaaW.PrintLast Go.Proofs.YtjbocmkphnmfgaaW.PrintMore
attribute [local go_sem] max2_int min2_int max_two min_two max_three min_three max_four min_four   -- for this text's walks alone
attribute [local go_sem high] fl_eql fl_neq fl_lss fl_leq fl_gtr fl_geq fl_add fl_sub fl_mul fl_quo fl_neg fl_ofInt fl_toInt fl_store sub_sign ext_bits ext_from fl_nan_quo fl_nan_add fl_nan_mul fl_nan_sub
set_option linter.unusedVariables false
set_option linter.unusedSimpArgs false

/-! ### spec_DrawFloatSum: function 27 -/
mutual
def spec_DrawFloatSum.j0 : Nat → List Nat → Int → List Int → Int → Int → Option (List Nat)
  | 0, _, _, _, _, _ => none
  | k + 1, x4, x5, x170000, x170001, x170002 => (spec_l1Once.f x170000 x170001 x170002 2).bind fun bt180 => (spec_DrawFloatSum.l0 k x4 x5 bt180.1 0 x170000 bt180.2.1 bt180.2.2)
def spec_DrawFloatSum.l0 : Nat → List Nat → Int → Bool → Int → List Int → Int → Int → Option (List Nat)
  | 0, _, _, _, _, _, _, _ => none
  | k + 1, x4, x5, x6, x7, x170000, x170001, x170002 => if x7 < x5 then ((spec_l1Below.f x170000 x170001 x170002 4000).bind fun bt183 => (if (fok .quo (fofi (wrap64 (bt183.1 - 2000))) 4625196817309499392) = true then (if x6 = true then ((spec_l1Once.f x170000 bt183.2.1 bt183.2.2 9).bind fun bt186 => (if bt186.1 = true then ((spec_l2float.f k x170000 bt186.2.1 bt186.2.2).bind fun bt189 => (if x4.length < 17592186044416 then (spec_DrawFloatSum.l0 k (x4 ++ [bt189.1]) x5 x6 (wrap64 (x7 + 1)) x170000 bt189.2.1 bt189.2.2) else (none))) else (if x4.length < 17592186044416 then (spec_DrawFloatSum.l0 k (x4 ++ [fval .quo (fofi (wrap64 (bt183.1 - 2000))) 4625196817309499392]) x5 x6 (wrap64 (x7 + 1)) x170000 bt186.2.1 bt186.2.2) else (none)))) else ((spec_l2float.f k x170000 bt183.2.1 bt183.2.2).bind fun bt198 => (if x4.length < 17592186044416 then (spec_DrawFloatSum.l0 k (x4 ++ [bt198.1]) x5 x6 (wrap64 (x7 + 1)) x170000 bt198.2.1 bt198.2.2) else (none)))) else (none))) else (some x4)
end
def spec_DrawFloatSum.f (k : Nat) (l0 : List Int) : Option (List Nat) := (spec_l1New.f k l0).bind fun bt166 => ((spec_l1Size.f l0 40).bind fun t170 => ((spec_l1Below.f bt166.1 bt166.2.1 bt166.2.2 t170).bind fun bt171 => ((spec_l1Once.f bt166.1 bt171.2.1 bt171.2.2 40).bind fun bt174 => (if bt174.1 = true then ((spec_l1Below.f bt166.1 bt174.2.1 bt174.2.2 2).bind fun bt177 => (spec_DrawFloatSum.j0 k ([] : List Nat) (wrap64 (1000 + bt177.1)) bt166.1 bt177.2.1 bt177.2.2)) else (spec_DrawFloatSum.j0 k ([] : List Nat) bt171.1 bt166.1 bt174.2.1 bt174.2.2)))))
theorem spec_DrawFloatSum.mono_l : ∀ k, (∀ y0 y1 y2 y3 y4, LeO (spec_DrawFloatSum.j0 k y0 y1 y2 y3 y4) (spec_DrawFloatSum.j0 (k + 1) y0 y1 y2 y3 y4)) ∧ (∀ y0 y1 y2 y3 y4 y5 y6, LeO (spec_DrawFloatSum.l0 k y0 y1 y2 y3 y4 y5 y6) (spec_DrawFloatSum.l0 (k + 1) y0 y1 y2 y3 y4 y5 y6))
  | 0 => ⟨fun _ _ _ _ _ r h => by simp [spec_DrawFloatSum.j0] at h, fun _ _ _ _ _ _ _ r h => by simp [spec_DrawFloatSum.l0] at h⟩
  | k + 1 => by
    obtain ⟨ih0, ih1⟩ := spec_DrawFloatSum.mono_l k
    refine ⟨?_, ?_⟩
    · intro y0 y1 y2 y3 y4
      unfold spec_DrawFloatSum.j0
      repeat' first
      | (with_reducible exact ih0 _ _ _ _ _)
      | (with_reducible exact ih1 _ _ _ _ _ _ _)
      | (with_reducible exact spec_l1New.mono _ _)
      | (with_reducible exact spec_l2float.mono _ _ _ _)
      | (with_reducible exact LeO.refl _)
      | (with_reducible exact LeO.none _)
      | (with_reducible refine LeO.ite ?_ ?_)
      | (with_reducible refine LeO.bind ?_ (fun _ => ?_))
      | exact ih0 _ _ _ _ _
      | exact ih1 _ _ _ _ _ _ _
      | exact spec_l1New.mono _ _
      | exact spec_l2float.mono _ _ _ _
      | exact LeO.none _
      | refine LeO.ite ?_ ?_
      | refine LeO.bind ?_ (fun _ => ?_)
    · intro y0 y1 y2 y3 y4 y5 y6
      unfold spec_DrawFloatSum.l0
      repeat' first
      | (with_reducible exact ih0 _ _ _ _ _)
      | (with_reducible exact ih1 _ _ _ _ _ _ _)
      | (with_reducible exact spec_l1New.mono _ _)
      | (with_reducible exact spec_l2float.mono _ _ _ _)
      | (with_reducible exact LeO.refl _)
      | (with_reducible exact LeO.none _)
      | (with_reducible refine LeO.ite ?_ ?_)
      | (with_reducible refine LeO.bind ?_ (fun _ => ?_))
      | exact ih0 _ _ _ _ _
      | exact ih1 _ _ _ _ _ _ _
      | exact spec_l1New.mono _ _
      | exact spec_l2float.mono _ _ _ _
      | exact LeO.none _
      | refine LeO.ite ?_ ?_
      | refine LeO.bind ?_ (fun _ => ?_)
theorem spec_DrawFloatSum.mono : ∀ a0 k, LeO (spec_DrawFloatSum.f k a0) (spec_DrawFloatSum.f (k + 1) a0) := by
  intro a0 k
  obtain ⟨ih0, ih1⟩ := spec_DrawFloatSum.mono_l k
  unfold spec_DrawFloatSum.f
  repeat' first
      | (with_reducible exact ih0 _ _ _ _ _)
      | (with_reducible exact ih1 _ _ _ _ _ _ _)
      | (with_reducible exact spec_l1New.mono _ _)
      | (with_reducible exact spec_l2float.mono _ _ _ _)
      | (with_reducible exact LeO.refl _)
      | (with_reducible exact LeO.none _)
      | (with_reducible refine LeO.ite ?_ ?_)
      | (with_reducible refine LeO.bind ?_ (fun _ => ?_))
      | exact ih0 _ _ _ _ _
      | exact ih1 _ _ _ _ _ _ _
      | exact spec_l1New.mono _ _
      | exact spec_l2float.mono _ _ _ _
      | exact LeO.none _
      | refine LeO.ite ?_ ?_
      | refine LeO.bind ?_ (fun _ => ?_)
/-- what is drawn next doesn't hang on the floats that were drawn: rows of one length come to rows of one length -/
theorem spec_DrawFloatSum.len : ∀ (k : Nat) (x x' : List Nat) (n : Int) (b : Bool) (i : Int) (c : List Int) (d e : Int) (r : List Nat), x'.length = x.length → spec_DrawFloatSum.l0 k x n b i c d e = some r → ∃ r', r'.length = r.length ∧ spec_DrawFloatSum.l0 k x' n b i c d e = some r'
  | 0, _, _, _, _, _, _, _, _, r, _, h => by simp [spec_DrawFloatSum.l0] at h
  | k + 1, x, x', n, b, i, c, d, e, r, hl, h => by
    have ap : ∀ (u v : Nat), (x' ++ [u]).length = (x ++ [v]).length := fun u v => by rw [List.length_append, List.length_append, hl]; rfl
    rw [spec_DrawFloatSum.l0] at h ⊢
    by_cases c1 : i < n
    · rw [if_pos c1] at h ⊢
      obtain ⟨t, ht, h⟩ := Option.bind_eq_some_iff.mp h
      rw [ht, Option.bind_some]
      by_cases c2 : (fok .quo (fofi (wrap64 (t.1 - 2000))) 4625196817309499392) = true
      · rw [if_pos c2] at h ⊢
        by_cases c3 : b = true
        · rw [if_pos c3] at h ⊢
          obtain ⟨t2, ht2, h⟩ := Option.bind_eq_some_iff.mp h
          rw [ht2, Option.bind_some]
          by_cases c4 : t2.1 = true
          · rw [if_pos c4] at h ⊢
            obtain ⟨t3, ht3, h⟩ := Option.bind_eq_some_iff.mp h
            rw [ht3, Option.bind_some, hl]
            by_cases c5 : x.length < 17592186044416
            · rw [if_pos c5] at h ⊢; exact spec_DrawFloatSum.len k _ _ _ _ _ _ _ _ _ (ap _ _) h
            · rw [if_neg c5] at h; cases h
          · rw [if_neg c4] at h ⊢
            rw [hl]
            by_cases c5 : x.length < 17592186044416
            · rw [if_pos c5] at h ⊢; exact spec_DrawFloatSum.len k _ _ _ _ _ _ _ _ _ (ap _ _) h
            · rw [if_neg c5] at h; cases h
        · rw [if_neg c3] at h ⊢
          obtain ⟨t3, ht3, h⟩ := Option.bind_eq_some_iff.mp h
          rw [ht3, Option.bind_some, hl]
          by_cases c5 : x.length < 17592186044416
          · rw [if_pos c5] at h ⊢; exact spec_DrawFloatSum.len k _ _ _ _ _ _ _ _ _ (ap _ _) h
          · rw [if_neg c5] at h; cases h
      · rw [if_neg c2] at h; cases h
    · rw [if_neg c1] at h ⊢
      exact ⟨x', by rw [hl, Option.some.inj h], rfl⟩
theorem spec_DrawFloatSum.len1 {k : Nat} {x : List Nat} {t : Nat} {n : Int} {b : Bool} {i : Int} {c : List Int} {d e : Int} {r q : List Nat} (u : Nat) (h : spec_DrawFloatSum.l0 k (x ++ [t]) n b i c d e = some q) (hq : q.length = r.length) :
    ∃ q2 y : List Nat, y = x ++ [u] ∧ q2.length = r.length ∧ spec_DrawFloatSum.l0 k y n b i c d e = some q2 := by
  obtain ⟨q2, e1, e2⟩ := spec_DrawFloatSum.len k _ (x ++ [u]) n b i c d e q (by rw [List.length_append, List.length_append]; rfl) h
  exact ⟨q2, _, rfl, e1.trans hq, e2⟩
set_option maxHeartbeats 8000000 in
set_option maxRecDepth 100000 in
theorem spec_DrawFloatSum.callsC (k : Nat) (A0 : Option Addr) (c0 : Nat) (l0 : List Int) (r : List Nat) (w : World) (hr0 : Kd.C (Kd.int .u8) w A0 l0.length l0) (hc0 : l0.length ≤ c0) (h : spec_DrawFloatSum.f k l0 = some r) :
    Calls Try.prog 27 #[.slice A0 l0.length c0] w fun e w' => ∃ v0_ : Value, ∃ r_ : List Nat, e = .returned (v0_) ∧ Kd.R Kd.flt 22 w' w.heap.size (fun _ => True) v0_ r_ ∧ Below w.heap.size w w' ∧ Aside0 (r_.length = r.length) := by
  have HR0 := Aside0.mk hr0
  have HC0 := Aside0.mk hc0
  clear hr0 hc0
  have HB := Aside0.mk (Below.refl w.heap.size w)
  have H : ((spec_l1New.f k l0).bind fun bt166 => ((spec_l1Size.f l0 40).bind fun t170 => ((spec_l1Below.f bt166.1 bt166.2.1 bt166.2.2 t170).bind fun bt171 => ((spec_l1Once.f bt166.1 bt171.2.1 bt171.2.2 40).bind fun bt174 => (if bt174.1 = true then ((spec_l1Below.f bt166.1 bt174.2.1 bt174.2.2 2).bind fun bt177 => (spec_DrawFloatSum.j0 k ([] : List Nat) (wrap64 (1000 + bt177.1)) bt166.1 bt177.2.1 bt177.2.2)) else (spec_DrawFloatSum.j0 k ([] : List Nat) bt171.1 bt166.1 bt174.2.1 bt174.2.2)))))) = some r := h
  clear h
  replace H := Option.bind_eq_some_iff.mp H
  obtain ⟨⟨t166, t167, t168⟩, A20, H⟩ := H
  replace H : ((spec_l1Size.f l0 40).bind fun t170 => ((spec_l1Below.f t166 t167 t168 t170).bind fun bt171 => ((spec_l1Once.f t166 bt171.2.1 bt171.2.2 40).bind fun bt174 => (if bt174.1 = true then ((spec_l1Below.f t166 bt174.2.1 bt174.2.2 2).bind fun bt177 => (spec_DrawFloatSum.j0 k ([] : List Nat) (wrap64 (1000 + bt177.1)) t166 bt177.2.1 bt177.2.2)) else (spec_DrawFloatSum.j0 k ([] : List Nat) bt171.1 t166 bt174.2.1 bt174.2.2))))) = some r := H
  have A2 := Aside0.mk A20
  clear A20
  replace H := Option.bind_eq_some_iff.mp H
  obtain ⟨t170, A30, H⟩ := H
  replace H : ((spec_l1Below.f t166 t167 t168 t170).bind fun bt171 => ((spec_l1Once.f t166 bt171.2.1 bt171.2.2 40).bind fun bt174 => (if bt174.1 = true then ((spec_l1Below.f t166 bt174.2.1 bt174.2.2 2).bind fun bt177 => (spec_DrawFloatSum.j0 k ([] : List Nat) (wrap64 (1000 + bt177.1)) t166 bt177.2.1 bt177.2.2)) else (spec_DrawFloatSum.j0 k ([] : List Nat) bt171.1 t166 bt174.2.1 bt174.2.2)))) = some r := H
  have A3 := Aside0.mk A30
  clear A30
  replace H := Option.bind_eq_some_iff.mp H
  obtain ⟨⟨t171, t172, t173⟩, A40, H⟩ := H
  replace H : ((spec_l1Once.f t166 t172 t173 40).bind fun bt174 => (if bt174.1 = true then ((spec_l1Below.f t166 bt174.2.1 bt174.2.2 2).bind fun bt177 => (spec_DrawFloatSum.j0 k ([] : List Nat) (wrap64 (1000 + bt177.1)) t166 bt177.2.1 bt177.2.2)) else (spec_DrawFloatSum.j0 k ([] : List Nat) t171 t166 bt174.2.1 bt174.2.2))) = some r := H
  have A4 := Aside0.mk A40
  clear A40
  replace H := Option.bind_eq_some_iff.mp H
  obtain ⟨⟨t174, t175, t176⟩, A50, H⟩ := H
  replace H : (if t174 = true then ((spec_l1Below.f t166 t175 t176 2).bind fun bt177 => (spec_DrawFloatSum.j0 k ([] : List Nat) (wrap64 (1000 + bt177.1)) t166 bt177.2.1 bt177.2.2)) else (spec_DrawFloatSum.j0 k ([] : List Nat) t171 t166 t175 t176)) = some r := H
  have A5 := Aside0.mk A50
  clear A50
  have HC6 := Aside0.mk H
  clear H
  go_enter Try.func27, Try.ntmps27
  go_upto_if 16 with (first | ((with_reducible refine gate_callee (f := 33) rfl ?_); refine goesL_ (some 10) rfl rfl Try.func33 (by kernel_rfl) rfl #[.slice A0 l0.length c0] rfl (by (try simp only [List.map_toArray, List.map_cons, List.map_nil]); first | done | rfl | (simp only [List.length_drop, List.length_take]; rfl)) ?_; (with_reducible refine (spec_l1New.calls k _ _ l0 t166 t167 t168 w _ ?side1 ?side2 ?side3 A2.out).mono ?_); (case side1 => repeat (first | (with_reducible first | exact HB.out | apply below_alloc | apply pw_below_drewN | apply below_drew1) | exact HB.out)); (case side2 => exact HR0.out); (case side3 => exact HC0.out); rintro e w7 ⟨g169, rfl, hi, hb, hb2⟩; refine ⟨_, rfl, ?_⟩; have n0_ := Aside0.mk (hb); have n1_ := Aside0.mk (hi); clear HB; have HB := n0_; have HI169 := n1_; clear n0_ n1_; (try clear hb); (try clear hb2); (try clear hk); (try clear hi)) | ((with_reducible refine gate_callee (f := 35) rfl ?_); refine goesL_ (some 13) rfl rfl Try.func35 (by kernel_rfl) rfl #[.slice A0 l0.length c0, .int .i64 40] rfl (by (try simp only [List.map_toArray, List.map_cons, List.map_nil]); first | done | rfl | (simp only [List.length_drop, List.length_take]; rfl)) ?_; (with_reducible refine (spec_l1Size.calls _ _ l0 40 t170 _ ?side1 ?side2 A3.out).mono ?_); (case side1 => repeat (first | exact (Kd.C_below HR0.out HB.out) | (with_reducible refine Kd.C_alloc ?_ _) | (with_reducible refine Kd.C_drewN ?_ _) | (with_reducible refine Kd.C_drew ?_))); (case side2 => exact HC0.out); rintro e w' ⟨rfl, ⟨nd, rfl⟩⟩; refine ⟨_, rfl, ?_⟩) | ((with_reducible refine gate_callee (f := 34) rfl ?_); refine goesL_ (some 14) rfl rfl Try.func34 (by kernel_rfl) rfl #[.pointer (some ⟨g169, 0, none⟩), .int .i64 t170] rfl (by (try simp only [List.map_toArray, List.map_cons, List.map_nil]); first | done | rfl | (simp only [List.length_drop, List.length_take]; rfl)) ?_; (with_reducible refine (spec_l1Below.calls g169 t166 t167 t168 t170 t171 t172 t173 w _ ?side1 ?side2 A4.out).mono ?_); (case side1 => repeat (first | (with_reducible first | exact HI169.out | apply IsS52.alloc | apply IsS52.drewN | apply IsS52.drew | apply IsS52.set_1 | apply IsS52.set_2) | exact HI169.out)); (case side2 => repeat (first | (with_reducible first | exact HB.out | apply below_alloc | apply pw_below_drewN | apply below_drew1 | refine below_set ?_ (IsS52.ge HI169.out)) | exact HB.out)); rintro e w8 ⟨rfl, hi, hb, hk⟩; refine ⟨_, rfl, ?_⟩; have n0_ := Aside0.mk (hb); have n1_ := Aside0.mk (hi); clear HB; clear HI169; have HB := n0_; have HI169 := n1_; clear n0_ n1_; (try clear hb); (try clear hb2); (try clear hk); (try clear hi)) | ((with_reducible refine gate_callee (f := 36) rfl ?_); refine goesL_ (some 16) rfl rfl Try.func36 (by kernel_rfl) rfl #[.pointer (some ⟨g169, 0, none⟩), .int .i64 40] rfl (by (try simp only [List.map_toArray, List.map_cons, List.map_nil]); first | done | rfl | (simp only [List.length_drop, List.length_take]; rfl)) ?_; (with_reducible refine (spec_l1Once.calls g169 t166 t172 t173 40 t174 t175 t176 w _ ?side1 ?side2 A5.out).mono ?_); (case side1 => repeat (first | (with_reducible first | exact HI169.out | apply IsS52.alloc | apply IsS52.drewN | apply IsS52.drew | apply IsS52.set_1 | apply IsS52.set_2) | exact HI169.out)); (case side2 => repeat (first | (with_reducible first | exact HB.out | apply below_alloc | apply pw_below_drewN | apply below_drew1 | refine below_set ?_ (IsS52.ge HI169.out)) | exact HB.out)); rintro e w9 ⟨rfl, hi, hb, hk⟩; refine ⟨_, rfl, ?_⟩; have n0_ := Aside0.mk (hb); have n1_ := Aside0.mk (hi); clear HB; clear HI169; have HB := n0_; have HI169 := n1_; clear n0_ n1_; (try clear hb); (try clear hb2); (try clear hk); (try clear hi)))
  (try simp only [Act.put, List.setIfInBounds_toArray, List.set_cons_zero, List.set_cons_succ])
  go_cut [5] (fun v5 wc => ∃ (kq : Nat) (x5_5 : Int) (x170001_5 : Int) (x170002_5 : Int), v5 = .int .i64 x5_5 ∧ Aside0 (spec_DrawFloatSum.j0 kq ([] : List Nat) x5_5 t166 x170001_5 x170002_5 = some r) ∧ Aside0 (kq ≤ k) ∧ Aside0 (Kd.R Kd.flt 22 wc w.heap.size (fun _ => True) (.slice none 0 0) ([] : List Nat)) ∧ Aside0 (IsS52 w wc g169 t166 x170001_5 x170002_5) ∧ Aside0 (Below w.heap.size w wc))
  case first =>
    have H := HC6.out
    clear HC6
    by_cases c10 : t174 = true
    · subst c10
      have H1 : ((spec_l1Below.f t166 t175 t176 2).bind fun bt177 => (spec_DrawFloatSum.j0 k ([] : List Nat) (wrap64 (1000 + bt177.1)) t166 bt177.2.1 bt177.2.2)) = some r := by rw [if_pos rfl] at H; exact H
      clear H
      have H := H1
      clear H1
      replace H := Option.bind_eq_some_iff.mp H
      obtain ⟨⟨t177, t178, t179⟩, A110, H⟩ := H
      replace H : (spec_DrawFloatSum.j0 k ([] : List Nat) (wrap64 (1000 + t177)) t166 t178 t179) = some r := H
      have A11 := Aside0.mk A110
      clear A110
      have H' := Aside0.mk H
      clear H
      go_wp2_with (first | ((with_reducible refine gate_callee (f := 34) rfl ?_); refine goesL_ (some 18) rfl rfl Try.func34 (by kernel_rfl) rfl #[.pointer (some ⟨g169, 0, none⟩), .int .i64 2] rfl (by (try simp only [List.map_toArray, List.map_cons, List.map_nil]); first | done | rfl | (simp only [List.length_drop, List.length_take]; rfl)) ?_; (with_reducible refine (spec_l1Below.calls g169 t166 t175 t176 2 t177 t178 t179 w _ ?side1 ?side2 A11.out).mono ?_); (case side1 => repeat (first | (with_reducible first | exact HI169.out | apply IsS52.alloc | apply IsS52.drewN | apply IsS52.drew | apply IsS52.set_1 | apply IsS52.set_2) | exact HI169.out)); (case side2 => repeat (first | (with_reducible first | exact HB.out | apply below_alloc | apply pw_below_drewN | apply below_drew1 | refine below_set ?_ (IsS52.ge HI169.out)) | exact HB.out)); rintro e w12 ⟨rfl, hi, hb, hk⟩; refine ⟨_, rfl, ?_⟩; have n0_ := Aside0.mk (hb); have n1_ := Aside0.mk (hi); clear HB; clear HI169; have HB := n0_; have HI169 := n1_; clear n0_ n1_; (try clear hb); (try clear hb2); (try clear hk); (try clear hi)))
      go_meet
      case rel => exact ⟨_, (wrap64 (1000 + t177)), (t178), (t179), (by first | rfl | (simp; done) | (simp [*]; done)), H', ⟨by first | omega | exact Nat.le_refl _⟩, ⟨by first | exact Kd.R_nil _ _ _ _ _ | exact Kd.N_nil _ _ _ _ _ | exact Kd.V_nil _ _ _ _ _ | exact Kd.Q_nil _ _ _ _ _ | exact Kd.S_nil _ _ _ _ _⟩, ⟨by repeat (first | (with_reducible first | exact HI169.out | apply IsS52.alloc | apply IsS52.drewN | apply IsS52.drew | apply IsS52.set_1 | apply IsS52.set_2) | exact HI169.out)⟩, ⟨by repeat (first | (with_reducible first | exact HB.out | apply below_alloc | apply pw_below_drewN | apply below_drew1 | refine below_set ?_ (IsS52.ge HI169.out)) | exact HB.out)⟩⟩
    · replace c10 := Bool.eq_false_iff.mpr c10
      subst c10
      have H1 : (spec_DrawFloatSum.j0 k ([] : List Nat) t171 t166 t175 t176) = some r := by rw [if_neg (show ¬ (false = true) by decide)] at H; exact H
      clear H
      have H := H1
      clear H1
      have H' := Aside0.mk H
      clear H
      go_wp2
      go_meet
      case rel => exact ⟨_, (t171), (t175), (t176), (by first | rfl | (simp; done) | (simp [*]; done)), H', ⟨by first | omega | exact Nat.le_refl _⟩, ⟨by first | exact Kd.R_nil _ _ _ _ _ | exact Kd.N_nil _ _ _ _ _ | exact Kd.V_nil _ _ _ _ _ | exact Kd.Q_nil _ _ _ _ _ | exact Kd.S_nil _ _ _ _ _⟩, ⟨by repeat (first | (with_reducible first | exact HI169.out | apply IsS52.alloc | apply IsS52.drewN | apply IsS52.drew | apply IsS52.set_1 | apply IsS52.set_2) | exact HI169.out)⟩, ⟨by repeat (first | (with_reducible first | exact HB.out | apply below_alloc | apply pw_below_drewN | apply below_drew1 | refine below_set ?_ (IsS52.ge HI169.out)) | exact HB.out)⟩⟩
  case rest =>
    clear HC6
    try clear c1
    try clear c2
    try clear p2
    try clear c3
    try clear p6
    try clear c10
    obtain ⟨kq, x5_5, x170001_5, x170002_5, rfl, HA, HJ5, HO_4, HI169, HB⟩ := hcut
    cases kq with
    | zero => exact absurd HA.out (by simp [spec_DrawFloatSum.j0])
    | succ kj5 =>
      have H := HA.out
      clear HA
      simp only [spec_DrawFloatSum.j0] at H
      replace H := Option.bind_eq_some_iff.mp H
      obtain ⟨⟨t180, t181, t182⟩, A130, H⟩ := H
      replace H : (spec_DrawFloatSum.l0 kj5 ([] : List Nat) x5_5 t180 0 t166 t181 t182) = some r := H
      have A13 := Aside0.mk A130
      clear A130
      have H' := Aside0.mk (⟨r, rfl, H⟩ : ∃ r_1 : List Nat, r_1.length = r.length ∧ _ = some r_1)
      clear H
      go_wp2_with (first | ((with_reducible refine gate_callee (f := 36) rfl ?_); refine goesL_ (some 21) rfl rfl Try.func36 (by kernel_rfl) rfl #[.pointer (some ⟨g169, 0, none⟩), .int .i64 2] rfl (by (try simp only [List.map_toArray, List.map_cons, List.map_nil]); first | done | rfl | (simp only [List.length_drop, List.length_take]; rfl)) ?_; (with_reducible refine (spec_l1Once.calls g169 t166 x170001_5 x170002_5 2 t180 t181 t182 w _ ?side1 ?side2 A13.out).mono ?_); (case side1 => repeat (first | (with_reducible first | exact HI169.out | apply IsS52.alloc | apply IsS52.drewN | apply IsS52.drew | apply IsS52.set_1 | apply IsS52.set_2) | exact HI169.out)); (case side2 => repeat (first | (with_reducible first | exact HB.out | apply below_alloc | apply pw_below_drewN | apply below_drew1 | refine below_set ?_ (IsS52.ge HI169.out)) | exact HB.out)); rintro e w14 ⟨rfl, hi, hb, hk⟩; refine ⟨_, rfl, ?_⟩; have n0_ := Aside0.mk (Kd.R_mono (Kd.R_keep (IsS52.apart (show IsS52 w _ g169 t166 x170001_5 x170002_5 from by repeat (first | (with_reducible first | exact HI169.out | apply IsS52.alloc | apply IsS52.drewN | apply IsS52.drew | apply IsS52.set_1 | apply IsS52.set_2) | exact HI169.out)) (by (with_reducible repeat (first | apply Kd.R_alloc | apply Kd.R_drewN | apply Kd.R_drew)); exact HO_4.out) (by decide)) hk (fun _ h => h.2)) (fun _ h => h.1)); have n1_ := Aside0.mk (hb); have n2_ := Aside0.mk (hi); clear HO_4; clear HB; clear HI169; have HO_4 := n0_; have HB := n1_; have HI169 := n2_; clear n0_ n1_ n2_; (try clear hb); (try clear hb2); (try clear hk); (try clear hi)))
      go_loopg [4, 7] kj5 (fun kq v4 v7 w' => ∃ (x4_2 : List Nat) (x7_2 : Int) (x170001_2 : Int) (x170002_2 : Int), v7 = .int .i64 x7_2 ∧ Aside0 (∃ r_1 : List Nat, r_1.length = r.length ∧ spec_DrawFloatSum.l0 kq x4_2 x5_5 t180 x7_2 t166 x170001_2 x170002_2 = some r_1) ∧ Aside0 (kq ≤ kj5) ∧ Aside0 (Kd.R Kd.flt 22 w' w.heap.size (fun _ => True) v4 x4_2) ∧ Aside0 (IsS52 w w' g169 t166 x170001_2 x170002_2) ∧ Aside0 (Below w.heap.size w w'))
      case atStart => exact ⟨(([] : List Nat)), (0), (t181), (t182), (by first | rfl | (simp; done) | (simp [*]; done)), H', ⟨Nat.le_refl _⟩, ⟨by (with_reducible repeat (first | apply Kd.R_alloc | apply Kd.R_drewN | apply Kd.R_drew)); exact HO_4.out⟩, ⟨by repeat (first | (with_reducible first | exact HI169.out | apply IsS52.alloc | apply IsS52.drewN | apply IsS52.drew | apply IsS52.set_1 | apply IsS52.set_2) | exact HI169.out)⟩, ⟨by repeat (first | (with_reducible first | exact HB.out | apply below_alloc | apply pw_below_drewN | apply below_drew1 | refine below_set ?_ (IsS52.ge HI169.out)) | exact HB.out)⟩⟩
      case round =>
        clear H'
        try clear c1
        try clear c2
        try clear p2
        try clear c3
        try clear p6
        try clear c10
        try clear p2
        try clear p6
        obtain ⟨x4_2, x7_2, x170001_2, x170002_2, rfl, HA, HK2, HO_4, HI169, HB⟩ := hrel
        cases gk with
        | zero => obtain ⟨r_, _, h_⟩ := HA.out; exact absurd h_ (by simp [spec_DrawFloatSum.l0])
        | succ k2 =>
          obtain ⟨r_, hr_, H⟩ := HA.out
          have HRL := Aside0.mk hr_
          clear hr_
          clear HA
          simp only [spec_DrawFloatSum.l0] at H
          by_cases c15 : x7_2 < x5_5
          · rw [if_pos c15] at H
            have c15b0 : decide (x7_2 < x5_5) = true := decide_eq_true c15
            clear c15
            replace H := Option.bind_eq_some_iff.mp H
            obtain ⟨⟨t183, t184, t185⟩, A160, H⟩ := H
            replace H : (if (fok .quo (fofi (wrap64 (t183 - 2000))) 4625196817309499392) = true then (if t180 = true then ((spec_l1Once.f t166 t184 t185 9).bind fun bt186 => (if bt186.1 = true then ((spec_l2float.f k2 t166 bt186.2.1 bt186.2.2).bind fun bt189 => (if x4_2.length < 17592186044416 then (spec_DrawFloatSum.l0 k2 (x4_2 ++ [bt189.1]) x5_5 t180 (wrap64 (x7_2 + 1)) t166 bt189.2.1 bt189.2.2) else (none))) else (if x4_2.length < 17592186044416 then (spec_DrawFloatSum.l0 k2 (x4_2 ++ [fval .quo (fofi (wrap64 (t183 - 2000))) 4625196817309499392]) x5_5 t180 (wrap64 (x7_2 + 1)) t166 bt186.2.1 bt186.2.2) else (none)))) else ((spec_l2float.f k2 t166 t184 t185).bind fun bt198 => (if x4_2.length < 17592186044416 then (spec_DrawFloatSum.l0 k2 (x4_2 ++ [bt198.1]) x5_5 t180 (wrap64 (x7_2 + 1)) t166 bt198.2.1 bt198.2.2) else (none)))) else (none)) = some r_ := H
            have A16 := Aside0.mk A160
            clear A160
            by_cases c17 : (fok .quo (fofi (wrap64 (t183 - 2000))) 4625196817309499392) = true
            · rw [if_pos c17] at H
              have c17b0 : (fok .quo (fofi (wrap64 (t183 - 2000))) 4625196817309499392) = true := c17
              clear c17
              by_cases c18 : t180 = true
              · subst c18
                have H1 : ((spec_l1Once.f t166 t184 t185 9).bind fun bt186 => (if bt186.1 = true then ((spec_l2float.f k2 t166 bt186.2.1 bt186.2.2).bind fun bt189 => (if x4_2.length < 17592186044416 then (spec_DrawFloatSum.l0 k2 (x4_2 ++ [bt189.1]) x5_5 true (wrap64 (x7_2 + 1)) t166 bt189.2.1 bt189.2.2) else (none))) else (if x4_2.length < 17592186044416 then (spec_DrawFloatSum.l0 k2 (x4_2 ++ [fval .quo (fofi (wrap64 (t183 - 2000))) 4625196817309499392]) x5_5 true (wrap64 (x7_2 + 1)) t166 bt186.2.1 bt186.2.2) else (none)))) = some r_ := by rw [if_pos rfl] at H; exact H
                clear H
                have H := H1
                clear H1
                replace H := Option.bind_eq_some_iff.mp H
                obtain ⟨⟨t186, t187, t188⟩, A190, H⟩ := H
                replace H : (if t186 = true then ((spec_l2float.f k2 t166 t187 t188).bind fun bt189 => (if x4_2.length < 17592186044416 then (spec_DrawFloatSum.l0 k2 (x4_2 ++ [bt189.1]) x5_5 true (wrap64 (x7_2 + 1)) t166 bt189.2.1 bt189.2.2) else (none))) else (if x4_2.length < 17592186044416 then (spec_DrawFloatSum.l0 k2 (x4_2 ++ [fval .quo (fofi (wrap64 (t183 - 2000))) 4625196817309499392]) x5_5 true (wrap64 (x7_2 + 1)) t166 t187 t188) else (none))) = some r_ := H
                have A19 := Aside0.mk A190
                clear A190
                by_cases c20 : t186 = true
                · subst c20
                  have H1 : ((spec_l2float.f k2 t166 t187 t188).bind fun bt189 => (if x4_2.length < 17592186044416 then (spec_DrawFloatSum.l0 k2 (x4_2 ++ [bt189.1]) x5_5 true (wrap64 (x7_2 + 1)) t166 bt189.2.1 bt189.2.2) else (none))) = some r_ := by rw [if_pos rfl] at H; exact H
                  clear H
                  have H := H1
                  clear H1
                  replace H := Option.bind_eq_some_iff.mp H
                  obtain ⟨⟨t189, t190, t191⟩, A210, H⟩ := H
                  replace H : (if x4_2.length < 17592186044416 then (spec_DrawFloatSum.l0 k2 (x4_2 ++ [t189]) x5_5 true (wrap64 (x7_2 + 1)) t166 t190 t191) else (none)) = some r_ := H
                  have A21 := Aside0.mk A210
                  clear A210
                  by_cases c22 : x4_2.length < 17592186044416
                  · rw [if_pos c22] at H
                    have LMc22 := Aside0.mk c22
                    clear c22
                    have HH := Aside0.mk H
                    clear H
                    go_wp2_with (first | ((with_reducible refine gate_callee (f := 34) rfl ?_); refine goesL_ (some 28) rfl rfl Try.func34 (by kernel_rfl) rfl #[.pointer (some ⟨g169, 0, none⟩), .int .i64 4000] rfl (by (try simp only [List.map_toArray, List.map_cons, List.map_nil]); first | done | rfl | (simp only [List.length_drop, List.length_take]; rfl)) ?_; (with_reducible refine (spec_l1Below.calls g169 t166 x170001_2 x170002_2 4000 t183 t184 t185 w _ ?side1 ?side2 A16.out).mono ?_); (case side1 => repeat (first | (with_reducible first | exact HI169.out | apply IsS52.alloc | apply IsS52.drewN | apply IsS52.drew | apply IsS52.set_1 | apply IsS52.set_2) | exact HI169.out)); (case side2 => repeat (first | (with_reducible first | exact HB.out | apply below_alloc | apply pw_below_drewN | apply below_drew1 | refine below_set ?_ (IsS52.ge HI169.out)) | exact HB.out)); rintro e w23 ⟨rfl, hi, hb, hk⟩; refine ⟨_, rfl, ?_⟩; have n0_ := Aside0.mk (Kd.R_mono (Kd.R_keep (IsS52.apart (show IsS52 w _ g169 t166 x170001_2 x170002_2 from by repeat (first | (with_reducible first | exact HI169.out | apply IsS52.alloc | apply IsS52.drewN | apply IsS52.drew | apply IsS52.set_1 | apply IsS52.set_2) | exact HI169.out)) (by (with_reducible repeat (first | apply Kd.R_alloc | apply Kd.R_drewN | apply Kd.R_drew)); exact HO_4.out) (by decide)) hk (fun _ h => h.2)) (fun _ h => h.1)); have n1_ := Aside0.mk (hb); have n2_ := Aside0.mk (hi); clear HO_4; clear HB; clear HI169; have HO_4 := n0_; have HB := n1_; have HI169 := n2_; clear n0_ n1_ n2_; (try clear hb); (try clear hb2); (try clear hk); (try clear hi)) | (go_at_call 36; (with_reducible refine (spec_l1Once.calls g169 t166 t184 t185 9 true t187 t188 w _ ?side1 ?side2 A19.out).mono ?_); (case side1 => repeat (first | (with_reducible first | exact HI169.out | apply IsS52.alloc | apply IsS52.drewN | apply IsS52.drew | apply IsS52.set_1 | apply IsS52.set_2) | exact HI169.out)); (case side2 => repeat (first | (with_reducible first | exact HB.out | apply below_alloc | apply pw_below_drewN | apply below_drew1 | refine below_set ?_ (IsS52.ge HI169.out)) | exact HB.out)); rintro e w24 ⟨rfl, hi, hb, hk⟩; have n0_ := Aside0.mk (Kd.R_mono (Kd.R_keep (IsS52.apart (show IsS52 w _ g169 t166 t184 t185 from by repeat (first | (with_reducible first | exact HI169.out | apply IsS52.alloc | apply IsS52.drewN | apply IsS52.drew | apply IsS52.set_1 | apply IsS52.set_2) | exact HI169.out)) (by (with_reducible repeat (first | apply Kd.R_alloc | apply Kd.R_drewN | apply Kd.R_drew)); exact HO_4.out) (by decide)) hk (fun _ h => h.2)) (fun _ h => h.1)); have n1_ := Aside0.mk (hb); have n2_ := Aside0.mk (hi); clear HO_4; clear HB; clear HI169; have HO_4 := n0_; have HB := n1_; have HI169 := n2_; clear n0_ n1_ n2_; (try clear hb); (try clear hb2); (try clear hk); (try clear hi)) | ((with_reducible refine gate_callee (f := 37) rfl ?_); refine goesL_ (some 39) rfl rfl Try.func37 (by kernel_rfl) rfl #[.pointer (some ⟨g169, 0, none⟩)] rfl (by (try simp only [List.map_toArray, List.map_cons, List.map_nil]); first | done | rfl | (simp only [List.length_drop, List.length_take]; rfl)) ?_; (with_reducible refine (spec_l2float.callsC k2 g169 t166 t187 t188 t189 t190 t191 w _ ?side1 ?side2 A21.out).mono ?_); (case side1 => repeat (first | (with_reducible first | exact HI169.out | apply IsS52.alloc | apply IsS52.drewN | apply IsS52.drew | apply IsS52.set_1 | apply IsS52.set_2) | exact HI169.out)); (case side2 => repeat (first | (with_reducible first | exact HB.out | apply below_alloc | apply pw_below_drewN | apply below_drew1 | refine below_set ?_ (IsS52.ge HI169.out)) | exact HB.out)); rintro e w25 ⟨b189, rfl, hi, hb, hk, ⟨⟨hcnb189, hltb189⟩⟩⟩; refine ⟨_, rfl, ?_⟩; have LTb189 := Aside0.mk hltb189; clear hltb189; subst hcnb189; obtain ⟨r2_, y192, e1_, e2_, e3_⟩ := spec_DrawFloatSum.len1 b189 HH.out HRL.out; have Ny192 := Aside0.mk e1_; have H' := Aside0.mk (⟨r2_, e2_, e3_⟩ : ∃ r_1 : List Nat, r_1.length = r.length ∧ _ = some r_1); clear e1_ e2_ e3_ HH; have n0_ := Aside0.mk (Kd.R_mono (Kd.R_keep (IsS52.apart (show IsS52 w _ g169 t166 t187 t188 from by repeat (first | (with_reducible first | exact HI169.out | apply IsS52.alloc | apply IsS52.drewN | apply IsS52.drew | apply IsS52.set_1 | apply IsS52.set_2) | exact HI169.out)) (by (with_reducible repeat (first | apply Kd.R_alloc | apply Kd.R_drewN | apply Kd.R_drew)); exact HO_4.out) (by decide)) hk (fun _ h => h.2)) (fun _ h => h.1)); have n1_ := Aside0.mk (hb); have n2_ := Aside0.mk (hi); clear HO_4; clear HB; clear HI169; have HO_4 := n0_; have HB := n1_; have HI169 := n2_; clear n0_ n1_ n2_; (try clear hb); (try clear hb2); (try clear hk); (try clear hi)) | ((with_reducible refine gate_builtin (b := .append) (xs := #[.tmp 40, .tmp 42]) rfl ?_); at_builtin; refine Kd.R_append Kd.flt (w0 := w) w.heap.size rfl (.tmp 40) (.tmp 42) 29 22 (.float .f64 0) 8 rfl Try.underlying29 info22 rfl (by decide) (by omega) u4 x4_2 b189 [.float .f64 b189] (fun _ => True) (fun _ => False) rfl rfl ?aP (fun _ hk => hk.elim) ?aF ?aO ?aB ?aS ?aL ?_; (case aP => exact rfl); (case aB => exact (by repeat (first | (with_reducible first | exact HB.out | apply below_alloc | apply pw_below_drewN | apply below_drew1 | refine below_set ?_ (IsS52.ge HI169.out)) | exact HB.out))); (case aF => exact (fun _ _ => trivial)); (case aO => exact (by (with_reducible repeat (first | apply Kd.R_alloc | apply Kd.R_drewN | apply Kd.R_drew)); exact HO_4.out)); (case aS => exact (below_size (by repeat (first | (with_reducible first | exact HB.out | apply below_alloc | apply pw_below_drewN | apply below_drew1 | refine below_set ?_ (IsS52.ge HI169.out)) | exact HB.out)))); (case aL => have := LMc22.out; omega); intro v193 w26 ho hb hg hat; rw [← Ny192.out] at ho; have n0_ := Aside0.mk (IsS52.grown (by repeat (first | (with_reducible first | exact HI169.out | apply IsS52.alloc | apply IsS52.drewN | apply IsS52.drew | apply IsS52.set_1 | apply IsS52.set_2) | exact HI169.out)) hg (IsS52.own_ne HI169.out HO_4.out (by decide))); have n1_ := Aside0.mk (hb); have n2_ := Aside0.mk (ho); clear HI169; clear HB; clear HO_4; have HI169 := n0_; have HB := n1_; have HO194 := n2_; clear n0_ n1_ n2_; clear ho hb hg hat))
                    go_roundg k2
                    case measure => have := HJ5.out; have := HK2.out; omega
                    case rel => exact ⟨(y192), (wrap64 (x7_2 + 1)), (t190), (t191), (by first | rfl | (simp; done) | (simp [*]; done) | (exfalso; simp_all; done)), H', ⟨by have := HJ5.out; have := HK2.out; omega⟩, ⟨by (with_reducible repeat (first | apply Kd.R_alloc | apply Kd.R_drewN | apply Kd.R_drew)); exact HO194.out⟩, ⟨by repeat (first | (with_reducible first | exact HI169.out | apply IsS52.alloc | apply IsS52.drewN | apply IsS52.drew | apply IsS52.set_1 | apply IsS52.set_2) | exact HI169.out)⟩, ⟨by repeat (first | (with_reducible first | exact HB.out | apply below_alloc | apply pw_below_drewN | apply below_drew1 | refine below_set ?_ (IsS52.ge HI169.out)) | exact HB.out)⟩⟩
                  · rw [if_neg c22] at H
                    exact absurd H (by simp)
                · replace c20 := Bool.eq_false_iff.mpr c20
                  subst c20
                  have H1 : (if x4_2.length < 17592186044416 then (spec_DrawFloatSum.l0 k2 (x4_2 ++ [fval .quo (fofi (wrap64 (t183 - 2000))) 4625196817309499392]) x5_5 true (wrap64 (x7_2 + 1)) t166 t187 t188) else (none)) = some r_ := by rw [if_neg (show ¬ (false = true) by decide)] at H; exact H
                  clear H
                  have H := H1
                  clear H1
                  by_cases c27 : x4_2.length < 17592186044416
                  · rw [if_pos c27] at H
                    have LMc27 := Aside0.mk c27
                    clear c27
                    obtain ⟨y195, hy195⟩ : ∃ y_ : List Nat, y_ = (x4_2 ++ [fval .quo (fofi (wrap64 (t183 - 2000))) 4625196817309499392]) := ⟨_, rfl⟩
                    replace H : (spec_DrawFloatSum.l0 k2 y195 x5_5 true (wrap64 (x7_2 + 1)) t166 t187 t188) = some r_ := by first | (rw [hy195]; with_reducible exact H) | (have H2_ := (Option.bind_some _ _).symm.trans H; rw [hy195]; with_reducible exact H2_) | (have H2_ := (Option.bind_some _ _).symm.trans H; with_reducible exact H2_) | with_reducible exact H | (rw [hy195]; exact H) | exact H
                    have Ny195 := Aside0.mk hy195
                    clear hy195
                    have H' := Aside0.mk (⟨r_, HRL.out, H⟩ : ∃ r_1 : List Nat, r_1.length = r.length ∧ _ = some r_1)
                    clear H
                    go_wp2_with (first | ((with_reducible refine gate_callee (f := 34) rfl ?_); refine goesL_ (some 28) rfl rfl Try.func34 (by kernel_rfl) rfl #[.pointer (some ⟨g169, 0, none⟩), .int .i64 4000] rfl (by (try simp only [List.map_toArray, List.map_cons, List.map_nil]); first | done | rfl | (simp only [List.length_drop, List.length_take]; rfl)) ?_; (with_reducible refine (spec_l1Below.calls g169 t166 x170001_2 x170002_2 4000 t183 t184 t185 w _ ?side1 ?side2 A16.out).mono ?_); (case side1 => repeat (first | (with_reducible first | exact HI169.out | apply IsS52.alloc | apply IsS52.drewN | apply IsS52.drew | apply IsS52.set_1 | apply IsS52.set_2) | exact HI169.out)); (case side2 => repeat (first | (with_reducible first | exact HB.out | apply below_alloc | apply pw_below_drewN | apply below_drew1 | refine below_set ?_ (IsS52.ge HI169.out)) | exact HB.out)); rintro e w28 ⟨rfl, hi, hb, hk⟩; refine ⟨_, rfl, ?_⟩; have n0_ := Aside0.mk (Kd.R_mono (Kd.R_keep (IsS52.apart (show IsS52 w _ g169 t166 x170001_2 x170002_2 from by repeat (first | (with_reducible first | exact HI169.out | apply IsS52.alloc | apply IsS52.drewN | apply IsS52.drew | apply IsS52.set_1 | apply IsS52.set_2) | exact HI169.out)) (by (with_reducible repeat (first | apply Kd.R_alloc | apply Kd.R_drewN | apply Kd.R_drew)); exact HO_4.out) (by decide)) hk (fun _ h => h.2)) (fun _ h => h.1)); have n1_ := Aside0.mk (hb); have n2_ := Aside0.mk (hi); clear HO_4; clear HB; clear HI169; have HO_4 := n0_; have HB := n1_; have HI169 := n2_; clear n0_ n1_ n2_; (try clear hb); (try clear hb2); (try clear hk); (try clear hi)) | (go_at_call 36; (with_reducible refine (spec_l1Once.calls g169 t166 t184 t185 9 false t187 t188 w _ ?side1 ?side2 A19.out).mono ?_); (case side1 => repeat (first | (with_reducible first | exact HI169.out | apply IsS52.alloc | apply IsS52.drewN | apply IsS52.drew | apply IsS52.set_1 | apply IsS52.set_2) | exact HI169.out)); (case side2 => repeat (first | (with_reducible first | exact HB.out | apply below_alloc | apply pw_below_drewN | apply below_drew1 | refine below_set ?_ (IsS52.ge HI169.out)) | exact HB.out)); rintro e w29 ⟨rfl, hi, hb, hk⟩; have n0_ := Aside0.mk (Kd.R_mono (Kd.R_keep (IsS52.apart (show IsS52 w _ g169 t166 t184 t185 from by repeat (first | (with_reducible first | exact HI169.out | apply IsS52.alloc | apply IsS52.drewN | apply IsS52.drew | apply IsS52.set_1 | apply IsS52.set_2) | exact HI169.out)) (by (with_reducible repeat (first | apply Kd.R_alloc | apply Kd.R_drewN | apply Kd.R_drew)); exact HO_4.out) (by decide)) hk (fun _ h => h.2)) (fun _ h => h.1)); have n1_ := Aside0.mk (hb); have n2_ := Aside0.mk (hi); clear HO_4; clear HB; clear HI169; have HO_4 := n0_; have HB := n1_; have HI169 := n2_; clear n0_ n1_ n2_; (try clear hb); (try clear hb2); (try clear hk); (try clear hi)) | ((with_reducible refine gate_builtin (b := .append) (xs := #[.tmp 40, .tmp 42]) rfl ?_); at_builtin; refine Kd.R_append Kd.flt (w0 := w) w.heap.size rfl (.tmp 40) (.tmp 42) 29 22 (.float .f64 0) 8 rfl Try.underlying29 info22 rfl (by decide) (by omega) u4 x4_2 (fval .quo (fofi (wrap64 (t183 - 2000))) 4625196817309499392) [.float .f64 (fval .quo (fofi (wrap64 (t183 - 2000))) 4625196817309499392)] (fun _ => True) (fun _ => False) rfl rfl ?aP (fun _ hk => hk.elim) ?aF ?aO ?aB ?aS ?aL ?_; (case aP => exact rfl); (case aB => exact (by repeat (first | (with_reducible first | exact HB.out | apply below_alloc | apply pw_below_drewN | apply below_drew1 | refine below_set ?_ (IsS52.ge HI169.out)) | exact HB.out))); (case aF => exact (fun _ _ => trivial)); (case aO => exact (by (with_reducible repeat (first | apply Kd.R_alloc | apply Kd.R_drewN | apply Kd.R_drew)); exact HO_4.out)); (case aS => exact (below_size (by repeat (first | (with_reducible first | exact HB.out | apply below_alloc | apply pw_below_drewN | apply below_drew1 | refine below_set ?_ (IsS52.ge HI169.out)) | exact HB.out)))); (case aL => have := LMc27.out; omega); intro v196 w30 ho hb hg hat; rw [← Ny195.out] at ho; have n0_ := Aside0.mk (IsS52.grown (by repeat (first | (with_reducible first | exact HI169.out | apply IsS52.alloc | apply IsS52.drewN | apply IsS52.drew | apply IsS52.set_1 | apply IsS52.set_2) | exact HI169.out)) hg (IsS52.own_ne HI169.out HO_4.out (by decide))); have n1_ := Aside0.mk (hb); have n2_ := Aside0.mk (ho); clear HI169; clear HB; clear HO_4; have HI169 := n0_; have HB := n1_; have HO197 := n2_; clear n0_ n1_ n2_; clear ho hb hg hat))
                    go_roundg k2
                    case measure => have := HJ5.out; have := HK2.out; omega
                    case rel => exact ⟨(y195), (wrap64 (x7_2 + 1)), (t187), (t188), (by first | rfl | (simp; done) | (simp [*]; done)), H', ⟨by have := HJ5.out; have := HK2.out; omega⟩, ⟨by (with_reducible repeat (first | apply Kd.R_alloc | apply Kd.R_drewN | apply Kd.R_drew)); exact HO197.out⟩, ⟨by repeat (first | (with_reducible first | exact HI169.out | apply IsS52.alloc | apply IsS52.drewN | apply IsS52.drew | apply IsS52.set_1 | apply IsS52.set_2) | exact HI169.out)⟩, ⟨by repeat (first | (with_reducible first | exact HB.out | apply below_alloc | apply pw_below_drewN | apply below_drew1 | refine below_set ?_ (IsS52.ge HI169.out)) | exact HB.out)⟩⟩
                  · rw [if_neg c27] at H
                    exact absurd H (by simp)
              · replace c18 := Bool.eq_false_iff.mpr c18
                subst c18
                have H1 : ((spec_l2float.f k2 t166 t184 t185).bind fun bt198 => (if x4_2.length < 17592186044416 then (spec_DrawFloatSum.l0 k2 (x4_2 ++ [bt198.1]) x5_5 false (wrap64 (x7_2 + 1)) t166 bt198.2.1 bt198.2.2) else (none))) = some r_ := by rw [if_neg (show ¬ (false = true) by decide)] at H; exact H
                clear H
                have H := H1
                clear H1
                replace H := Option.bind_eq_some_iff.mp H
                obtain ⟨⟨t198, t199, t200⟩, A310, H⟩ := H
                replace H : (if x4_2.length < 17592186044416 then (spec_DrawFloatSum.l0 k2 (x4_2 ++ [t198]) x5_5 false (wrap64 (x7_2 + 1)) t166 t199 t200) else (none)) = some r_ := H
                have A31 := Aside0.mk A310
                clear A310
                by_cases c32 : x4_2.length < 17592186044416
                · rw [if_pos c32] at H
                  have LMc32 := Aside0.mk c32
                  clear c32
                  have HH := Aside0.mk H
                  clear H
                  go_wp2_with (first | ((with_reducible refine gate_callee (f := 34) rfl ?_); refine goesL_ (some 28) rfl rfl Try.func34 (by kernel_rfl) rfl #[.pointer (some ⟨g169, 0, none⟩), .int .i64 4000] rfl (by (try simp only [List.map_toArray, List.map_cons, List.map_nil]); first | done | rfl | (simp only [List.length_drop, List.length_take]; rfl)) ?_; (with_reducible refine (spec_l1Below.calls g169 t166 x170001_2 x170002_2 4000 t183 t184 t185 w _ ?side1 ?side2 A16.out).mono ?_); (case side1 => repeat (first | (with_reducible first | exact HI169.out | apply IsS52.alloc | apply IsS52.drewN | apply IsS52.drew | apply IsS52.set_1 | apply IsS52.set_2) | exact HI169.out)); (case side2 => repeat (first | (with_reducible first | exact HB.out | apply below_alloc | apply pw_below_drewN | apply below_drew1 | refine below_set ?_ (IsS52.ge HI169.out)) | exact HB.out)); rintro e w33 ⟨rfl, hi, hb, hk⟩; refine ⟨_, rfl, ?_⟩; have n0_ := Aside0.mk (Kd.R_mono (Kd.R_keep (IsS52.apart (show IsS52 w _ g169 t166 x170001_2 x170002_2 from by repeat (first | (with_reducible first | exact HI169.out | apply IsS52.alloc | apply IsS52.drewN | apply IsS52.drew | apply IsS52.set_1 | apply IsS52.set_2) | exact HI169.out)) (by (with_reducible repeat (first | apply Kd.R_alloc | apply Kd.R_drewN | apply Kd.R_drew)); exact HO_4.out) (by decide)) hk (fun _ h => h.2)) (fun _ h => h.1)); have n1_ := Aside0.mk (hb); have n2_ := Aside0.mk (hi); clear HO_4; clear HB; clear HI169; have HO_4 := n0_; have HB := n1_; have HI169 := n2_; clear n0_ n1_ n2_; (try clear hb); (try clear hb2); (try clear hk); (try clear hi)) | ((with_reducible refine gate_callee (f := 37) rfl ?_); refine goesL_ (some 39) rfl rfl Try.func37 (by kernel_rfl) rfl #[.pointer (some ⟨g169, 0, none⟩)] rfl (by (try simp only [List.map_toArray, List.map_cons, List.map_nil]); first | done | rfl | (simp only [List.length_drop, List.length_take]; rfl)) ?_; (with_reducible refine (spec_l2float.callsC k2 g169 t166 t184 t185 t198 t199 t200 w _ ?side1 ?side2 A31.out).mono ?_); (case side1 => repeat (first | (with_reducible first | exact HI169.out | apply IsS52.alloc | apply IsS52.drewN | apply IsS52.drew | apply IsS52.set_1 | apply IsS52.set_2) | exact HI169.out)); (case side2 => repeat (first | (with_reducible first | exact HB.out | apply below_alloc | apply pw_below_drewN | apply below_drew1 | refine below_set ?_ (IsS52.ge HI169.out)) | exact HB.out)); rintro e w34 ⟨b198, rfl, hi, hb, hk, ⟨⟨hcnb198, hltb198⟩⟩⟩; refine ⟨_, rfl, ?_⟩; have LTb198 := Aside0.mk hltb198; clear hltb198; subst hcnb198; obtain ⟨r2_, y201, e1_, e2_, e3_⟩ := spec_DrawFloatSum.len1 b198 HH.out HRL.out; have Ny201 := Aside0.mk e1_; have H' := Aside0.mk (⟨r2_, e2_, e3_⟩ : ∃ r_1 : List Nat, r_1.length = r.length ∧ _ = some r_1); clear e1_ e2_ e3_ HH; have n0_ := Aside0.mk (Kd.R_mono (Kd.R_keep (IsS52.apart (show IsS52 w _ g169 t166 t184 t185 from by repeat (first | (with_reducible first | exact HI169.out | apply IsS52.alloc | apply IsS52.drewN | apply IsS52.drew | apply IsS52.set_1 | apply IsS52.set_2) | exact HI169.out)) (by (with_reducible repeat (first | apply Kd.R_alloc | apply Kd.R_drewN | apply Kd.R_drew)); exact HO_4.out) (by decide)) hk (fun _ h => h.2)) (fun _ h => h.1)); have n1_ := Aside0.mk (hb); have n2_ := Aside0.mk (hi); clear HO_4; clear HB; clear HI169; have HO_4 := n0_; have HB := n1_; have HI169 := n2_; clear n0_ n1_ n2_; (try clear hb); (try clear hb2); (try clear hk); (try clear hi)) | ((with_reducible refine gate_builtin (b := .append) (xs := #[.tmp 40, .tmp 42]) rfl ?_); at_builtin; refine Kd.R_append Kd.flt (w0 := w) w.heap.size rfl (.tmp 40) (.tmp 42) 29 22 (.float .f64 0) 8 rfl Try.underlying29 info22 rfl (by decide) (by omega) u4 x4_2 b198 [.float .f64 b198] (fun _ => True) (fun _ => False) rfl rfl ?aP (fun _ hk => hk.elim) ?aF ?aO ?aB ?aS ?aL ?_; (case aP => exact rfl); (case aB => exact (by repeat (first | (with_reducible first | exact HB.out | apply below_alloc | apply pw_below_drewN | apply below_drew1 | refine below_set ?_ (IsS52.ge HI169.out)) | exact HB.out))); (case aF => exact (fun _ _ => trivial)); (case aO => exact (by (with_reducible repeat (first | apply Kd.R_alloc | apply Kd.R_drewN | apply Kd.R_drew)); exact HO_4.out)); (case aS => exact (below_size (by repeat (first | (with_reducible first | exact HB.out | apply below_alloc | apply pw_below_drewN | apply below_drew1 | refine below_set ?_ (IsS52.ge HI169.out)) | exact HB.out)))); (case aL => have := LMc32.out; omega); intro v202 w35 ho hb hg hat; rw [← Ny201.out] at ho; have n0_ := Aside0.mk (IsS52.grown (by repeat (first | (with_reducible first | exact HI169.out | apply IsS52.alloc | apply IsS52.drewN | apply IsS52.drew | apply IsS52.set_1 | apply IsS52.set_2) | exact HI169.out)) hg (IsS52.own_ne HI169.out HO_4.out (by decide))); have n1_ := Aside0.mk (hb); have n2_ := Aside0.mk (ho); clear HI169; clear HB; clear HO_4; have HI169 := n0_; have HB := n1_; have HO203 := n2_; clear n0_ n1_ n2_; clear ho hb hg hat))
                  go_roundg k2
                  case measure => have := HJ5.out; have := HK2.out; omega
                  case rel => exact ⟨(y201), (wrap64 (x7_2 + 1)), (t199), (t200), (by first | rfl | (simp; done) | (simp [*]; done) | (exfalso; simp_all; done)), H', ⟨by have := HJ5.out; have := HK2.out; omega⟩, ⟨by (with_reducible repeat (first | apply Kd.R_alloc | apply Kd.R_drewN | apply Kd.R_drew)); exact HO203.out⟩, ⟨by repeat (first | (with_reducible first | exact HI169.out | apply IsS52.alloc | apply IsS52.drewN | apply IsS52.drew | apply IsS52.set_1 | apply IsS52.set_2) | exact HI169.out)⟩, ⟨by repeat (first | (with_reducible first | exact HB.out | apply below_alloc | apply pw_below_drewN | apply below_drew1 | refine below_set ?_ (IsS52.ge HI169.out)) | exact HB.out)⟩⟩
                · rw [if_neg c32] at H
                  exact absurd H (by simp)
            · rw [if_neg c17] at H
              exact absurd H (by simp)
          · rw [if_neg c15] at H
            have c15b0 : decide (x7_2 < x5_5) = false := decide_eq_false c15
            clear c15
            have HL_ := Option.some.inj H
            clear H
            subst HL_
            go_wp2
            go_ret
            exact ⟨_, _, by first | rfl | (simp [errW_none, errW_some] <;> rfl) | (simp [*, errW_none, errW_some] <;> rfl), by (with_reducible repeat (first | apply Kd.R_alloc | apply Kd.R_drewN | apply Kd.R_drew)); exact HO_4.out, by repeat (first | (with_reducible first | exact HB.out | apply below_alloc | apply pw_below_drewN | apply below_drew1 | refine below_set ?_ (IsS52.ge HI169.out)) | exact HB.out), HRL⟩

/-! ### spec_DrawFloatCompare: function 28 -/
def spec_DrawFloatCompare.f (k : Nat) (l0 : List Int) : Option (Nat × Nat) := (spec_l1New.f k l0).bind fun bt204 => ((spec_l2float.f k bt204.1 bt204.2.1 bt204.2.2).bind fun bt208 => ((spec_l2float.f k bt204.1 bt208.2.1 bt208.2.2).bind fun bt211 => ((spec_l1Below.f bt204.1 bt211.2.1 bt211.2.2 4).bind fun bt214 => (if bt214.1 = 0 then (some (bt208.1, bt208.1)) else (if bt214.1 = 1 then ((spec_FloatBits.f k bt208.1).bind fun t217 => ((spec_FloatOf.c k (IntKind.u64.wrap (t217 + 1))).bind fun t218 => (some (bt208.1, t218)))) else (some (bt208.1, bt211.1)))))))
theorem spec_DrawFloatCompare.mono : ∀ a0 k, LeO (spec_DrawFloatCompare.f k a0) (spec_DrawFloatCompare.f (k + 1) a0) := by
  intro a0 k
  unfold spec_DrawFloatCompare.f
  repeat' first
      | (with_reducible exact spec_FloatBits.mono _ _)
      | (with_reducible exact spec_FloatOf.monoC _ _)
      | (with_reducible exact spec_l1New.mono _ _)
      | (with_reducible exact spec_l2float.mono _ _ _ _)
      | (with_reducible exact LeO.refl _)
      | (with_reducible exact LeO.none _)
      | (with_reducible refine LeO.ite ?_ ?_)
      | (with_reducible refine LeO.bind ?_ (fun _ => ?_))
      | exact spec_FloatBits.mono _ _
      | exact spec_FloatOf.monoC _ _
      | exact spec_l1New.mono _ _
      | exact spec_l2float.mono _ _ _ _
      | exact LeO.none _
      | refine LeO.ite ?_ ?_
      | refine LeO.bind ?_ (fun _ => ?_)
set_option maxHeartbeats 8000000 in
set_option maxRecDepth 100000 in
theorem spec_DrawFloatCompare.callsC (k : Nat) (A0 : Option Addr) (c0 : Nat) (l0 : List Int) (r1 : Nat) (r2 : Nat) (w : World) (hr0 : Kd.C (Kd.int .u8) w A0 l0.length l0) (hc0 : l0.length ≤ c0) (h : spec_DrawFloatCompare.f k l0 = some (r1, r2)) :
    Calls Try.prog 28 #[.slice A0 l0.length c0] w fun e w' => ∃ b1_ : Nat, ∃ b2_ : Nat, e = .returned (.tuple #[.float .f64 b1_, .float .f64 b2_]) ∧ Below w.heap.size w w' ∧ Aside0 (cn b1_ = r1 ∧ b1_ < 2 ^ 64) ∧ Aside0 (cn b2_ = r2 ∧ b2_ < 2 ^ 64) := by
  have HR0 := Aside0.mk hr0
  have HC0 := Aside0.mk hc0
  clear hr0 hc0
  have HB := Aside0.mk (Below.refl w.heap.size w)
  have H : ((spec_l1New.f k l0).bind fun bt204 => ((spec_l2float.f k bt204.1 bt204.2.1 bt204.2.2).bind fun bt208 => ((spec_l2float.f k bt204.1 bt208.2.1 bt208.2.2).bind fun bt211 => ((spec_l1Below.f bt204.1 bt211.2.1 bt211.2.2 4).bind fun bt214 => (if bt214.1 = 0 then (some (bt208.1, bt208.1)) else (if bt214.1 = 1 then ((spec_FloatBits.f k bt208.1).bind fun t217 => ((spec_FloatOf.c k (IntKind.u64.wrap (t217 + 1))).bind fun t218 => (some (bt208.1, t218)))) else (some (bt208.1, bt211.1)))))))) = some (r1, r2) := h
  clear h
  replace H := Option.bind_eq_some_iff.mp H
  obtain ⟨⟨t204, t205, t206⟩, A20, H⟩ := H
  replace H : ((spec_l2float.f k t204 t205 t206).bind fun bt208 => ((spec_l2float.f k t204 bt208.2.1 bt208.2.2).bind fun bt211 => ((spec_l1Below.f t204 bt211.2.1 bt211.2.2 4).bind fun bt214 => (if bt214.1 = 0 then (some (bt208.1, bt208.1)) else (if bt214.1 = 1 then ((spec_FloatBits.f k bt208.1).bind fun t217 => ((spec_FloatOf.c k (IntKind.u64.wrap (t217 + 1))).bind fun t218 => (some (bt208.1, t218)))) else (some (bt208.1, bt211.1))))))) = some (r1, r2) := H
  have A2 := Aside0.mk A20
  clear A20
  replace H := Option.bind_eq_some_iff.mp H
  obtain ⟨⟨t208, t209, t210⟩, A30, H⟩ := H
  replace H : ((spec_l2float.f k t204 t209 t210).bind fun bt211 => ((spec_l1Below.f t204 bt211.2.1 bt211.2.2 4).bind fun bt214 => (if bt214.1 = 0 then (some (t208, t208)) else (if bt214.1 = 1 then ((spec_FloatBits.f k t208).bind fun t217 => ((spec_FloatOf.c k (IntKind.u64.wrap (t217 + 1))).bind fun t218 => (some (t208, t218)))) else (some (t208, bt211.1)))))) = some (r1, r2) := H
  have A3 := Aside0.mk A30
  clear A30
  replace H := Option.bind_eq_some_iff.mp H
  obtain ⟨⟨t211, t212, t213⟩, A40, H⟩ := H
  replace H : ((spec_l1Below.f t204 t212 t213 4).bind fun bt214 => (if bt214.1 = 0 then (some (t208, t208)) else (if bt214.1 = 1 then ((spec_FloatBits.f k t208).bind fun t217 => ((spec_FloatOf.c k (IntKind.u64.wrap (t217 + 1))).bind fun t218 => (some (t208, t218)))) else (some (t208, t211))))) = some (r1, r2) := H
  have A4 := Aside0.mk A40
  clear A40
  replace H := Option.bind_eq_some_iff.mp H
  obtain ⟨⟨t214, t215, t216⟩, A50, H⟩ := H
  replace H : (if t214 = 0 then (some (t208, t208)) else (if t214 = 1 then ((spec_FloatBits.f k t208).bind fun t217 => ((spec_FloatOf.c k (IntKind.u64.wrap (t217 + 1))).bind fun t218 => (some (t208, t218)))) else (some (t208, t211)))) = some (r1, r2) := H
  have A5 := Aside0.mk A50
  clear A50
  by_cases c6 : t214 = 0
  · rw [if_pos c6] at H
    have c6b0 : (t214 == 0) = true := beq_iff_eq.mpr c6
    have c6b1 : (t214 != 0) = false := bne_eq_false_iff_eq.mpr c6
    clear c6
    simp only [Option.some.injEq, Prod.mk.injEq] at H
    obtain ⟨rfl, rfl⟩ := H
    go_enter Try.func28, Try.ntmps28
    go_wp2_with (first | ((with_reducible refine gate_callee (f := 33) rfl ?_); refine goesL_ (some 8) rfl rfl Try.func33 (by kernel_rfl) rfl #[.slice A0 l0.length c0] rfl (by (try simp only [List.map_toArray, List.map_cons, List.map_nil]); first | done | rfl | (simp only [List.length_drop, List.length_take]; rfl)) ?_; (with_reducible refine (spec_l1New.calls k _ _ l0 t204 t205 t206 w _ ?side1 ?side2 ?side3 A2.out).mono ?_); (case side1 => repeat (first | (with_reducible first | exact HB.out | apply below_alloc | apply pw_below_drewN | apply below_drew1) | exact HB.out)); (case side2 => exact HR0.out); (case side3 => exact HC0.out); rintro e w7 ⟨g207, rfl, hi, hb, hb2⟩; refine ⟨_, rfl, ?_⟩; have n0_ := Aside0.mk (hb); have n1_ := Aside0.mk (hi); clear HB; have HB := n0_; have HI207 := n1_; clear n0_ n1_; (try clear hb); (try clear hb2); (try clear hk); (try clear hi)) | ((with_reducible refine gate_callee (f := 37) rfl ?_); refine goesL_ (some 10) rfl rfl Try.func37 (by kernel_rfl) rfl #[.pointer (some ⟨g207, 0, none⟩)] rfl (by (try simp only [List.map_toArray, List.map_cons, List.map_nil]); first | done | rfl | (simp only [List.length_drop, List.length_take]; rfl)) ?_; (with_reducible refine (spec_l2float.callsC k g207 t204 t205 t206 t208 t209 t210 w _ ?side1 ?side2 A3.out).mono ?_); (case side1 => repeat (first | (with_reducible first | exact HI207.out | apply IsS52.alloc | apply IsS52.drewN | apply IsS52.drew | apply IsS52.set_1 | apply IsS52.set_2) | exact HI207.out)); (case side2 => repeat (first | (with_reducible first | exact HB.out | apply below_alloc | apply pw_below_drewN | apply below_drew1 | refine below_set ?_ (IsS52.ge HI207.out)) | exact HB.out)); rintro e w8 ⟨b208, rfl, hi, hb, hk, ⟨⟨hcnb208, hltb208⟩⟩⟩; refine ⟨_, rfl, ?_⟩; have LTb208 := Aside0.mk hltb208; clear hltb208; subst hcnb208; have n0_ := Aside0.mk (hb); have n1_ := Aside0.mk (hi); clear HB; clear HI207; have HB := n0_; have HI207 := n1_; clear n0_ n1_; (try clear hb); (try clear hb2); (try clear hk); (try clear hi)) | ((with_reducible refine gate_callee (f := 37) rfl ?_); refine goesL_ (some 12) rfl rfl Try.func37 (by kernel_rfl) rfl #[.pointer (some ⟨g207, 0, none⟩)] rfl (by (try simp only [List.map_toArray, List.map_cons, List.map_nil]); first | done | rfl | (simp only [List.length_drop, List.length_take]; rfl)) ?_; (with_reducible refine (spec_l2float.callsC k g207 t204 t209 t210 t211 t212 t213 w _ ?side1 ?side2 A4.out).mono ?_); (case side1 => repeat (first | (with_reducible first | exact HI207.out | apply IsS52.alloc | apply IsS52.drewN | apply IsS52.drew | apply IsS52.set_1 | apply IsS52.set_2) | exact HI207.out)); (case side2 => repeat (first | (with_reducible first | exact HB.out | apply below_alloc | apply pw_below_drewN | apply below_drew1 | refine below_set ?_ (IsS52.ge HI207.out)) | exact HB.out)); rintro e w9 ⟨b211, rfl, hi, hb, hk, ⟨⟨hcnb211, hltb211⟩⟩⟩; refine ⟨_, rfl, ?_⟩; have LTb211 := Aside0.mk hltb211; clear hltb211; subst hcnb211; have n0_ := Aside0.mk (hb); have n1_ := Aside0.mk (hi); clear HB; clear HI207; have HB := n0_; have HI207 := n1_; clear n0_ n1_; (try clear hb); (try clear hb2); (try clear hk); (try clear hi)) | ((with_reducible refine gate_callee (f := 34) rfl ?_); refine goesL_ (some 14) rfl rfl Try.func34 (by kernel_rfl) rfl #[.pointer (some ⟨g207, 0, none⟩), .int .i64 4] rfl (by (try simp only [List.map_toArray, List.map_cons, List.map_nil]); first | done | rfl | (simp only [List.length_drop, List.length_take]; rfl)) ?_; (with_reducible refine (spec_l1Below.calls g207 t204 t212 t213 4 t214 t215 t216 w _ ?side1 ?side2 A5.out).mono ?_); (case side1 => repeat (first | (with_reducible first | exact HI207.out | apply IsS52.alloc | apply IsS52.drewN | apply IsS52.drew | apply IsS52.set_1 | apply IsS52.set_2) | exact HI207.out)); (case side2 => repeat (first | (with_reducible first | exact HB.out | apply below_alloc | apply pw_below_drewN | apply below_drew1 | refine below_set ?_ (IsS52.ge HI207.out)) | exact HB.out)); rintro e w10 ⟨rfl, hi, hb, hk⟩; refine ⟨_, rfl, ?_⟩; have n0_ := Aside0.mk (hb); have n1_ := Aside0.mk (hi); clear HB; clear HI207; have HB := n0_; have HI207 := n1_; clear n0_ n1_; (try clear hb); (try clear hb2); (try clear hk); (try clear hi)))
    go_ret2
    exact ⟨_, _, by first | rfl | (simp [errW_none, errW_some] <;> rfl) | (simp [*, errW_none, errW_some] <;> rfl), by repeat (first | (with_reducible first | exact HB.out | apply below_alloc | apply pw_below_drewN | apply below_drew1 | refine below_set ?_ (IsS52.ge HI207.out)) | exact HB.out), (by first | exact ⟨⟨rfl, LTb208.out⟩⟩ | exact ⟨⟨rfl, LTb211.out⟩⟩ | exact ⟨⟨by first | rfl | decide, by decide⟩⟩), (by first | exact ⟨⟨rfl, LTb208.out⟩⟩ | exact ⟨⟨rfl, LTb211.out⟩⟩ | exact ⟨⟨by first | rfl | decide, by decide⟩⟩)⟩
  · rw [if_neg c6] at H
    have c6b0 : (t214 == 0) = false := beq_eq_false_iff_ne.mpr c6
    have c6b1 : (t214 != 0) = true := bne_iff_ne.mpr c6
    by_cases c11 : t214 = 1
    · rw [if_pos c11] at H
      have c11b0 : (t214 == 1) = true := beq_iff_eq.mpr c11
      have c11b1 : (t214 != 1) = false := bne_eq_false_iff_eq.mpr c11
      clear c11
      replace H := Option.bind_eq_some_iff.mp H
      obtain ⟨t217, A120, H⟩ := H
      replace H : ((spec_FloatOf.c k (IntKind.u64.wrap (t217 + 1))).bind fun t218 => (some (t208, t218))) = some (r1, r2) := H
      have A12 := Aside0.mk A120
      clear A120
      replace H := Option.bind_eq_some_iff.mp H
      obtain ⟨t218, A130, H⟩ := H
      replace H : (some (t208, t218)) = some (r1, r2) := H
      have A13 := Aside0.mk A130
      clear A130
      simp only [Option.some.injEq, Prod.mk.injEq] at H
      obtain ⟨rfl, rfl⟩ := H
      go_enter Try.func28, Try.ntmps28
      go_wp2_with (first | ((with_reducible refine gate_callee (f := 33) rfl ?_); refine goesL_ (some 8) rfl rfl Try.func33 (by kernel_rfl) rfl #[.slice A0 l0.length c0] rfl (by (try simp only [List.map_toArray, List.map_cons, List.map_nil]); first | done | rfl | (simp only [List.length_drop, List.length_take]; rfl)) ?_; (with_reducible refine (spec_l1New.calls k _ _ l0 t204 t205 t206 w _ ?side1 ?side2 ?side3 A2.out).mono ?_); (case side1 => repeat (first | (with_reducible first | exact HB.out | apply below_alloc | apply pw_below_drewN | apply below_drew1) | exact HB.out)); (case side2 => exact HR0.out); (case side3 => exact HC0.out); rintro e w14 ⟨g207, rfl, hi, hb, hb2⟩; refine ⟨_, rfl, ?_⟩; have n0_ := Aside0.mk (hb); have n1_ := Aside0.mk (hi); clear HB; have HB := n0_; have HI207 := n1_; clear n0_ n1_; (try clear hb); (try clear hb2); (try clear hk); (try clear hi)) | ((with_reducible refine gate_callee (f := 37) rfl ?_); refine goesL_ (some 10) rfl rfl Try.func37 (by kernel_rfl) rfl #[.pointer (some ⟨g207, 0, none⟩)] rfl (by (try simp only [List.map_toArray, List.map_cons, List.map_nil]); first | done | rfl | (simp only [List.length_drop, List.length_take]; rfl)) ?_; (with_reducible refine (spec_l2float.callsC k g207 t204 t205 t206 t208 t209 t210 w _ ?side1 ?side2 A3.out).mono ?_); (case side1 => repeat (first | (with_reducible first | exact HI207.out | apply IsS52.alloc | apply IsS52.drewN | apply IsS52.drew | apply IsS52.set_1 | apply IsS52.set_2) | exact HI207.out)); (case side2 => repeat (first | (with_reducible first | exact HB.out | apply below_alloc | apply pw_below_drewN | apply below_drew1 | refine below_set ?_ (IsS52.ge HI207.out)) | exact HB.out)); rintro e w15 ⟨b208, rfl, hi, hb, hk, ⟨⟨hcnb208, hltb208⟩⟩⟩; refine ⟨_, rfl, ?_⟩; have LTb208 := Aside0.mk hltb208; clear hltb208; subst hcnb208; have n0_ := Aside0.mk (hb); have n1_ := Aside0.mk (hi); clear HB; clear HI207; have HB := n0_; have HI207 := n1_; clear n0_ n1_; (try clear hb); (try clear hb2); (try clear hk); (try clear hi)) | ((with_reducible refine gate_callee (f := 37) rfl ?_); refine goesL_ (some 12) rfl rfl Try.func37 (by kernel_rfl) rfl #[.pointer (some ⟨g207, 0, none⟩)] rfl (by (try simp only [List.map_toArray, List.map_cons, List.map_nil]); first | done | rfl | (simp only [List.length_drop, List.length_take]; rfl)) ?_; (with_reducible refine (spec_l2float.callsC k g207 t204 t209 t210 t211 t212 t213 w _ ?side1 ?side2 A4.out).mono ?_); (case side1 => repeat (first | (with_reducible first | exact HI207.out | apply IsS52.alloc | apply IsS52.drewN | apply IsS52.drew | apply IsS52.set_1 | apply IsS52.set_2) | exact HI207.out)); (case side2 => repeat (first | (with_reducible first | exact HB.out | apply below_alloc | apply pw_below_drewN | apply below_drew1 | refine below_set ?_ (IsS52.ge HI207.out)) | exact HB.out)); rintro e w16 ⟨b211, rfl, hi, hb, hk, ⟨⟨hcnb211, hltb211⟩⟩⟩; refine ⟨_, rfl, ?_⟩; have LTb211 := Aside0.mk hltb211; clear hltb211; subst hcnb211; have n0_ := Aside0.mk (hb); have n1_ := Aside0.mk (hi); clear HB; clear HI207; have HB := n0_; have HI207 := n1_; clear n0_ n1_; (try clear hb); (try clear hb2); (try clear hk); (try clear hi)) | ((with_reducible refine gate_callee (f := 34) rfl ?_); refine goesL_ (some 14) rfl rfl Try.func34 (by kernel_rfl) rfl #[.pointer (some ⟨g207, 0, none⟩), .int .i64 4] rfl (by (try simp only [List.map_toArray, List.map_cons, List.map_nil]); first | done | rfl | (simp only [List.length_drop, List.length_take]; rfl)) ?_; (with_reducible refine (spec_l1Below.calls g207 t204 t212 t213 4 t214 t215 t216 w _ ?side1 ?side2 A5.out).mono ?_); (case side1 => repeat (first | (with_reducible first | exact HI207.out | apply IsS52.alloc | apply IsS52.drewN | apply IsS52.drew | apply IsS52.set_1 | apply IsS52.set_2) | exact HI207.out)); (case side2 => repeat (first | (with_reducible first | exact HB.out | apply below_alloc | apply pw_below_drewN | apply below_drew1 | refine below_set ?_ (IsS52.ge HI207.out)) | exact HB.out)); rintro e w17 ⟨rfl, hi, hb, hk⟩; refine ⟨_, rfl, ?_⟩; have n0_ := Aside0.mk (hb); have n1_ := Aside0.mk (hi); clear HB; clear HI207; have HB := n0_; have HI207 := n1_; clear n0_ n1_; (try clear hb); (try clear hb2); (try clear hk); (try clear hi)) | ((with_reducible refine gate_callee (f := 11) rfl ?_); refine goesL_ (some 21) rfl rfl Try.func11 (by kernel_rfl) rfl #[.float .f64 b208] rfl (by (try simp only [List.map_toArray, List.map_cons, List.map_nil]); first | done | rfl | (simp only [List.length_drop, List.length_take]; rfl)) ?_; (with_reducible refine (spec_FloatBits.calls k b208 t217 _ ((spec_FloatBits.inv0 _ _).symm.trans A12.out)).mono ?_); rintro e w' ⟨rfl, ⟨nd, rfl⟩⟩; refine ⟨_, rfl, ?_⟩) | ((with_reducible refine gate_callee (f := 13) rfl ?_); refine goesL_ (some 23) rfl rfl Try.func13 (by kernel_rfl) rfl #[.int .u64 (IntKind.u64.wrap (t217 + 1))] rfl (by (try simp only [List.map_toArray, List.map_cons, List.map_nil]); first | done | rfl | (simp only [List.length_drop, List.length_take]; rfl)) ?_; (with_reducible refine (spec_FloatOf.callsC k (IntKind.u64.wrap (t217 + 1)) t218 _ A13.out).mono ?_); rintro e w' ⟨b218, rfl, ⟨nd, rfl⟩, ⟨⟨hcnb218, hltb218⟩⟩⟩; refine ⟨_, rfl, ?_⟩; have LTb218 := Aside0.mk hltb218; clear hltb218; subst hcnb218))
      go_ret2
      exact ⟨_, _, by first | rfl | (simp [errW_none, errW_some] <;> rfl) | (simp [*, errW_none, errW_some] <;> rfl), by repeat (first | (with_reducible first | exact HB.out | apply below_alloc | apply pw_below_drewN | apply below_drew1 | refine below_set ?_ (IsS52.ge HI207.out)) | exact HB.out), (by first | exact ⟨⟨rfl, LTb208.out⟩⟩ | exact ⟨⟨rfl, LTb211.out⟩⟩ | exact ⟨⟨rfl, LTb218.out⟩⟩ | exact ⟨⟨by first | rfl | decide, by decide⟩⟩), (by first | exact ⟨⟨rfl, LTb208.out⟩⟩ | exact ⟨⟨rfl, LTb211.out⟩⟩ | exact ⟨⟨rfl, LTb218.out⟩⟩ | exact ⟨⟨by first | rfl | decide, by decide⟩⟩)⟩
    · rw [if_neg c11] at H
      have c11b0 : (t214 == 1) = false := beq_eq_false_iff_ne.mpr c11
      have c11b1 : (t214 != 1) = true := bne_iff_ne.mpr c11
      simp only [Option.some.injEq, Prod.mk.injEq] at H
      obtain ⟨rfl, rfl⟩ := H
      go_enter Try.func28, Try.ntmps28
      go_wp2_with (first | ((with_reducible refine gate_callee (f := 33) rfl ?_); refine goesL_ (some 8) rfl rfl Try.func33 (by kernel_rfl) rfl #[.slice A0 l0.length c0] rfl (by (try simp only [List.map_toArray, List.map_cons, List.map_nil]); first | done | rfl | (simp only [List.length_drop, List.length_take]; rfl)) ?_; (with_reducible refine (spec_l1New.calls k _ _ l0 t204 t205 t206 w _ ?side1 ?side2 ?side3 A2.out).mono ?_); (case side1 => repeat (first | (with_reducible first | exact HB.out | apply below_alloc | apply pw_below_drewN | apply below_drew1) | exact HB.out)); (case side2 => exact HR0.out); (case side3 => exact HC0.out); rintro e w18 ⟨g207, rfl, hi, hb, hb2⟩; refine ⟨_, rfl, ?_⟩; have n0_ := Aside0.mk (hb); have n1_ := Aside0.mk (hi); clear HB; have HB := n0_; have HI207 := n1_; clear n0_ n1_; (try clear hb); (try clear hb2); (try clear hk); (try clear hi)) | ((with_reducible refine gate_callee (f := 37) rfl ?_); refine goesL_ (some 10) rfl rfl Try.func37 (by kernel_rfl) rfl #[.pointer (some ⟨g207, 0, none⟩)] rfl (by (try simp only [List.map_toArray, List.map_cons, List.map_nil]); first | done | rfl | (simp only [List.length_drop, List.length_take]; rfl)) ?_; (with_reducible refine (spec_l2float.callsC k g207 t204 t205 t206 t208 t209 t210 w _ ?side1 ?side2 A3.out).mono ?_); (case side1 => repeat (first | (with_reducible first | exact HI207.out | apply IsS52.alloc | apply IsS52.drewN | apply IsS52.drew | apply IsS52.set_1 | apply IsS52.set_2) | exact HI207.out)); (case side2 => repeat (first | (with_reducible first | exact HB.out | apply below_alloc | apply pw_below_drewN | apply below_drew1 | refine below_set ?_ (IsS52.ge HI207.out)) | exact HB.out)); rintro e w19 ⟨b208, rfl, hi, hb, hk, ⟨⟨hcnb208, hltb208⟩⟩⟩; refine ⟨_, rfl, ?_⟩; have LTb208 := Aside0.mk hltb208; clear hltb208; subst hcnb208; have n0_ := Aside0.mk (hb); have n1_ := Aside0.mk (hi); clear HB; clear HI207; have HB := n0_; have HI207 := n1_; clear n0_ n1_; (try clear hb); (try clear hb2); (try clear hk); (try clear hi)) | ((with_reducible refine gate_callee (f := 37) rfl ?_); refine goesL_ (some 12) rfl rfl Try.func37 (by kernel_rfl) rfl #[.pointer (some ⟨g207, 0, none⟩)] rfl (by (try simp only [List.map_toArray, List.map_cons, List.map_nil]); first | done | rfl | (simp only [List.length_drop, List.length_take]; rfl)) ?_; (with_reducible refine (spec_l2float.callsC k g207 t204 t209 t210 t211 t212 t213 w _ ?side1 ?side2 A4.out).mono ?_); (case side1 => repeat (first | (with_reducible first | exact HI207.out | apply IsS52.alloc | apply IsS52.drewN | apply IsS52.drew | apply IsS52.set_1 | apply IsS52.set_2) | exact HI207.out)); (case side2 => repeat (first | (with_reducible first | exact HB.out | apply below_alloc | apply pw_below_drewN | apply below_drew1 | refine below_set ?_ (IsS52.ge HI207.out)) | exact HB.out)); rintro e w20 ⟨b211, rfl, hi, hb, hk, ⟨⟨hcnb211, hltb211⟩⟩⟩; refine ⟨_, rfl, ?_⟩; have LTb211 := Aside0.mk hltb211; clear hltb211; subst hcnb211; have n0_ := Aside0.mk (hb); have n1_ := Aside0.mk (hi); clear HB; clear HI207; have HB := n0_; have HI207 := n1_; clear n0_ n1_; (try clear hb); (try clear hb2); (try clear hk); (try clear hi)) | ((with_reducible refine gate_callee (f := 34) rfl ?_); refine goesL_ (some 14) rfl rfl Try.func34 (by kernel_rfl) rfl #[.pointer (some ⟨g207, 0, none⟩), .int .i64 4] rfl (by (try simp only [List.map_toArray, List.map_cons, List.map_nil]); first | done | rfl | (simp only [List.length_drop, List.length_take]; rfl)) ?_; (with_reducible refine (spec_l1Below.calls g207 t204 t212 t213 4 t214 t215 t216 w _ ?side1 ?side2 A5.out).mono ?_); (case side1 => repeat (first | (with_reducible first | exact HI207.out | apply IsS52.alloc | apply IsS52.drewN | apply IsS52.drew | apply IsS52.set_1 | apply IsS52.set_2) | exact HI207.out)); (case side2 => repeat (first | (with_reducible first | exact HB.out | apply below_alloc | apply pw_below_drewN | apply below_drew1 | refine below_set ?_ (IsS52.ge HI207.out)) | exact HB.out)); rintro e w21 ⟨rfl, hi, hb, hk⟩; refine ⟨_, rfl, ?_⟩; have n0_ := Aside0.mk (hb); have n1_ := Aside0.mk (hi); clear HB; clear HI207; have HB := n0_; have HI207 := n1_; clear n0_ n1_; (try clear hb); (try clear hb2); (try clear hk); (try clear hi)))
      go_ret2
      exact ⟨_, _, by first | rfl | (simp [errW_none, errW_some] <;> rfl) | (simp [*, errW_none, errW_some] <;> rfl), by repeat (first | (with_reducible first | exact HB.out | apply below_alloc | apply pw_below_drewN | apply below_drew1 | refine below_set ?_ (IsS52.ge HI207.out)) | exact HB.out), (by first | exact ⟨⟨rfl, LTb208.out⟩⟩ | exact ⟨⟨rfl, LTb211.out⟩⟩ | exact ⟨⟨by first | rfl | decide, by decide⟩⟩), (by first | exact ⟨⟨rfl, LTb208.out⟩⟩ | exact ⟨⟨rfl, LTb211.out⟩⟩ | exact ⟨⟨by first | rfl | decide, by decide⟩⟩)⟩

/-! ### laws_FnSums: function 9 -/
def laws_FnSums.f (k : Nat) (l0 : List Int) : Option (Bool) := (laws_big.f l0).bind fun t219 => (if t219 = true then (some true) else ((spec_DrawFloatSum.f k l0).bind fun t220 => ((spec_DrawFloatCompare.f k l0).bind fun bt223 => (some true))))
set_option maxHeartbeats 8000000 in
set_option maxRecDepth 100000 in
theorem laws_FnSums.add1 {s b : Nat} (h : fok .add s b = true) : addR s b (fval .add s b) := Or.inl ⟨h, rfl⟩
theorem laws_FnSums.add2 {s b r : Nat} (h : fok .add s b = false) (n : nanR r) : addR s b r := Or.inr ⟨h, n⟩
theorem laws_FnSums.q (l : List Nat) : impl_FloatSum.Q l := ⟨_, rfl⟩
theorem laws_FnSums.add_nan (s y : Nat) (h : s < 2 ^ 64) (hn : Go.Proofs.YtjbocmkphnmfgaaX.isn s = true) : fok .add s y = false := by
  obtain ⟨b, t, e⟩ := Go.Proofs.YtjbocmkphnmfgaaX.isn_read s h hn
  show (Ieee.double.add s y).isSome = false
  unfold Ieee.Format.add
  rw [e]
  rfl
/-- the same float, or no number both -/
def laws_FnSums.sameV (a b : Nat) : Prop := a < 2 ^ 64 ∧ b < 2 ^ 64 ∧ (a = b ∨ (Go.Proofs.YtjbocmkphnmfgaaX.isn a = true ∧ Go.Proofs.YtjbocmkphnmfgaaX.isn b = true))
theorem laws_FnSums.fval_lt (s y : Nat) (h : fok .add s y = true) : fval .add s y < 2 ^ 64 := by
  obtain ⟨r, hr⟩ := Option.isSome_iff_exists.1 h
  have : fval .add s y = r := by
    unfold fval
    rw [hr]
    rfl
  rw [this]
  exact Ieee.double.add_lt hr
theorem laws_FnSums.addR_same (s s' y t t' : Nat) (hs : laws_FnSums.sameV s s') (h : addR s y t) (h' : addR s' y t') : laws_FnSums.sameV t t' := by
  obtain ⟨ls, ls', rfl | ⟨na, nb⟩⟩ := hs
  · rcases h with ⟨c, rfl⟩ | ⟨c, n⟩ <;> rcases h' with ⟨c', rfl⟩ | ⟨c', n'⟩
    · exact ⟨laws_FnSums.fval_lt _ _ c, laws_FnSums.fval_lt _ _ c, Or.inl rfl⟩
    · rw [c] at c'; cases c'
    · rw [c] at c'; cases c'
    · obtain ⟨q1, q2⟩ := nanR_is _ n
      obtain ⟨q3, q4⟩ := nanR_is _ n'
      exact ⟨q2, q4, Or.inr ⟨q1, q3⟩⟩
  · have c1 := laws_FnSums.add_nan s y ls na
    have c2 := laws_FnSums.add_nan s' y ls' nb
    rcases h with ⟨c, rfl⟩ | ⟨c, n⟩
    · rw [c] at c1; cases c1
    · rcases h' with ⟨c', rfl⟩ | ⟨c', n'⟩
      · rw [c'] at c2; cases c2
      · obtain ⟨q1, q2⟩ := nanR_is _ n
        obtain ⟨q3, q4⟩ := nanR_is _ n'
        exact ⟨q2, q4, Or.inr ⟨q1, q3⟩⟩
theorem laws_FnSums.sum_same (l l' : List Nat) : ∀ (n s s' : Nat), (∀ i : Nat, i < n → rdOf (0 : Nat) l (i : Int) = rdOf (0 : Nat) l' (i : Int)) → sumTo l n s → sumTo l' n s' → laws_FnSums.sameV s s'
  | 0, s, s', _, h, h' => by
    have e : s = 0 := h
    have e' : s' = 0 := h'
    subst e e'
    exact ⟨by decide, by decide, Or.inl rfl⟩
  | n + 1, s, s', hr, h, h' => by
    obtain ⟨t, h1, h2⟩ := h
    obtain ⟨t', h1', h2'⟩ := h'
    rw [← hr n (Nat.lt_succ_self n)] at h2'
    exact laws_FnSums.addR_same _ _ _ _ _ (laws_FnSums.sum_same l l' n t t' (fun i hi => hr i (Nat.lt_succ_of_lt hi)) h1 h1') h2 h2'
theorem laws_FnSums.zero {r : Nat} (h : impl_FloatSum.R [] r) : r = 0 := by
  rcases h with ⟨c, _⟩ | ⟨_, h⟩
  · exact absurd c (by decide)
  · exact h
theorem laws_FnSums.bits0 : impl_FloatBits.f 0 = some 0 := by
  unfold impl_FloatBits.f
  rw [if_pos ((Go.Proofs.YtjbocmkphnmfgaaX.feq_self 0 (by decide)).trans (by decide))]
  rfl
theorem laws_FnSums.lt {l : List Nat} {r : Nat} (h : impl_FloatSum.R l r) : r < 2 ^ 64 := by
  rcases h with ⟨_, t, h1, rfl⟩ | ⟨_, h⟩
  · have e : 9221120237041090561 = r := Option.some.inj h1
    rw [← e]; decide
  · exact (laws_FnSums.sum_same l l _ r r (fun _ _ => rfl) h h).1
theorem laws_FnSums.bits_same {k a b : Nat} {v : Int} (h : laws_FnSums.sameV a b) (ha : spec_FloatBits.f k a = some v) : spec_FloatBits.f k b = some v := by
  obtain ⟨la, lb, rfl | ⟨na, nb⟩⟩ := h
  · exact ha
  · unfold spec_FloatBits.f at ha ⊢
    rw [feq_nan_l ⟨la, na⟩] at ha
    rw [feq_nan_l ⟨lb, nb⟩]
    exact ha
theorem laws_FnSums.same {k b s t u : Nat} {l y3 : List Nat} {v : Int} (hs : impl_FloatSum.R l s) (ht : impl_FloatSum.R y3 t) (e3 : y3 = l ++ [b]) (hu : addR s b u) (hv : spec_FloatBits.f k t = some v) (hl : l.length < 1000) : spec_FloatBits.f k u = some v := by
  subst e3
  rcases hs with ⟨c, _⟩ | ⟨_, hs⟩
  · omega
  rcases ht with ⟨c, _⟩ | ⟨_, ht⟩
  · simp only [List.length_append, List.length_cons, List.length_nil] at c; omega
  simp only [List.length_append, List.length_cons, List.length_nil, Nat.zero_add] at ht
  obtain ⟨s', h1, h2⟩ := ht
  have g : ∀ i : Nat, i < l.length → rdOf (0 : Nat) l (i : Int) = rdOf (0 : Nat) (l ++ [b]) (i : Int) := fun i hi => by
    unfold rdOf
    simp [List.getElem?_append_left hi, hi]
  have g2 : rdOf (0 : Nat) (l ++ [b]) (l.length : Int) = b := by
    unfold rdOf
    simp
  rw [g2] at h2
  exact laws_FnSums.bits_same (laws_FnSums.addR_same _ _ _ _ _ (laws_FnSums.sum_same _ _ _ _ _ (fun i hi => (g i hi).symm) h1 hs) h2 hu) hv
set_option maxHeartbeats 8000000 in
set_option maxRecDepth 100000 in
theorem laws_FnSums.calls (k : Nat) (A0 : Option Addr) (c0 : Nat) (l0 : List Int) (r : Bool) (w : World) (hr0 : Kd.C (Kd.int .u8) w A0 l0.length l0) (hc0 : l0.length ≤ c0) (hF0 : ∀ b, b < 2 ^ 64 → ∃ v, spec_FloatBits.f k b = some v) (h : laws_FnSums.f k l0 = some r) (hT : r = true := by rfl) :
    Calls Try.prog 9 #[.slice A0 l0.length c0] w fun e w' => e = .returned (.bool r) ∧ Below w.heap.size w w' := by
  subst hT
  have hF := Aside0.mk hF0
  have HR0 := Aside0.mk hr0
  have HC0 := Aside0.mk hc0
  clear hr0 hc0 hF0
  have HB := Aside0.mk (Below.refl w.heap.size w)
  have H : ((laws_big.f l0).bind fun t219 => (if t219 = true then (some true) else ((spec_DrawFloatSum.f k l0).bind fun t220 => ((spec_DrawFloatCompare.f k l0).bind fun bt223 => (some true))))) = some true := h
  clear h
  replace H := Option.bind_eq_some_iff.mp H
  obtain ⟨t219, A20, H⟩ := H
  have A2 := Aside0.mk A20
  clear A20
  by_cases c3 : t219 = true
  · subst c3
    clear H
    go_enter Try.func9, Try.ntmps9
    go_wp2_with (first | ((with_reducible refine gate_callee (f := 26) rfl ?_); refine goesL_ (some 9) rfl rfl Try.func26 (by kernel_rfl) rfl #[.slice A0 l0.length c0] rfl (by (try simp only [List.map_toArray, List.map_cons, List.map_nil]); first | done | rfl | (simp only [List.length_drop, List.length_take]; rfl)) ?_; (with_reducible refine (laws_big.calls _ _ l0 true _ ?side1 ?side2 A2.out).mono ?_); (case side1 => repeat (first | exact HR0.out | (with_reducible refine Kd.C_alloc ?_ _) | (with_reducible refine Kd.C_drewN ?_ _) | (with_reducible refine Kd.C_drew ?_))); (case side2 => exact HC0.out); rintro e w' ⟨rfl, ⟨nd, rfl⟩⟩; refine ⟨_, rfl, ?_⟩))
    go_ret
    exact ⟨by first | rfl | (simp [errW_none, errW_some] <;> rfl) | (simp [*, errW_none, errW_some] <;> rfl), by repeat (first | (with_reducible first | exact HB.out | apply below_alloc | apply pw_below_drewN | apply below_drew1) | exact HB.out)⟩
  · replace c3 := Bool.eq_false_iff.mpr c3
    subst c3
    rw [if_neg (show ¬ (false = true) by decide)] at H
    replace H := Option.bind_eq_some_iff.mp H
    obtain ⟨t220, A40, H⟩ := H
    have A4 := Aside0.mk A40
    clear A40
    replace H := Option.bind_eq_some_iff.mp H
    obtain ⟨⟨t223, t224⟩, A50, H⟩ := H
    have A5 := Aside0.mk A50
    clear A50 H
    by_cases c6 : (t220.length : Int) ≥ 1000
    · have c6b0 : decide (1000 ≤ (t220.length : Int)) = true := decide_eq_true c6
      clear c6
      go_enter Try.func9, Try.ntmps9
      go_wp2_with (first | ((with_reducible refine gate_callee (f := 26) rfl ?_); refine goesL_ (some 9) rfl rfl Try.func26 (by kernel_rfl) rfl #[.slice A0 l0.length c0] rfl (by (try simp only [List.map_toArray, List.map_cons, List.map_nil]); first | done | rfl | (simp only [List.length_drop, List.length_take]; rfl)) ?_; (with_reducible refine (laws_big.calls _ _ l0 false _ ?side1 ?side2 A2.out).mono ?_); (case side1 => repeat (first | exact HR0.out | (with_reducible refine Kd.C_alloc ?_ _) | (with_reducible refine Kd.C_drewN ?_ _) | (with_reducible refine Kd.C_drew ?_))); (case side2 => exact HC0.out); rintro e w' ⟨rfl, ⟨nd, rfl⟩⟩; refine ⟨_, rfl, ?_⟩) | ((with_reducible refine gate_callee (f := 27) rfl ?_); refine goesL_ (some 11) rfl rfl Try.func27 (by kernel_rfl) rfl #[.slice A0 l0.length c0] rfl (by (try simp only [List.map_toArray, List.map_cons, List.map_nil]); first | done | rfl | (simp only [List.length_drop, List.length_take]; rfl)) ?_; (with_reducible refine (spec_DrawFloatSum.callsC k _ _ l0 t220 _ ?side1 ?side2 A4.out).mono ?_); (case side1 => repeat (first | exact HR0.out | (with_reducible refine Kd.C_alloc ?_ _) | (with_reducible refine Kd.C_drewN ?_ _) | (with_reducible refine Kd.C_drew ?_))); (case side2 => exact HC0.out); rintro e w7 ⟨v221, l_, rfl, ho0, hb, ⟨hl_⟩⟩; refine ⟨_, rfl, ?_⟩; have n0_ := Aside0.mk (Kd.R_lower ho0 (below_size (by repeat (first | (with_reducible first | exact HB.out | apply below_alloc | apply pw_below_drewN | apply below_drew1) | exact HB.out)))); have n1_ := Aside0.mk (below_step (by repeat (first | (with_reducible first | exact HB.out | apply below_alloc | apply pw_below_drewN | apply below_drew1) | exact HB.out)) hb); clear HB; have HO222 := n0_; have HB := n1_; clear n0_ n1_; (try clear hb); (try clear hb2); (try clear hk); (try clear hi); (try clear ho0); have HL := Aside0.mk hl_; have c6b2 : decide (1000 ≤ (l_.length : Int)) = true := (by rw [hl_]; exact c6b0); clear hl_) | ((with_reducible refine gate_callee (f := 28) rfl ?_); refine goesL_ (some 14) rfl rfl Try.func28 (by kernel_rfl) rfl #[.slice A0 l0.length c0] rfl (by (try simp only [List.map_toArray, List.map_cons, List.map_nil]); first | done | rfl | (simp only [List.length_drop, List.length_take]; rfl)) ?_; (with_reducible refine (spec_DrawFloatCompare.callsC k _ _ l0 t223 t224 _ ?side1 ?side2 A5.out).mono ?_); (case side1 => repeat (first | exact (Kd.C_below HR0.out HB.out) | (with_reducible refine Kd.C_alloc ?_ _) | (with_reducible refine Kd.C_drewN ?_ _) | (with_reducible refine Kd.C_drew ?_))); (case side2 => exact HC0.out); rintro e w8 ⟨b223, b224, rfl, hb, ⟨⟨hcnb223, hltb223⟩⟩, ⟨⟨hcnb224, hltb224⟩⟩⟩; refine ⟨_, rfl, ?_⟩; have LTb223 := Aside0.mk hltb223; clear hltb223; subst hcnb223; have LTb224 := Aside0.mk hltb224; clear hltb224; subst hcnb224; have n0_ := Aside0.mk (Kd.R_below (by (with_reducible repeat (first | apply Kd.R_alloc | apply Kd.R_drewN | apply Kd.R_drew)); exact HO222.out) hb); have n1_ := Aside0.mk (below_step (by repeat (first | (with_reducible first | exact HB.out | apply below_alloc | apply pw_below_drewN | apply below_drew1) | exact HB.out)) hb); clear HO222; clear HB; have HO222 := n0_; have HB := n1_; clear n0_ n1_; (try clear hb); (try clear hb2); (try clear hk); (try clear hi); obtain ⟨Ao9, co9, eo9⟩ := Kd.R_slice HO222.out; subst eo9))
      go_ret
      exact ⟨by first | rfl | (simp [errW_none, errW_some] <;> rfl) | (simp [*, errW_none, errW_some] <;> rfl), by repeat (first | (with_reducible first | exact HB.out | apply below_alloc | apply pw_below_drewN | apply below_drew1) | exact HB.out)⟩
    · have c6b0 : decide (1000 ≤ (t220.length : Int)) = false := decide_eq_false c6
      have LT6 := Aside0.mk (show t220.length < 1000 by omega)
      clear c6
      go_enter Try.func9, Try.ntmps9
      go_wp2_with (first | ((with_reducible refine gate_callee (f := 26) rfl ?_); refine goesL_ (some 9) rfl rfl Try.func26 (by kernel_rfl) rfl #[.slice A0 l0.length c0] rfl (by (try simp only [List.map_toArray, List.map_cons, List.map_nil]); first | done | rfl | (simp only [List.length_drop, List.length_take]; rfl)) ?_; (with_reducible refine (laws_big.calls _ _ l0 false _ ?side1 ?side2 A2.out).mono ?_); (case side1 => repeat (first | exact HR0.out | (with_reducible refine Kd.C_alloc ?_ _) | (with_reducible refine Kd.C_drewN ?_ _) | (with_reducible refine Kd.C_drew ?_))); (case side2 => exact HC0.out); rintro e w' ⟨rfl, ⟨nd, rfl⟩⟩; refine ⟨_, rfl, ?_⟩) | ((with_reducible refine gate_callee (f := 27) rfl ?_); refine goesL_ (some 11) rfl rfl Try.func27 (by kernel_rfl) rfl #[.slice A0 l0.length c0] rfl (by (try simp only [List.map_toArray, List.map_cons, List.map_nil]); first | done | rfl | (simp only [List.length_drop, List.length_take]; rfl)) ?_; (with_reducible refine (spec_DrawFloatSum.callsC k _ _ l0 t220 _ ?side1 ?side2 A4.out).mono ?_); (case side1 => repeat (first | exact HR0.out | (with_reducible refine Kd.C_alloc ?_ _) | (with_reducible refine Kd.C_drewN ?_ _) | (with_reducible refine Kd.C_drew ?_))); (case side2 => exact HC0.out); rintro e w20 ⟨v221, l_, rfl, ho0, hb, ⟨hl_⟩⟩; refine ⟨_, rfl, ?_⟩; have n0_ := Aside0.mk (Kd.R_lower ho0 (below_size (by repeat (first | (with_reducible first | exact HB.out | apply below_alloc | apply pw_below_drewN | apply below_drew1) | exact HB.out)))); have n1_ := Aside0.mk (below_step (by repeat (first | (with_reducible first | exact HB.out | apply below_alloc | apply pw_below_drewN | apply below_drew1) | exact HB.out)) hb); clear HB; have HO222 := n0_; have HB := n1_; clear n0_ n1_; (try clear hb); (try clear hb2); (try clear hk); (try clear hi); (try clear ho0); have HL := Aside0.mk hl_; have c6b2 : decide (1000 ≤ (l_.length : Int)) = false := (by rw [hl_]; exact c6b0); clear hl_) | ((with_reducible refine gate_callee (f := 28) rfl ?_); refine goesL_ (some 14) rfl rfl Try.func28 (by kernel_rfl) rfl #[.slice A0 l0.length c0] rfl (by (try simp only [List.map_toArray, List.map_cons, List.map_nil]); first | done | rfl | (simp only [List.length_drop, List.length_take]; rfl)) ?_; (with_reducible refine (spec_DrawFloatCompare.callsC k _ _ l0 t223 t224 _ ?side1 ?side2 A5.out).mono ?_); (case side1 => repeat (first | exact (Kd.C_below HR0.out HB.out) | (with_reducible refine Kd.C_alloc ?_ _) | (with_reducible refine Kd.C_drewN ?_ _) | (with_reducible refine Kd.C_drew ?_))); (case side2 => exact HC0.out); rintro e w21 ⟨b223, b224, rfl, hb, ⟨⟨hcnb223, hltb223⟩⟩, ⟨⟨hcnb224, hltb224⟩⟩⟩; refine ⟨_, rfl, ?_⟩; have LTb223 := Aside0.mk hltb223; clear hltb223; subst hcnb223; have LTb224 := Aside0.mk hltb224; clear hltb224; subst hcnb224; have n0_ := Aside0.mk (Kd.R_below (by (with_reducible repeat (first | apply Kd.R_alloc | apply Kd.R_drewN | apply Kd.R_drew)); exact HO222.out) hb); have n1_ := Aside0.mk (below_step (by repeat (first | (with_reducible first | exact HB.out | apply below_alloc | apply pw_below_drewN | apply below_drew1) | exact HB.out)) hb); clear HO222; clear HB; have HO222 := n0_; have HB := n1_; clear n0_ n1_; (try clear hb); (try clear hb2); (try clear hk); (try clear hi); obtain ⟨Ao22, co22, eo22⟩ := Kd.R_slice HO222.out; subst eo22) | ((with_reducible refine gate_callee (f := 18) rfl ?_); refine goesL_ (some 21) rfl rfl Try.func18 (by kernel_rfl) rfl #[.slice Ao22 l_.length co22] rfl (by (try simp only [List.map_toArray, List.map_cons, List.map_nil]); first | done | rfl | (simp only [List.length_drop, List.length_take]; rfl)) ?_; (with_reducible refine (impl_FloatSum.callsN _ _ l_ _ ?side1 ?side2 (laws_FnSums.q _)).mono ?_); (case side1 => repeat (first | exact (Kd.R_reads' HO222.out).2.2 | (with_reducible refine Kd.C_alloc ?_ _) | (with_reducible refine Kd.C_drewN ?_ _) | (with_reducible refine Kd.C_drew ?_))); (case side2 => exact (Kd.R_reads' HO222.out).2.1); rintro e w' ⟨ts, rfl, Hts, ⟨nd, rfl⟩⟩; refine ⟨_, rfl, ?_⟩; have LTL := Aside0.mk (show l_.length < 1000 from by have := LT6.out; have := HL.out; omega); obtain ⟨y226, hy226⟩ : ∃ y_ : List Nat, y_ = (([] : List Nat)) := ⟨_, rfl⟩; have Ny226 := Aside0.mk hy226; obtain ⟨y229, hy229⟩ : ∃ y_ : List Nat, y_ = (y226 ++ l_) := ⟨_, rfl⟩; have Ny229 := Aside0.mk hy229; obtain ⟨y232, hy232⟩ : ∃ y_ : List Nat, y_ = (y229 ++ [b223]) := ⟨_, rfl⟩; have Ny232 := Aside0.mk hy232; have LMc11 := Aside0.mk (show y226.length + l_.length < 17592186044416 from by have := LT6.out; have := HL.out; rw [hy226, List.length_nil]; omega); have LMc12 := Aside0.mk (show y229.length < 17592186044416 from by have := LT6.out; have := HL.out; rw [hy229, hy226, List.length_append, List.length_nil]; omega); have HY3 := Aside0.mk (show y232 = l_ ++ [b223] from by rw [hy232, hy229, hy226, List.nil_append]); clear hy226 hy229 hy232) | ((with_reducible refine gate_dst (N := 22) rfl ?_); refine Kd.R_lit Kd.flt _ 22 ?hg (N := 22) ?hd (xs := ([] : List Nat)) (inner := []) (ok := fun _ => True) (okp := fun _ => True) ?hr ?hp (fun _ hk => hk) trivial (Below.refl _ _) (Nat.le_refl _) (by simp) ?_; (case hd => rfl); (case hg => rfl); (case hr => first | (go_simp; done) | (go_simp; rfl)); (case hp => exact (Reps.none _ _)); intro v227 w23 ho24 hb hg_ hnew_; clear hg_ hnew_; (first | rw [← Ny226.out] at ho24 | (simp only [Int.reduceToNat] at ho24; rw [← Ny226.out] at ho24)); have n0_ := Aside0.mk (Kd.R_elder' (by (with_reducible repeat (first | apply Kd.R_alloc | apply Kd.R_drewN | apply Kd.R_drew)); exact HO222.out) (Kd.R_base ho24) hb); have n1_ := Aside0.mk (Kd.R_lower (Kd.R_new' ho24 (Kd.R_lt (by (with_reducible repeat (first | apply Kd.R_alloc | apply Kd.R_drewN | apply Kd.R_drew)); exact HO222.out))) (below_size (by repeat (first | (with_reducible first | exact HB.out | apply below_alloc | apply pw_below_drewN | apply below_drew1) | exact HB.out)))); have n2_ := Aside0.mk (below_step (by repeat (first | (with_reducible first | exact HB.out | apply below_alloc | apply pw_below_drewN | apply below_drew1) | exact HB.out)) hb); clear HO222; clear HB; have HO222 := n0_; have HO228 := n1_; have HB := n2_; clear n0_ n1_ n2_; clear hb ho24) | ((with_reducible refine gate_builtin (b := .append) (xs := #[.tmp 22, .tmp 23]) rfl ?_); at_builtin; refine Kd.R_append_rows Kd.flt (w0 := w) w.heap.size rfl (.tmp 22) (.tmp 23) 29 22 (.float .f64 0) 8 rfl Try.underlying29 info22 rfl (by decide) (by omega) v227 y226 l_ _ _ _ (fun k_ => some k_ ≠ (.slice Ao22 l_.length co22 : Value).ownBlock) (fun _ => False) rfl rfl ?aO ?aR (fun _ _ h => h) (fun _ h => h.elim) ?aF ?aB ?aS ?aL ?_; (case aR => repeat (first | exact (Kd.R_reads' HO222.out).2.2 | (with_reducible refine Kd.C_alloc ?_ _) | (with_reducible refine Kd.C_drewN ?_ _) | (with_reducible refine Kd.C_drew ?_))); (case aB => exact (by repeat (first | (with_reducible first | exact HB.out | apply below_alloc | apply pw_below_drewN | apply below_drew1) | exact HB.out))); (case aF => exact (fun k_ hk => Kd.fresh' (Kd.R_lt (by (with_reducible repeat (first | apply Kd.R_alloc | apply Kd.R_drewN | apply Kd.R_drew)); exact HO222.out)) k_ hk)); (case aO => exact (by (with_reducible repeat (first | apply Kd.R_alloc | apply Kd.R_drewN | apply Kd.R_drew)); exact Kd.R_mono HO228.out (fun _ hk => hk.2))); (case aS => exact (below_size (by repeat (first | (with_reducible first | exact HB.out | apply below_alloc | apply pw_below_drewN | apply below_drew1) | exact HB.out)))); (case aL => have := LMc11.out; omega); intro v230 w25 ho hb hg hat; rw [← Ny229.out] at ho; have n0_ := Aside0.mk (Kd.R_after (ok := (fun _ => True)) (by (with_reducible repeat (first | apply Kd.R_alloc | apply Kd.R_drewN | apply Kd.R_drew)); exact HO222.out) hg hat); have n1_ := Aside0.mk (hb); have n2_ := Aside0.mk (ho); clear HO222; clear HB; clear HO228; have HO222 := n0_; have HB := n1_; have HO231 := n2_; clear n0_ n1_ n2_; clear ho hb hg hat) | ((with_reducible refine gate_builtin (b := .append) (xs := #[.tmp 24, .tmp 26]) rfl ?_); at_builtin; refine Kd.R_append Kd.flt (w0 := w) w.heap.size rfl (.tmp 24) (.tmp 26) 29 22 (.float .f64 0) 8 rfl Try.underlying29 info22 rfl (by decide) (by omega) v230 y229 b223 [.float .f64 b223] (fun k_ => some k_ ≠ (.slice Ao22 l_.length co22 : Value).ownBlock) (fun _ => False) rfl rfl ?aP (fun _ hk => hk.elim) ?aF ?aO ?aB ?aS ?aL ?_; (case aP => exact rfl); (case aB => exact (by repeat (first | (with_reducible first | exact HB.out | apply below_alloc | apply pw_below_drewN | apply below_drew1) | exact HB.out))); (case aF => exact (fun k_ hk => Kd.fresh' (Kd.R_lt (by (with_reducible repeat (first | apply Kd.R_alloc | apply Kd.R_drewN | apply Kd.R_drew)); exact HO222.out)) k_ hk)); (case aO => exact (by (with_reducible repeat (first | apply Kd.R_alloc | apply Kd.R_drewN | apply Kd.R_drew)); exact HO231.out)); (case aS => exact (below_size (by repeat (first | (with_reducible first | exact HB.out | apply below_alloc | apply pw_below_drewN | apply below_drew1) | exact HB.out)))); (case aL => have := LMc12.out; omega); intro v233 w26 ho hb hg hat; rw [← Ny232.out] at ho; have n0_ := Aside0.mk (Kd.R_after (ok := (fun _ => True)) (by (with_reducible repeat (first | apply Kd.R_alloc | apply Kd.R_drewN | apply Kd.R_drew)); exact HO222.out) hg hat); have n1_ := Aside0.mk (hb); have n2_ := Aside0.mk (ho); clear HO222; clear HB; clear HO231; have HO222 := n0_; have HB := n1_; have HO234 := n2_; clear n0_ n1_ n2_; clear ho hb hg hat; obtain ⟨Ao27, co27, eo27⟩ := Kd.R_slice HO234.out; subst eo27) | ((with_reducible refine gate_callee (f := 18) rfl ?_); refine goesL_ (some 28) rfl rfl Try.func18 (by kernel_rfl) rfl #[.slice Ao27 y232.length co27] rfl (by (try simp only [List.map_toArray, List.map_cons, List.map_nil]); first | done | rfl | (simp only [List.length_drop, List.length_take]; rfl)) ?_; (with_reducible refine (impl_FloatSum.callsN _ _ y232 _ ?side1 ?side2 (laws_FnSums.q _)).mono ?_); (case side1 => repeat (first | exact (Kd.R_reads' HO234.out).2.2 | (with_reducible refine Kd.C_alloc ?_ _) | (with_reducible refine Kd.C_drewN ?_ _) | (with_reducible refine Kd.C_drew ?_))); (case side2 => exact (Kd.R_reads' HO234.out).2.1); rintro e w' ⟨tt, rfl, Htt, ⟨nd, rfl⟩⟩; refine ⟨_, rfl, ?_⟩; obtain ⟨u1, hu1⟩ := hF.out tt (laws_FnSums.lt Htt.out); have A14 := Aside0.mk hu1; clear hu1) | ((with_reducible refine gate_callee (f := 11) rfl ?_); refine goesL_ (some 30) rfl rfl Try.func11 (by kernel_rfl) rfl #[.float .f64 tt] rfl (by (try simp only [List.map_toArray, List.map_cons, List.map_nil]); first | done | rfl | (simp only [List.length_drop, List.length_take]; rfl)) ?_; (with_reducible refine (spec_FloatBits.calls k tt u1 _ A14.out).mono ?_); rintro e w' ⟨rfl, ⟨nd, rfl⟩⟩; refine ⟨_, rfl, ?_⟩; rcases hq_ : fok .add ts b223 with _ | _) | (go_at_call 11; (with_reducible refine (spec_FloatBits.calls k (fval .add ts b223) u1 _ (laws_FnSums.same Hts.out Htt.out HY3.out (laws_FnSums.add1 hq_) A14.out LTL.out)).mono ?_); rintro e w' ⟨rfl, ⟨nd, rfl⟩⟩) | (go_at_call 11; (with_reducible refine (spec_FloatBits.calls k _ u1 _ (laws_FnSums.same Hts.out Htt.out HY3.out (laws_FnSums.add2 hq_ (nanR_of _ _ _)) A14.out LTL.out)).mono ?_); rintro e w' ⟨rfl, ⟨nd, rfl⟩⟩) | (go_at_call 18; (refine (impl_FloatSum.callsN _ _ ([] : List Nat) _ (Kd.C_nil _ _) (Nat.le_refl _) (laws_FnSums.q _)).mono ?_); rintro e w' ⟨tz, rfl, Htz, ⟨nd, rfl⟩⟩; obtain rfl := laws_FnSums.zero Htz.out; clear Htz) | (go_at_call 12; (refine (impl_FloatBits.calls 0 0 _ laws_FnSums.bits0).mono ?_); rintro e w' ⟨rfl, ⟨nd, rfl⟩⟩))
      all_goals go_ret
      all_goals exact ⟨by first | rfl | (simp [errW_none, errW_some] <;> rfl) | (simp [*, errW_none, errW_some] <;> rfl), by repeat (first | (with_reducible first | exact HB.out | apply below_alloc | apply pw_below_drewN | apply below_drew1) | exact HB.out)⟩
/-- THE ONE PURE STATEMENT of laws_FnSums: yours. -/
def laws_FnSums.Pure : Prop := ∀ (l0 : List Int), l0.length ≤ maxLen → l0.length * 1 ≤ 140737488351232 → (∀ x ∈ l0, (Lit.int .u8 x).wf = true) → ∃ k, (∀ b, b < 2 ^ 64 → ∃ v, spec_FloatBits.f k b = some v) ∧ laws_FnSums.f k l0 = some true
theorem laws_FnSums.walk (P : laws_FnSums.Pure) (a0 : Option Addr) (len0 cap0 : Nat) (z0 : List Int) (w : World) (w0 : (a0 = none ∧ len0 = 0 ∧ cap0 = 0 ∧ z0 = []) ∨ ∃ x, a0 = some x ∧ len0 ≤ cap0 ∧ cap0 ≤ maxLen ∧ z0.length = cap0 ∧ (∀ i, i < z0.length → w.cell? (x.add i) = some (.int .u8 (z0.getD i 0))) ∧ ∀ n ∈ z0, (Lit.int .u8 n).wf = true) (y0 : len0 * 1 ≤ 140737488351232) :
    Calls Try.prog 9 #[.slice a0 len0 cap0] w fun e w' => e = .returned (.bool true) ∧ Below w.heap.size w w' := by
  obtain ⟨l0, rfl, hr0, hm0, hw0, hc0⟩ := ReadsInt.ofRowC w0
  obtain ⟨k, hF, h⟩ := P l0 hm0 y0 hw0
  refine (laws_FnSums.calls k _ _ l0 true w (Kd.C_of_reads (d := (0 : Int)) (h1 := fun _ => rfl) hr0) hc0 hF h).mono ?_
  rintro e w' ⟨rfl, hd⟩
  exact ⟨rfl, hd⟩

end Go.Proofs.Ytjbocmkphnmfgaa.PFnSums
