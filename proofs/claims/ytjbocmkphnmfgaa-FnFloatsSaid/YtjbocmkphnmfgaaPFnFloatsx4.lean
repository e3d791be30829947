-- By this session's own program (wip/xprint.py), over the kit's print.
import Derived.Test.YtjbocmkphnmfgaaPFnFloatsx0
import Derived.Test.YtjbocmkphnmfgaaPFnFloatsx1
import Derived.Test.YtjbocmkphnmfgaaPFnFloatsx3
namespace Go.Proofs.Ytjbocmkphnmfgaa.PFnFloats
open Go.RowKit Go.Proofs.YtjbocmkphnmfgaaW.PrintWords Go.Proofs.YtjbocmkphnmfgaaW.PrintLast Go.Proofs.YtjbocmkphnmfgaaW.PrintMore
attribute [local go_sem] max2_int min2_int max_two min_two max_three min_three max_four min_four   -- for this text's walks alone
attribute [local go_sem high] fl_eql fl_neq fl_lss fl_leq fl_gtr fl_geq fl_add fl_sub fl_mul fl_quo fl_neg fl_ofInt fl_toInt fl_store ext_bits ext_from fl_nan_quo fl_nan_add fl_nan_mul fl_nan_sub
set_option linter.unusedVariables false
set_option linter.unusedSimpArgs false

/-! ### laws_FnFloats: function 10 -/
mutual
def laws_FnFloats.j0 : Nat → Nat → Nat → Int → Bool → Option (Bool)
  | 0, _, _, _, _ => none
  | k + 1, x3, x4, x6, x47 => if x47 = true then (some false) else ((impl_FloatCompare.f x3 x4).bind fun t194 => (if (fls x3 x4) = true then (if t194 = (-1) then (if (fgt x3 x4) = true then (if t194 = 1 then (if (feq x3 x4) = true then (if t194 = 0 then (if ((feq x3 x3) = true) then (laws_FnFloats.j1 k x4 x6 t194 false) else (if ((feq x4 x4) = true) then (if (feq x4 x4) = true then (laws_FnFloats.j1 k x4 x6 t194 (t194 != 1)) else (laws_FnFloats.j1 k x4 x6 t194 false)) else (if (feq x4 x4) = true then (laws_FnFloats.j1 k x4 x6 t194 (t194 != 1)) else (laws_FnFloats.j1 k x4 x6 t194 false)))) else (laws_FnFloats.j1 k x4 x6 t194 true)) else (if ((feq x3 x3) = true) then (laws_FnFloats.j1 k x4 x6 t194 false) else (if ((feq x4 x4) = true) then (if (feq x4 x4) = true then (laws_FnFloats.j1 k x4 x6 t194 (t194 != 1)) else (laws_FnFloats.j1 k x4 x6 t194 false)) else (if t194 = 0 then (if (feq x4 x4) = true then (laws_FnFloats.j1 k x4 x6 t194 (t194 != 1)) else (laws_FnFloats.j1 k x4 x6 t194 false)) else (laws_FnFloats.j1 k x4 x6 t194 true))))) else (laws_FnFloats.j1 k x4 x6 t194 true)) else (if (feq x3 x4) = true then (if t194 = 0 then (if ((feq x3 x3) = true) then (laws_FnFloats.j1 k x4 x6 t194 false) else (if ((feq x4 x4) = true) then (if (feq x4 x4) = true then (laws_FnFloats.j1 k x4 x6 t194 (t194 != 1)) else (laws_FnFloats.j1 k x4 x6 t194 false)) else (if (feq x4 x4) = true then (laws_FnFloats.j1 k x4 x6 t194 (t194 != 1)) else (laws_FnFloats.j1 k x4 x6 t194 false)))) else (laws_FnFloats.j1 k x4 x6 t194 true)) else (if ((feq x3 x3) = true) then (laws_FnFloats.j1 k x4 x6 t194 false) else (if ((feq x4 x4) = true) then (if (feq x4 x4) = true then (laws_FnFloats.j1 k x4 x6 t194 (t194 != 1)) else (laws_FnFloats.j1 k x4 x6 t194 false)) else (if t194 = 0 then (if (feq x4 x4) = true then (laws_FnFloats.j1 k x4 x6 t194 (t194 != 1)) else (laws_FnFloats.j1 k x4 x6 t194 false)) else (laws_FnFloats.j1 k x4 x6 t194 true)))))) else (laws_FnFloats.j1 k x4 x6 t194 true)) else (if (fgt x3 x4) = true then (if t194 = 1 then (if (feq x3 x4) = true then (if t194 = 0 then (if ((feq x3 x3) = true) then (laws_FnFloats.j1 k x4 x6 t194 false) else (if ((feq x4 x4) = true) then (if (feq x4 x4) = true then (laws_FnFloats.j1 k x4 x6 t194 (t194 != 1)) else (laws_FnFloats.j1 k x4 x6 t194 false)) else (if (feq x4 x4) = true then (laws_FnFloats.j1 k x4 x6 t194 (t194 != 1)) else (laws_FnFloats.j1 k x4 x6 t194 false)))) else (laws_FnFloats.j1 k x4 x6 t194 true)) else (if ((feq x3 x3) = true) then (laws_FnFloats.j1 k x4 x6 t194 false) else (if ((feq x4 x4) = true) then (if (feq x4 x4) = true then (laws_FnFloats.j1 k x4 x6 t194 (t194 != 1)) else (laws_FnFloats.j1 k x4 x6 t194 false)) else (if t194 = 0 then (if (feq x4 x4) = true then (laws_FnFloats.j1 k x4 x6 t194 (t194 != 1)) else (laws_FnFloats.j1 k x4 x6 t194 false)) else (laws_FnFloats.j1 k x4 x6 t194 true))))) else (laws_FnFloats.j1 k x4 x6 t194 true)) else (if (feq x3 x4) = true then (if t194 = 0 then (if ((feq x3 x3) = true) then (laws_FnFloats.j1 k x4 x6 t194 false) else (if ((feq x4 x4) = true) then (if (feq x4 x4) = true then (laws_FnFloats.j1 k x4 x6 t194 (t194 != 1)) else (laws_FnFloats.j1 k x4 x6 t194 false)) else (if (feq x4 x4) = true then (laws_FnFloats.j1 k x4 x6 t194 (t194 != 1)) else (laws_FnFloats.j1 k x4 x6 t194 false)))) else (laws_FnFloats.j1 k x4 x6 t194 true)) else (if ((feq x3 x3) = true) then (laws_FnFloats.j1 k x4 x6 t194 false) else (if ((feq x4 x4) = true) then (if (feq x4 x4) = true then (laws_FnFloats.j1 k x4 x6 t194 (t194 != 1)) else (laws_FnFloats.j1 k x4 x6 t194 false)) else (if t194 = 0 then (if (feq x4 x4) = true then (laws_FnFloats.j1 k x4 x6 t194 (t194 != 1)) else (laws_FnFloats.j1 k x4 x6 t194 false)) else (laws_FnFloats.j1 k x4 x6 t194 true))))))))
def laws_FnFloats.j1 : Nat → Nat → Int → Int → Bool → Option (Bool)
  | 0, _, _, _, _ => none
  | k + 1, x4, x6, x9, x103 => if x103 = true then (some false) else ((impl_FloatBits.f (fneg 0)).bind fun t195 => (if t195 = 9223372036854775808 then ((impl_FloatCompare.f (fneg 0) 0).bind fun t196 => (if t196 = 0 then ((impl_FloatRank.f x4).bind fun t197 => (some ((decide (x9 < 0)) == (decide (x6 < t197))))) else (some false))) else (some false)))
end
def laws_FnFloats.f (k : Nat) (l0 : List Int) : Option (Bool) := (laws_big.f l0).bind fun t183 => (if t183 = true then (some true) else ((spec_DrawFloatCompare.f k l0).bind fun bt184 => ((impl_FloatBits.f bt184.1).bind fun t186 => ((impl_FloatRank.f bt184.1).bind fun t187 => ((impl_FloatUnrank.f k t187).bind fun bt188 => (if bt188.2 = true then ((impl_FloatOf.f t186).bind fun t190 => ((impl_FloatBits.f t190).bind fun t191 => (if t191 = t186 then ((impl_FloatRank.f bt188.1).bind fun t192 => (if t192 = t187 then ((impl_FloatCompare.f bt184.1 bt188.1).bind fun t193 => (laws_FnFloats.j0 k bt184.1 bt184.2 t187 (t193 != 0))) else (laws_FnFloats.j0 k bt184.1 bt184.2 t187 true))) else (laws_FnFloats.j0 k bt184.1 bt184.2 t187 true)))) else (laws_FnFloats.j0 k bt184.1 bt184.2 t187 true)))))))
theorem laws_FnFloats.mono_l : ∀ k, (∀ y0 y1 y2 y3, LeO (laws_FnFloats.j0 k y0 y1 y2 y3) (laws_FnFloats.j0 (k + 1) y0 y1 y2 y3)) ∧ (∀ y0 y1 y2 y3, LeO (laws_FnFloats.j1 k y0 y1 y2 y3) (laws_FnFloats.j1 (k + 1) y0 y1 y2 y3))
  | 0 => ⟨fun _ _ _ _ r h => by simp [laws_FnFloats.j0] at h, fun _ _ _ _ r h => by simp [laws_FnFloats.j1] at h⟩
  | k + 1 => by
    obtain ⟨ih0, ih1⟩ := laws_FnFloats.mono_l k
    refine ⟨?_, ?_⟩
    · intro y0 y1 y2 y3
      unfold laws_FnFloats.j0
      repeat' first
      | (with_reducible exact ih0 _ _ _ _)
      | (with_reducible exact ih1 _ _ _ _)
      | (with_reducible exact impl_FloatUnrank.mono _ _)
      | (with_reducible exact spec_DrawFloatCompare.mono _ _)
      | (with_reducible exact LeO.refl _)
      | (with_reducible exact LeO.none _)
      | (with_reducible refine LeO.ite ?_ ?_)
      | (with_reducible refine LeO.bind ?_ (fun _ => ?_))
      | exact ih0 _ _ _ _
      | exact ih1 _ _ _ _
      | exact impl_FloatUnrank.mono _ _
      | exact spec_DrawFloatCompare.mono _ _
      | exact LeO.none _
      | refine LeO.ite ?_ ?_
      | refine LeO.bind ?_ (fun _ => ?_)
    · intro y0 y1 y2 y3
      unfold laws_FnFloats.j1
      repeat' first
      | (with_reducible exact ih0 _ _ _ _)
      | (with_reducible exact ih1 _ _ _ _)
      | (with_reducible exact impl_FloatUnrank.mono _ _)
      | (with_reducible exact spec_DrawFloatCompare.mono _ _)
      | (with_reducible exact LeO.refl _)
      | (with_reducible exact LeO.none _)
      | (with_reducible refine LeO.ite ?_ ?_)
      | (with_reducible refine LeO.bind ?_ (fun _ => ?_))
      | exact ih0 _ _ _ _
      | exact ih1 _ _ _ _
      | exact impl_FloatUnrank.mono _ _
      | exact spec_DrawFloatCompare.mono _ _
      | exact LeO.none _
      | refine LeO.ite ?_ ?_
      | refine LeO.bind ?_ (fun _ => ?_)
theorem laws_FnFloats.mono : ∀ a0 k, LeO (laws_FnFloats.f k a0) (laws_FnFloats.f (k + 1) a0) := by
  intro a0 k
  obtain ⟨ih0, ih1⟩ := laws_FnFloats.mono_l k
  unfold laws_FnFloats.f
  repeat' first
      | (with_reducible exact ih0 _ _ _ _)
      | (with_reducible exact ih1 _ _ _ _)
      | (with_reducible exact impl_FloatUnrank.mono _ _)
      | (with_reducible exact spec_DrawFloatCompare.mono _ _)
      | (with_reducible exact LeO.refl _)
      | (with_reducible exact LeO.none _)
      | (with_reducible refine LeO.ite ?_ ?_)
      | (with_reducible refine LeO.bind ?_ (fun _ => ?_))
      | exact ih0 _ _ _ _
      | exact ih1 _ _ _ _
      | exact impl_FloatUnrank.mono _ _
      | exact spec_DrawFloatCompare.mono _ _
      | exact LeO.none _
      | refine LeO.ite ?_ ?_
      | refine LeO.bind ?_ (fun _ => ?_)
set_option maxHeartbeats 8000000 in
set_option maxRecDepth 100000 in
theorem laws_FnFloats.calls (k : Nat) (A0 : Option Addr) (c0 : Nat) (l0 : List Int) (r : Bool) (w : World) (hr0 : Kd.C (Kd.int .u8) w A0 l0.length l0) (hc0 : l0.length ≤ c0) (h : laws_FnFloats.f k l0 = some r) (hT : r = true := by rfl) :
    Calls Try.prog 10 #[.slice A0 l0.length c0] w fun e w' => e = .returned (.bool r) ∧ Below w.heap.size w w' := by
  have HR0 := Aside0.mk hr0
  have HC0 := Aside0.mk hc0
  clear hr0 hc0
  have HB := Aside0.mk (Below.refl w.heap.size w)
  have H : ((laws_big.f l0).bind fun t183 => (if t183 = true then (some true) else ((spec_DrawFloatCompare.f k l0).bind fun bt184 => ((impl_FloatBits.f bt184.1).bind fun t186 => ((impl_FloatRank.f bt184.1).bind fun t187 => ((impl_FloatUnrank.f k t187).bind fun bt188 => (if bt188.2 = true then ((impl_FloatOf.f t186).bind fun t190 => ((impl_FloatBits.f t190).bind fun t191 => (if t191 = t186 then ((impl_FloatRank.f bt188.1).bind fun t192 => (if t192 = t187 then ((impl_FloatCompare.f bt184.1 bt188.1).bind fun t193 => (laws_FnFloats.j0 k bt184.1 bt184.2 t187 (t193 != 0))) else (laws_FnFloats.j0 k bt184.1 bt184.2 t187 true))) else (laws_FnFloats.j0 k bt184.1 bt184.2 t187 true)))) else (laws_FnFloats.j0 k bt184.1 bt184.2 t187 true)))))))) = some r := h
  clear h
  replace H := Option.bind_eq_some_iff.mp H
  obtain ⟨t183, A20, H⟩ := H
  replace H : (if t183 = true then (some true) else ((spec_DrawFloatCompare.f k l0).bind fun bt184 => ((impl_FloatBits.f bt184.1).bind fun t186 => ((impl_FloatRank.f bt184.1).bind fun t187 => ((impl_FloatUnrank.f k t187).bind fun bt188 => (if bt188.2 = true then ((impl_FloatOf.f t186).bind fun t190 => ((impl_FloatBits.f t190).bind fun t191 => (if t191 = t186 then ((impl_FloatRank.f bt188.1).bind fun t192 => (if t192 = t187 then ((impl_FloatCompare.f bt184.1 bt188.1).bind fun t193 => (laws_FnFloats.j0 k bt184.1 bt184.2 t187 (t193 != 0))) else (laws_FnFloats.j0 k bt184.1 bt184.2 t187 true))) else (laws_FnFloats.j0 k bt184.1 bt184.2 t187 true)))) else (laws_FnFloats.j0 k bt184.1 bt184.2 t187 true))))))) = some r := H
  have A2 := Aside0.mk A20
  clear A20
  by_cases c3 : t183 = true
  · subst c3
    have H1 : (some true) = some r := by rw [if_pos rfl] at H; exact H
    clear H
    have H := H1
    clear H1
    obtain rfl := Option.some.inj H
    go_enter Try.func10, Try.ntmps10
    go_wp2_with (first | ((with_reducible refine gate_callee (f := 26) rfl ?_); refine goesL_ (some 12) rfl rfl Try.func26 (by kernel_rfl) rfl #[.slice A0 l0.length c0] rfl (by (try simp only [List.map_toArray, List.map_cons, List.map_nil]); first | done | rfl | (simp only [List.length_drop, List.length_take]; rfl)) ?_; (with_reducible refine (laws_big.calls _ _ l0 true _ ?side1 ?side2 A2.out).mono ?_); (case side1 => repeat (first | exact HR0.out | (with_reducible refine Kd.C_alloc ?_ _) | (with_reducible refine Kd.C_drewN ?_ _) | (with_reducible refine Kd.C_drew ?_))); (case side2 => exact HC0.out); rintro e w' ⟨rfl, ⟨nd, rfl⟩⟩; refine ⟨_, rfl, ?_⟩))
    go_ret
    exact ⟨by first | rfl | (simp [errW_none, errW_some] <;> rfl) | (simp [*, errW_none, errW_some] <;> rfl), by repeat (first | (with_reducible first | exact HB.out | apply below_alloc | apply pw_below_drewN | apply below_drew1) | exact HB.out)⟩
  · replace c3 := Bool.eq_false_iff.mpr c3
    subst c3
    have H1 : ((spec_DrawFloatCompare.f k l0).bind fun bt184 => ((impl_FloatBits.f bt184.1).bind fun t186 => ((impl_FloatRank.f bt184.1).bind fun t187 => ((impl_FloatUnrank.f k t187).bind fun bt188 => (if bt188.2 = true then ((impl_FloatOf.f t186).bind fun t190 => ((impl_FloatBits.f t190).bind fun t191 => (if t191 = t186 then ((impl_FloatRank.f bt188.1).bind fun t192 => (if t192 = t187 then ((impl_FloatCompare.f bt184.1 bt188.1).bind fun t193 => (laws_FnFloats.j0 k bt184.1 bt184.2 t187 (t193 != 0))) else (laws_FnFloats.j0 k bt184.1 bt184.2 t187 true))) else (laws_FnFloats.j0 k bt184.1 bt184.2 t187 true)))) else (laws_FnFloats.j0 k bt184.1 bt184.2 t187 true)))))) = some r := by rw [if_neg (show ¬ (false = true) by decide)] at H; exact H
    clear H
    have H := H1
    clear H1
    replace H := Option.bind_eq_some_iff.mp H
    obtain ⟨⟨t184, t185⟩, A40, H⟩ := H
    replace H : ((impl_FloatBits.f t184).bind fun t186 => ((impl_FloatRank.f t184).bind fun t187 => ((impl_FloatUnrank.f k t187).bind fun bt188 => (if bt188.2 = true then ((impl_FloatOf.f t186).bind fun t190 => ((impl_FloatBits.f t190).bind fun t191 => (if t191 = t186 then ((impl_FloatRank.f bt188.1).bind fun t192 => (if t192 = t187 then ((impl_FloatCompare.f t184 bt188.1).bind fun t193 => (laws_FnFloats.j0 k t184 t185 t187 (t193 != 0))) else (laws_FnFloats.j0 k t184 t185 t187 true))) else (laws_FnFloats.j0 k t184 t185 t187 true)))) else (laws_FnFloats.j0 k t184 t185 t187 true))))) = some r := H
    have A4 := Aside0.mk A40
    clear A40
    replace H := Option.bind_eq_some_iff.mp H
    obtain ⟨t186, A50, H⟩ := H
    replace H : ((impl_FloatRank.f t184).bind fun t187 => ((impl_FloatUnrank.f k t187).bind fun bt188 => (if bt188.2 = true then ((impl_FloatOf.f t186).bind fun t190 => ((impl_FloatBits.f t190).bind fun t191 => (if t191 = t186 then ((impl_FloatRank.f bt188.1).bind fun t192 => (if t192 = t187 then ((impl_FloatCompare.f t184 bt188.1).bind fun t193 => (laws_FnFloats.j0 k t184 t185 t187 (t193 != 0))) else (laws_FnFloats.j0 k t184 t185 t187 true))) else (laws_FnFloats.j0 k t184 t185 t187 true)))) else (laws_FnFloats.j0 k t184 t185 t187 true)))) = some r := H
    have A5 := Aside0.mk A50
    clear A50
    replace H := Option.bind_eq_some_iff.mp H
    obtain ⟨t187, A60, H⟩ := H
    replace H : ((impl_FloatUnrank.f k t187).bind fun bt188 => (if bt188.2 = true then ((impl_FloatOf.f t186).bind fun t190 => ((impl_FloatBits.f t190).bind fun t191 => (if t191 = t186 then ((impl_FloatRank.f bt188.1).bind fun t192 => (if t192 = t187 then ((impl_FloatCompare.f t184 bt188.1).bind fun t193 => (laws_FnFloats.j0 k t184 t185 t187 (t193 != 0))) else (laws_FnFloats.j0 k t184 t185 t187 true))) else (laws_FnFloats.j0 k t184 t185 t187 true)))) else (laws_FnFloats.j0 k t184 t185 t187 true))) = some r := H
    have A6 := Aside0.mk A60
    clear A60
    replace H := Option.bind_eq_some_iff.mp H
    obtain ⟨⟨t188, t189⟩, A70, H⟩ := H
    replace H : (if t189 = true then ((impl_FloatOf.f t186).bind fun t190 => ((impl_FloatBits.f t190).bind fun t191 => (if t191 = t186 then ((impl_FloatRank.f t188).bind fun t192 => (if t192 = t187 then ((impl_FloatCompare.f t184 t188).bind fun t193 => (laws_FnFloats.j0 k t184 t185 t187 (t193 != 0))) else (laws_FnFloats.j0 k t184 t185 t187 true))) else (laws_FnFloats.j0 k t184 t185 t187 true)))) else (laws_FnFloats.j0 k t184 t185 t187 true)) = some r := H
    have A7 := Aside0.mk A70
    clear A70
    have HC8 := Aside0.mk H
    clear H
    go_enter Try.func10, Try.ntmps10
    go_upto_region 7 with (first | ((with_reducible refine gate_callee (f := 26) rfl ?_); refine goesL_ (some 12) rfl rfl Try.func26 (by kernel_rfl) rfl #[.slice A0 l0.length c0] rfl (by (try simp only [List.map_toArray, List.map_cons, List.map_nil]); first | done | rfl | (simp only [List.length_drop, List.length_take]; rfl)) ?_; (with_reducible refine (laws_big.calls _ _ l0 false _ ?side1 ?side2 A2.out).mono ?_); (case side1 => repeat (first | exact HR0.out | (with_reducible refine Kd.C_alloc ?_ _) | (with_reducible refine Kd.C_drewN ?_ _) | (with_reducible refine Kd.C_drew ?_))); (case side2 => exact HC0.out); rintro e w' ⟨rfl, ⟨nd, rfl⟩⟩; refine ⟨_, rfl, ?_⟩) | ((with_reducible refine gate_callee (f := 28) rfl ?_); refine goesL_ (some 15) rfl rfl Try.func28 (by kernel_rfl) rfl #[.slice A0 l0.length c0] rfl (by (try simp only [List.map_toArray, List.map_cons, List.map_nil]); first | done | rfl | (simp only [List.length_drop, List.length_take]; rfl)) ?_; (with_reducible refine (spec_DrawFloatCompare.callsC k _ _ l0 t184 t185 _ ?side1 ?side2 A4.out).mono ?_); (case side1 => repeat (first | exact HR0.out | (with_reducible refine Kd.C_alloc ?_ _) | (with_reducible refine Kd.C_drewN ?_ _) | (with_reducible refine Kd.C_drew ?_))); (case side2 => exact HC0.out); rintro e w9 ⟨b184, b185, rfl, hb, ⟨⟨hcnb184, hltb184⟩⟩, ⟨⟨hcnb185, hltb185⟩⟩⟩; refine ⟨_, rfl, ?_⟩; have LTb184 := Aside0.mk hltb184; clear hltb184; subst hcnb184; have LTb185 := Aside0.mk hltb185; clear hltb185; subst hcnb185; have n0_ := Aside0.mk (below_step (by repeat (first | (with_reducible first | exact HB.out | apply below_alloc | apply pw_below_drewN | apply below_drew1) | exact HB.out)) hb); clear HB; have HB := n0_; clear n0_; (try clear hb); (try clear hb2); (try clear hk); (try clear hi)) | ((with_reducible refine gate_callee (f := 12) rfl ?_); refine goesL_ (some 19) rfl rfl Try.func12 (by kernel_rfl) rfl #[.float .f64 b184] rfl (by (try simp only [List.map_toArray, List.map_cons, List.map_nil]); first | done | rfl | (simp only [List.length_drop, List.length_take]; rfl)) ?_; (with_reducible refine (impl_FloatBits.calls b184 t186 _ ((impl_FloatBits.inv0 _).symm.trans A5.out)).mono ?_); rintro e w' ⟨rfl, ⟨nd, rfl⟩⟩; refine ⟨_, rfl, ?_⟩) | ((with_reducible refine gate_callee (f := 21) rfl ?_); refine goesL_ (some 21) rfl rfl Try.func21 (by kernel_rfl) rfl #[.float .f64 b184] rfl (by (try simp only [List.map_toArray, List.map_cons, List.map_nil]); first | done | rfl | (simp only [List.length_drop, List.length_take]; rfl)) ?_; (with_reducible refine (impl_FloatRank.calls b184 t187 _ ((impl_FloatRank.inv0 _).symm.trans A6.out)).mono ?_); rintro e w' ⟨rfl, ⟨nd, rfl⟩⟩; refine ⟨_, rfl, ?_⟩) | ((with_reducible refine gate_callee (f := 25) rfl ?_); refine goesL_ (some 24) rfl rfl Try.func25 (by kernel_rfl) rfl #[.int .u64 t187] rfl (by (try simp only [List.map_toArray, List.map_cons, List.map_nil]); first | done | rfl | (simp only [List.length_drop, List.length_take]; rfl)) ?_; (with_reducible refine (impl_FloatUnrank.calls k t187 t188 t189 _ A7.out).mono ?_); rintro e w' ⟨rfl, ⟨nd, rfl⟩⟩; refine ⟨_, rfl, ?_⟩))
    (try simp only [Act.put, List.setIfInBounds_toArray, List.set_cons_zero, List.set_cons_succ])
    go_cut [47] (fun v47 wc => ∃ (kq : Nat) (x47_7 : Bool), v47 = .bool x47_7 ∧ Aside0 (laws_FnFloats.j0 kq (cn b184) (cn b185) t187 x47_7 = some r) ∧ Aside0 (kq ≤ k) ∧ Aside0 (Below w.heap.size w wc))
    case first =>
      have H := HC8.out
      clear HC8
      by_cases c10 : t189 = true
      · subst c10
        have H1 : ((impl_FloatOf.f t186).bind fun t190 => ((impl_FloatBits.f t190).bind fun t191 => (if t191 = t186 then ((impl_FloatRank.f t188).bind fun t192 => (if t192 = t187 then ((impl_FloatCompare.f (cn b184) t188).bind fun t193 => (laws_FnFloats.j0 k (cn b184) (cn b185) t187 (t193 != 0))) else (laws_FnFloats.j0 k (cn b184) (cn b185) t187 true))) else (laws_FnFloats.j0 k (cn b184) (cn b185) t187 true)))) = some r := by rw [if_pos rfl] at H; exact H
        clear H
        have H := H1
        clear H1
        replace H := Option.bind_eq_some_iff.mp H
        obtain ⟨t190, A110, H⟩ := H
        replace H : ((impl_FloatBits.f t190).bind fun t191 => (if t191 = t186 then ((impl_FloatRank.f t188).bind fun t192 => (if t192 = t187 then ((impl_FloatCompare.f (cn b184) t188).bind fun t193 => (laws_FnFloats.j0 k (cn b184) (cn b185) t187 (t193 != 0))) else (laws_FnFloats.j0 k (cn b184) (cn b185) t187 true))) else (laws_FnFloats.j0 k (cn b184) (cn b185) t187 true))) = some r := H
        have A11 := Aside0.mk A110
        clear A110
        replace H := Option.bind_eq_some_iff.mp H
        obtain ⟨t191, A120, H⟩ := H
        replace H : (if t191 = t186 then ((impl_FloatRank.f t188).bind fun t192 => (if t192 = t187 then ((impl_FloatCompare.f (cn b184) t188).bind fun t193 => (laws_FnFloats.j0 k (cn b184) (cn b185) t187 (t193 != 0))) else (laws_FnFloats.j0 k (cn b184) (cn b185) t187 true))) else (laws_FnFloats.j0 k (cn b184) (cn b185) t187 true)) = some r := H
        have A12 := Aside0.mk A120
        clear A120
        by_cases c13 : t191 = t186
        · rw [if_pos c13] at H
          have c13b0 : (t191 == t186) = true := beq_iff_eq.mpr c13
          have c13b1 : (t191 != t186) = false := bne_eq_false_iff_eq.mpr c13
          clear c13
          (first | rw [c13b0] | (simp only [i64_w, i32_w]; rw [c13b0]) | skip)
          replace H := Option.bind_eq_some_iff.mp H
          obtain ⟨t192, A140, H⟩ := H
          replace H : (if t192 = t187 then ((impl_FloatCompare.f (cn b184) t188).bind fun t193 => (laws_FnFloats.j0 k (cn b184) (cn b185) t187 (t193 != 0))) else (laws_FnFloats.j0 k (cn b184) (cn b185) t187 true)) = some r := H
          have A14 := Aside0.mk A140
          clear A140
          by_cases c15 : t192 = t187
          · rw [if_pos c15] at H
            have c15b0 : (t192 == t187) = true := beq_iff_eq.mpr c15
            have c15b1 : (t192 != t187) = false := bne_eq_false_iff_eq.mpr c15
            clear c15
            replace H := Option.bind_eq_some_iff.mp H
            obtain ⟨t193, A160, H⟩ := H
            replace H : (laws_FnFloats.j0 k (cn b184) (cn b185) t187 (t193 != 0)) = some r := H
            have A16 := Aside0.mk A160
            clear A160
            have H' := Aside0.mk H
            clear H
            go_wp2_with (first | (go_at_call 14; (with_reducible refine (impl_FloatOf.calls t186 t190 _ A11.out).mono ?_); rintro e w' ⟨rfl, ⟨nd, rfl⟩⟩) | (go_at_call 12; (with_reducible refine (impl_FloatBits.calls t190 t191 _ A12.out).mono ?_); rintro e w' ⟨rfl, ⟨nd, rfl⟩⟩) | (go_at_call 21; (with_reducible refine (impl_FloatRank.calls t188 t192 _ A14.out).mono ?_); rintro e w' ⟨rfl, ⟨nd, rfl⟩⟩) | (go_at_call 23; (with_reducible refine (impl_FloatCompare.calls b184 t188 t193 _ ((impl_FloatCompare.inv0 _ _).symm.trans A16.out)).mono ?_); rintro e w' ⟨rfl, ⟨nd, rfl⟩⟩))
            go_meet
            case rel => exact ⟨_, ((t193 != 0)), (by first | rfl | (simp; done) | (simp [*]; done) | (exfalso; simp_all; done)), H', ⟨by first | omega | exact Nat.le_refl _⟩, ⟨by repeat (first | (with_reducible first | exact HB.out | apply below_alloc | apply pw_below_drewN | apply below_drew1) | exact HB.out)⟩⟩
          · rw [if_neg c15] at H
            have c15b0 : (t192 == t187) = false := beq_eq_false_iff_ne.mpr c15
            have c15b1 : (t192 != t187) = true := bne_iff_ne.mpr c15
            have H' := Aside0.mk H
            clear H
            go_wp2_with (first | (go_at_call 14; (with_reducible refine (impl_FloatOf.calls t186 t190 _ A11.out).mono ?_); rintro e w' ⟨rfl, ⟨nd, rfl⟩⟩) | (go_at_call 12; (with_reducible refine (impl_FloatBits.calls t190 t191 _ A12.out).mono ?_); rintro e w' ⟨rfl, ⟨nd, rfl⟩⟩) | (go_at_call 21; (with_reducible refine (impl_FloatRank.calls t188 t192 _ A14.out).mono ?_); rintro e w' ⟨rfl, ⟨nd, rfl⟩⟩))
            go_meet
            case rel => exact ⟨_, (true), (by first | rfl | (simp; done) | (simp [*]; done) | (exfalso; simp_all; done)), H', ⟨by first | omega | exact Nat.le_refl _⟩, ⟨by repeat (first | (with_reducible first | exact HB.out | apply below_alloc | apply pw_below_drewN | apply below_drew1) | exact HB.out)⟩⟩
        · rw [if_neg c13] at H
          have c13b0 : (t191 == t186) = false := beq_eq_false_iff_ne.mpr c13
          have c13b1 : (t191 != t186) = true := bne_iff_ne.mpr c13
          (first | rw [c13b0] | (simp only [i64_w, i32_w]; rw [c13b0]) | skip)
          have H' := Aside0.mk H
          clear H
          go_wp2_with (first | (go_at_call 14; (with_reducible refine (impl_FloatOf.calls t186 t190 _ A11.out).mono ?_); rintro e w' ⟨rfl, ⟨nd, rfl⟩⟩) | (go_at_call 12; (with_reducible refine (impl_FloatBits.calls t190 t191 _ A12.out).mono ?_); rintro e w' ⟨rfl, ⟨nd, rfl⟩⟩))
          go_meet
          case rel => exact ⟨_, (true), (by first | rfl | (simp; done) | (simp [*]; done) | (exfalso; simp_all; done)), H', ⟨by first | omega | exact Nat.le_refl _⟩, ⟨by repeat (first | (with_reducible first | exact HB.out | apply below_alloc | apply pw_below_drewN | apply below_drew1) | exact HB.out)⟩⟩
      · replace c10 := Bool.eq_false_iff.mpr c10
        subst c10
        have H1 : (laws_FnFloats.j0 k (cn b184) (cn b185) t187 true) = some r := by rw [if_neg (show ¬ (false = true) by decide)] at H; exact H
        clear H
        have H := H1
        clear H1
        have H' := Aside0.mk H
        clear H
        go_wp2
        go_meet
        case rel => exact ⟨_, (true), (by first | rfl | (simp; done) | (simp [*]; done) | (exfalso; simp_all; done)), H', ⟨by first | omega | exact Nat.le_refl _⟩, ⟨by repeat (first | (with_reducible first | exact HB.out | apply below_alloc | apply pw_below_drewN | apply below_drew1) | exact HB.out)⟩⟩
    case rest =>
      clear HC8
      try clear c1
      try clear c2
      try clear p2
      try clear c3
      try clear c10
      try clear c12
      try clear c13
      try clear c13b0
      try clear c13b1
      try clear c15
      try clear c15b0
      try clear c15b1
      obtain ⟨kq, x47_7, rfl, HA, HJ7, HB⟩ := hcut
      cases kq with
      | zero => exact absurd HA.out (by simp [laws_FnFloats.j0])
      | succ kj7 =>
        have H := HA.out
        clear HA
        simp only [laws_FnFloats.j0] at H
        by_cases c17 : x47_7 = true
        · subst c17
          have H1 : (some false) = some r := by rw [if_pos rfl] at H; exact H
          clear H
          have H := H1
          clear H1
          cases (Option.some.inj H).trans hT
        · replace c17 := Bool.eq_false_iff.mpr c17
          subst c17
          have H1 : ((impl_FloatCompare.f (cn b184) (cn b185)).bind fun t194 => (if (fls (cn b184) (cn b185)) = true then (if t194 = (-1) then (if (fgt (cn b184) (cn b185)) = true then (if t194 = 1 then (if (feq (cn b184) (cn b185)) = true then (if t194 = 0 then (if ((feq (cn b184) (cn b184)) = true) then (laws_FnFloats.j1 kj7 (cn b185) t187 t194 false) else (if ((feq (cn b185) (cn b185)) = true) then (if (feq (cn b185) (cn b185)) = true then (laws_FnFloats.j1 kj7 (cn b185) t187 t194 (t194 != 1)) else (laws_FnFloats.j1 kj7 (cn b185) t187 t194 false)) else (if (feq (cn b185) (cn b185)) = true then (laws_FnFloats.j1 kj7 (cn b185) t187 t194 (t194 != 1)) else (laws_FnFloats.j1 kj7 (cn b185) t187 t194 false)))) else (laws_FnFloats.j1 kj7 (cn b185) t187 t194 true)) else (if ((feq (cn b184) (cn b184)) = true) then (laws_FnFloats.j1 kj7 (cn b185) t187 t194 false) else (if ((feq (cn b185) (cn b185)) = true) then (if (feq (cn b185) (cn b185)) = true then (laws_FnFloats.j1 kj7 (cn b185) t187 t194 (t194 != 1)) else (laws_FnFloats.j1 kj7 (cn b185) t187 t194 false)) else (if t194 = 0 then (if (feq (cn b185) (cn b185)) = true then (laws_FnFloats.j1 kj7 (cn b185) t187 t194 (t194 != 1)) else (laws_FnFloats.j1 kj7 (cn b185) t187 t194 false)) else (laws_FnFloats.j1 kj7 (cn b185) t187 t194 true))))) else (laws_FnFloats.j1 kj7 (cn b185) t187 t194 true)) else (if (feq (cn b184) (cn b185)) = true then (if t194 = 0 then (if ((feq (cn b184) (cn b184)) = true) then (laws_FnFloats.j1 kj7 (cn b185) t187 t194 false) else (if ((feq (cn b185) (cn b185)) = true) then (if (feq (cn b185) (cn b185)) = true then (laws_FnFloats.j1 kj7 (cn b185) t187 t194 (t194 != 1)) else (laws_FnFloats.j1 kj7 (cn b185) t187 t194 false)) else (if (feq (cn b185) (cn b185)) = true then (laws_FnFloats.j1 kj7 (cn b185) t187 t194 (t194 != 1)) else (laws_FnFloats.j1 kj7 (cn b185) t187 t194 false)))) else (laws_FnFloats.j1 kj7 (cn b185) t187 t194 true)) else (if ((feq (cn b184) (cn b184)) = true) then (laws_FnFloats.j1 kj7 (cn b185) t187 t194 false) else (if ((feq (cn b185) (cn b185)) = true) then (if (feq (cn b185) (cn b185)) = true then (laws_FnFloats.j1 kj7 (cn b185) t187 t194 (t194 != 1)) else (laws_FnFloats.j1 kj7 (cn b185) t187 t194 false)) else (if t194 = 0 then (if (feq (cn b185) (cn b185)) = true then (laws_FnFloats.j1 kj7 (cn b185) t187 t194 (t194 != 1)) else (laws_FnFloats.j1 kj7 (cn b185) t187 t194 false)) else (laws_FnFloats.j1 kj7 (cn b185) t187 t194 true)))))) else (laws_FnFloats.j1 kj7 (cn b185) t187 t194 true)) else (if (fgt (cn b184) (cn b185)) = true then (if t194 = 1 then (if (feq (cn b184) (cn b185)) = true then (if t194 = 0 then (if ((feq (cn b184) (cn b184)) = true) then (laws_FnFloats.j1 kj7 (cn b185) t187 t194 false) else (if ((feq (cn b185) (cn b185)) = true) then (if (feq (cn b185) (cn b185)) = true then (laws_FnFloats.j1 kj7 (cn b185) t187 t194 (t194 != 1)) else (laws_FnFloats.j1 kj7 (cn b185) t187 t194 false)) else (if (feq (cn b185) (cn b185)) = true then (laws_FnFloats.j1 kj7 (cn b185) t187 t194 (t194 != 1)) else (laws_FnFloats.j1 kj7 (cn b185) t187 t194 false)))) else (laws_FnFloats.j1 kj7 (cn b185) t187 t194 true)) else (if ((feq (cn b184) (cn b184)) = true) then (laws_FnFloats.j1 kj7 (cn b185) t187 t194 false) else (if ((feq (cn b185) (cn b185)) = true) then (if (feq (cn b185) (cn b185)) = true then (laws_FnFloats.j1 kj7 (cn b185) t187 t194 (t194 != 1)) else (laws_FnFloats.j1 kj7 (cn b185) t187 t194 false)) else (if t194 = 0 then (if (feq (cn b185) (cn b185)) = true then (laws_FnFloats.j1 kj7 (cn b185) t187 t194 (t194 != 1)) else (laws_FnFloats.j1 kj7 (cn b185) t187 t194 false)) else (laws_FnFloats.j1 kj7 (cn b185) t187 t194 true))))) else (laws_FnFloats.j1 kj7 (cn b185) t187 t194 true)) else (if (feq (cn b184) (cn b185)) = true then (if t194 = 0 then (if ((feq (cn b184) (cn b184)) = true) then (laws_FnFloats.j1 kj7 (cn b185) t187 t194 false) else (if ((feq (cn b185) (cn b185)) = true) then (if (feq (cn b185) (cn b185)) = true then (laws_FnFloats.j1 kj7 (cn b185) t187 t194 (t194 != 1)) else (laws_FnFloats.j1 kj7 (cn b185) t187 t194 false)) else (if (feq (cn b185) (cn b185)) = true then (laws_FnFloats.j1 kj7 (cn b185) t187 t194 (t194 != 1)) else (laws_FnFloats.j1 kj7 (cn b185) t187 t194 false)))) else (laws_FnFloats.j1 kj7 (cn b185) t187 t194 true)) else (if ((feq (cn b184) (cn b184)) = true) then (laws_FnFloats.j1 kj7 (cn b185) t187 t194 false) else (if ((feq (cn b185) (cn b185)) = true) then (if (feq (cn b185) (cn b185)) = true then (laws_FnFloats.j1 kj7 (cn b185) t187 t194 (t194 != 1)) else (laws_FnFloats.j1 kj7 (cn b185) t187 t194 false)) else (if t194 = 0 then (if (feq (cn b185) (cn b185)) = true then (laws_FnFloats.j1 kj7 (cn b185) t187 t194 (t194 != 1)) else (laws_FnFloats.j1 kj7 (cn b185) t187 t194 false)) else (laws_FnFloats.j1 kj7 (cn b185) t187 t194 true)))))))) = some r := by rw [if_neg (show ¬ (false = true) by decide)] at H; exact H
          clear H
          have H := H1
          clear H1
          replace H := Option.bind_eq_some_iff.mp H
          obtain ⟨t194, A180, H⟩ := H
          replace H : (if (fls (cn b184) (cn b185)) = true then (if t194 = (-1) then (if (fgt (cn b184) (cn b185)) = true then (if t194 = 1 then (if (feq (cn b184) (cn b185)) = true then (if t194 = 0 then (if ((feq (cn b184) (cn b184)) = true) then (laws_FnFloats.j1 kj7 (cn b185) t187 t194 false) else (if ((feq (cn b185) (cn b185)) = true) then (if (feq (cn b185) (cn b185)) = true then (laws_FnFloats.j1 kj7 (cn b185) t187 t194 (t194 != 1)) else (laws_FnFloats.j1 kj7 (cn b185) t187 t194 false)) else (if (feq (cn b185) (cn b185)) = true then (laws_FnFloats.j1 kj7 (cn b185) t187 t194 (t194 != 1)) else (laws_FnFloats.j1 kj7 (cn b185) t187 t194 false)))) else (laws_FnFloats.j1 kj7 (cn b185) t187 t194 true)) else (if ((feq (cn b184) (cn b184)) = true) then (laws_FnFloats.j1 kj7 (cn b185) t187 t194 false) else (if ((feq (cn b185) (cn b185)) = true) then (if (feq (cn b185) (cn b185)) = true then (laws_FnFloats.j1 kj7 (cn b185) t187 t194 (t194 != 1)) else (laws_FnFloats.j1 kj7 (cn b185) t187 t194 false)) else (if t194 = 0 then (if (feq (cn b185) (cn b185)) = true then (laws_FnFloats.j1 kj7 (cn b185) t187 t194 (t194 != 1)) else (laws_FnFloats.j1 kj7 (cn b185) t187 t194 false)) else (laws_FnFloats.j1 kj7 (cn b185) t187 t194 true))))) else (laws_FnFloats.j1 kj7 (cn b185) t187 t194 true)) else (if (feq (cn b184) (cn b185)) = true then (if t194 = 0 then (if ((feq (cn b184) (cn b184)) = true) then (laws_FnFloats.j1 kj7 (cn b185) t187 t194 false) else (if ((feq (cn b185) (cn b185)) = true) then (if (feq (cn b185) (cn b185)) = true then (laws_FnFloats.j1 kj7 (cn b185) t187 t194 (t194 != 1)) else (laws_FnFloats.j1 kj7 (cn b185) t187 t194 false)) else (if (feq (cn b185) (cn b185)) = true then (laws_FnFloats.j1 kj7 (cn b185) t187 t194 (t194 != 1)) else (laws_FnFloats.j1 kj7 (cn b185) t187 t194 false)))) else (laws_FnFloats.j1 kj7 (cn b185) t187 t194 true)) else (if ((feq (cn b184) (cn b184)) = true) then (laws_FnFloats.j1 kj7 (cn b185) t187 t194 false) else (if ((feq (cn b185) (cn b185)) = true) then (if (feq (cn b185) (cn b185)) = true then (laws_FnFloats.j1 kj7 (cn b185) t187 t194 (t194 != 1)) else (laws_FnFloats.j1 kj7 (cn b185) t187 t194 false)) else (if t194 = 0 then (if (feq (cn b185) (cn b185)) = true then (laws_FnFloats.j1 kj7 (cn b185) t187 t194 (t194 != 1)) else (laws_FnFloats.j1 kj7 (cn b185) t187 t194 false)) else (laws_FnFloats.j1 kj7 (cn b185) t187 t194 true)))))) else (laws_FnFloats.j1 kj7 (cn b185) t187 t194 true)) else (if (fgt (cn b184) (cn b185)) = true then (if t194 = 1 then (if (feq (cn b184) (cn b185)) = true then (if t194 = 0 then (if ((feq (cn b184) (cn b184)) = true) then (laws_FnFloats.j1 kj7 (cn b185) t187 t194 false) else (if ((feq (cn b185) (cn b185)) = true) then (if (feq (cn b185) (cn b185)) = true then (laws_FnFloats.j1 kj7 (cn b185) t187 t194 (t194 != 1)) else (laws_FnFloats.j1 kj7 (cn b185) t187 t194 false)) else (if (feq (cn b185) (cn b185)) = true then (laws_FnFloats.j1 kj7 (cn b185) t187 t194 (t194 != 1)) else (laws_FnFloats.j1 kj7 (cn b185) t187 t194 false)))) else (laws_FnFloats.j1 kj7 (cn b185) t187 t194 true)) else (if ((feq (cn b184) (cn b184)) = true) then (laws_FnFloats.j1 kj7 (cn b185) t187 t194 false) else (if ((feq (cn b185) (cn b185)) = true) then (if (feq (cn b185) (cn b185)) = true then (laws_FnFloats.j1 kj7 (cn b185) t187 t194 (t194 != 1)) else (laws_FnFloats.j1 kj7 (cn b185) t187 t194 false)) else (if t194 = 0 then (if (feq (cn b185) (cn b185)) = true then (laws_FnFloats.j1 kj7 (cn b185) t187 t194 (t194 != 1)) else (laws_FnFloats.j1 kj7 (cn b185) t187 t194 false)) else (laws_FnFloats.j1 kj7 (cn b185) t187 t194 true))))) else (laws_FnFloats.j1 kj7 (cn b185) t187 t194 true)) else (if (feq (cn b184) (cn b185)) = true then (if t194 = 0 then (if ((feq (cn b184) (cn b184)) = true) then (laws_FnFloats.j1 kj7 (cn b185) t187 t194 false) else (if ((feq (cn b185) (cn b185)) = true) then (if (feq (cn b185) (cn b185)) = true then (laws_FnFloats.j1 kj7 (cn b185) t187 t194 (t194 != 1)) else (laws_FnFloats.j1 kj7 (cn b185) t187 t194 false)) else (if (feq (cn b185) (cn b185)) = true then (laws_FnFloats.j1 kj7 (cn b185) t187 t194 (t194 != 1)) else (laws_FnFloats.j1 kj7 (cn b185) t187 t194 false)))) else (laws_FnFloats.j1 kj7 (cn b185) t187 t194 true)) else (if ((feq (cn b184) (cn b184)) = true) then (laws_FnFloats.j1 kj7 (cn b185) t187 t194 false) else (if ((feq (cn b185) (cn b185)) = true) then (if (feq (cn b185) (cn b185)) = true then (laws_FnFloats.j1 kj7 (cn b185) t187 t194 (t194 != 1)) else (laws_FnFloats.j1 kj7 (cn b185) t187 t194 false)) else (if t194 = 0 then (if (feq (cn b185) (cn b185)) = true then (laws_FnFloats.j1 kj7 (cn b185) t187 t194 (t194 != 1)) else (laws_FnFloats.j1 kj7 (cn b185) t187 t194 false)) else (laws_FnFloats.j1 kj7 (cn b185) t187 t194 true))))))) = some r := H
          have A18 := Aside0.mk A180
          clear A180
          have HC19 := Aside0.mk H
          clear H
          go_upto_region 10 with (first | ((with_reducible refine gate_callee (f := 23) rfl ?_); refine goesL_ (some 50) rfl rfl Try.func23 (by kernel_rfl) rfl #[.float .f64 b184, .float .f64 b185] rfl (by (try simp only [List.map_toArray, List.map_cons, List.map_nil]); first | done | rfl | (simp only [List.length_drop, List.length_take]; rfl)) ?_; (with_reducible refine (impl_FloatCompare.calls b184 b185 t194 _ ((impl_FloatCompare.inv1 _ _).symm.trans ((impl_FloatCompare.inv0 _ _).symm.trans A18.out))).mono ?_); rintro e w' ⟨rfl, ⟨nd, rfl⟩⟩; refine ⟨_, rfl, ?_⟩))
          (try simp only [Act.put, List.setIfInBounds_toArray, List.set_cons_zero, List.set_cons_succ])
          go_cut [103] (fun v103 wc => ∃ (kq : Nat) (x103_18 : Bool), v103 = .bool x103_18 ∧ Aside0 (laws_FnFloats.j1 kq (cn b185) t187 t194 x103_18 = some r) ∧ Aside0 (kq ≤ kj7) ∧ Aside0 (Below w.heap.size w wc))
          case first =>
            have H := HC19.out
            clear HC19
            by_cases c20 : (fls (cn b184) (cn b185)) = true
            · rw [if_pos c20] at H
              have c20b0 : (fls b184 b185) = true := (by have q_ : (fls (cn b184) (cn b185)) = true := (c20); simp only [feq_cn_l, feq_cn_r, fls_cn_l, fls_cn_r, fgt_cn_l, fgt_cn_r, fle_cn_l, fle_cn_r, fge_cn_l, fge_cn_r] at q_; exact q_)
              clear c20
              (first | rw [c20b0] | (simp only [i64_w, i32_w]; rw [c20b0]) | skip)
              by_cases c21 : t194 = (-1)
              · rw [if_pos c21] at H
                have c21b0 : (t194 == (-1)) = true := beq_iff_eq.mpr c21
                have c21b1 : (t194 != (-1)) = false := bne_eq_false_iff_eq.mpr c21
                clear c21
                by_cases c22 : (fgt (cn b184) (cn b185)) = true
                · rw [if_pos c22] at H
                  have c22b0 : (fgt b184 b185) = true := (by have q_ : (fgt (cn b184) (cn b185)) = true := (c22); simp only [feq_cn_l, feq_cn_r, fls_cn_l, fls_cn_r, fgt_cn_l, fgt_cn_r, fle_cn_l, fle_cn_r, fge_cn_l, fge_cn_r] at q_; exact q_)
                  clear c22
                  by_cases c23 : t194 = 1
                  · rw [if_pos c23] at H
                    have c23b0 : (t194 == 1) = true := beq_iff_eq.mpr c23
                    have c23b1 : (t194 != 1) = false := bne_eq_false_iff_eq.mpr c23
                    clear c23
                    by_cases c24 : (feq (cn b184) (cn b185)) = true
                    · rw [if_pos c24] at H
                      have c24b0 : (feq b184 b185) = true := (by have q_ : (feq (cn b184) (cn b185)) = true := (c24); simp only [feq_cn_l, feq_cn_r, fls_cn_l, fls_cn_r, fgt_cn_l, fgt_cn_r, fle_cn_l, fle_cn_r, fge_cn_l, fge_cn_r] at q_; exact q_)
                      clear c24
                      by_cases c25 : t194 = 0
                      · rw [if_pos c25] at H
                        have c25b0 : (t194 == 0) = true := beq_iff_eq.mpr c25
                        have c25b1 : (t194 != 0) = false := bne_eq_false_iff_eq.mpr c25
                        clear c25
                        by_cases c26 : ((feq (cn b184) (cn b184)) = true)
                        · rw [if_pos c26] at H
                          have c26b0 : (feq b184 b184) = true := (by have q_ : (feq (cn b184) (cn b184)) = true := (c26); simp only [feq_cn_l, feq_cn_r, fls_cn_l, fls_cn_r, fgt_cn_l, fgt_cn_r, fle_cn_l, fle_cn_r, fge_cn_l, fge_cn_r] at q_; exact q_)
                          clear c26
                          have H' := Aside0.mk H
                          clear H
                          go_wp2
                          go_meet
                          case rel => exact ⟨_, (false), (by first | rfl | (simp; done) | (simp [*]; done) | (exfalso; simp_all; done)), H', ⟨by have := HJ7.out; first | omega | exact Nat.le_refl _⟩, ⟨by repeat (first | (with_reducible first | exact HB.out | apply below_alloc | apply pw_below_drewN | apply below_drew1) | exact HB.out)⟩⟩
                        · rw [if_neg c26] at H
                          have c26b0 : (feq b184 b184) = false := (by have q_ : (feq (cn b184) (cn b184)) = false := (by simpa using c26); simp only [feq_cn_l, feq_cn_r, fls_cn_l, fls_cn_r, fgt_cn_l, fgt_cn_r, fle_cn_l, fle_cn_r, fge_cn_l, fge_cn_r] at q_; exact q_)
                          clear c26
                          by_cases c27 : ((feq (cn b185) (cn b185)) = true)
                          · rw [if_pos c27] at H
                            have c27b0 : (feq b185 b185) = true := (by have q_ : (feq (cn b185) (cn b185)) = true := (c27); simp only [feq_cn_l, feq_cn_r, fls_cn_l, fls_cn_r, fgt_cn_l, fgt_cn_r, fle_cn_l, fle_cn_r, fge_cn_l, fge_cn_r] at q_; exact q_)
                            clear c27
                            by_cases c28 : (feq (cn b185) (cn b185)) = true
                            · rw [if_pos c28] at H
                              have c28b0 : (feq b185 b185) = true := (by have q_ : (feq (cn b185) (cn b185)) = true := (c28); simp only [feq_cn_l, feq_cn_r, fls_cn_l, fls_cn_r, fgt_cn_l, fgt_cn_r, fle_cn_l, fle_cn_r, fge_cn_l, fge_cn_r] at q_; exact q_)
                              clear c28
                              have H' := Aside0.mk H
                              clear H
                              go_wp2
                              go_meet
                              case rel => exact ⟨_, ((t194 != 1)), (by first | rfl | (simp; done) | (simp [*]; done) | (exfalso; simp_all; done)), H', ⟨by have := HJ7.out; first | omega | exact Nat.le_refl _⟩, ⟨by repeat (first | (with_reducible first | exact HB.out | apply below_alloc | apply pw_below_drewN | apply below_drew1) | exact HB.out)⟩⟩
                            · rw [if_neg c28] at H
                              have c28b0 : (feq b185 b185) = false := (by have q_ : (feq (cn b185) (cn b185)) = false := (by simpa using c28); simp only [feq_cn_l, feq_cn_r, fls_cn_l, fls_cn_r, fgt_cn_l, fgt_cn_r, fle_cn_l, fle_cn_r, fge_cn_l, fge_cn_r] at q_; exact q_)
                              clear c28
                              have H' := Aside0.mk H
                              clear H
                              go_wp2
                              go_meet
                              case rel => exact ⟨_, (false), (by first | rfl | (simp; done) | (simp [*]; done) | (exfalso; simp_all; done)), H', ⟨by have := HJ7.out; first | omega | exact Nat.le_refl _⟩, ⟨by repeat (first | (with_reducible first | exact HB.out | apply below_alloc | apply pw_below_drewN | apply below_drew1) | exact HB.out)⟩⟩
                          · rw [if_neg c27] at H
                            have c27b0 : (feq b185 b185) = false := (by have q_ : (feq (cn b185) (cn b185)) = false := (by simpa using c27); simp only [feq_cn_l, feq_cn_r, fls_cn_l, fls_cn_r, fgt_cn_l, fgt_cn_r, fle_cn_l, fle_cn_r, fge_cn_l, fge_cn_r] at q_; exact q_)
                            clear c27
                            by_cases c29 : (feq (cn b185) (cn b185)) = true
                            · rw [if_pos c29] at H
                              have c29b0 : (feq b185 b185) = true := (by have q_ : (feq (cn b185) (cn b185)) = true := (c29); simp only [feq_cn_l, feq_cn_r, fls_cn_l, fls_cn_r, fgt_cn_l, fgt_cn_r, fle_cn_l, fle_cn_r, fge_cn_l, fge_cn_r] at q_; exact q_)
                              clear c29
                              have H' := Aside0.mk H
                              clear H
                              go_wp2
                              go_meet
                              case rel => exact ⟨_, ((t194 != 1)), (by first | rfl | (simp; done) | (simp [*]; done) | (exfalso; simp_all; done)), H', ⟨by have := HJ7.out; first | omega | exact Nat.le_refl _⟩, ⟨by repeat (first | (with_reducible first | exact HB.out | apply below_alloc | apply pw_below_drewN | apply below_drew1) | exact HB.out)⟩⟩
                            · rw [if_neg c29] at H
                              have c29b0 : (feq b185 b185) = false := (by have q_ : (feq (cn b185) (cn b185)) = false := (by simpa using c29); simp only [feq_cn_l, feq_cn_r, fls_cn_l, fls_cn_r, fgt_cn_l, fgt_cn_r, fle_cn_l, fle_cn_r, fge_cn_l, fge_cn_r] at q_; exact q_)
                              clear c29
                              have H' := Aside0.mk H
                              clear H
                              go_wp2
                              go_meet
                              case rel => exact ⟨_, (false), (by first | rfl | (simp; done) | (simp [*]; done) | (exfalso; simp_all; done)), H', ⟨by have := HJ7.out; first | omega | exact Nat.le_refl _⟩, ⟨by repeat (first | (with_reducible first | exact HB.out | apply below_alloc | apply pw_below_drewN | apply below_drew1) | exact HB.out)⟩⟩
                      · rw [if_neg c25] at H
                        have c25b0 : (t194 == 0) = false := beq_eq_false_iff_ne.mpr c25
                        have c25b1 : (t194 != 0) = true := bne_iff_ne.mpr c25
                        have H' := Aside0.mk H
                        clear H
                        go_wp2
                        go_meet
                        case rel => exact ⟨_, (true), (by first | rfl | (simp; done) | (simp [*]; done) | (exfalso; simp_all; done)), H', ⟨by have := HJ7.out; first | omega | exact Nat.le_refl _⟩, ⟨by repeat (first | (with_reducible first | exact HB.out | apply below_alloc | apply pw_below_drewN | apply below_drew1) | exact HB.out)⟩⟩
                    · rw [if_neg c24] at H
                      have c24b0 : (feq b184 b185) = false := (by have q_ : (feq (cn b184) (cn b185)) = false := (by simpa using c24); simp only [feq_cn_l, feq_cn_r, fls_cn_l, fls_cn_r, fgt_cn_l, fgt_cn_r, fle_cn_l, fle_cn_r, fge_cn_l, fge_cn_r] at q_; exact q_)
                      clear c24
                      by_cases c30 : ((feq (cn b184) (cn b184)) = true)
                      · rw [if_pos c30] at H
                        have c30b0 : (feq b184 b184) = true := (by have q_ : (feq (cn b184) (cn b184)) = true := (c30); simp only [feq_cn_l, feq_cn_r, fls_cn_l, fls_cn_r, fgt_cn_l, fgt_cn_r, fle_cn_l, fle_cn_r, fge_cn_l, fge_cn_r] at q_; exact q_)
                        clear c30
                        have H' := Aside0.mk H
                        clear H
                        go_wp2
                        go_meet
                        case rel => exact ⟨_, (false), (by first | rfl | (simp; done) | (simp [*]; done) | (exfalso; simp_all; done)), H', ⟨by have := HJ7.out; first | omega | exact Nat.le_refl _⟩, ⟨by repeat (first | (with_reducible first | exact HB.out | apply below_alloc | apply pw_below_drewN | apply below_drew1) | exact HB.out)⟩⟩
                      · rw [if_neg c30] at H
                        have c30b0 : (feq b184 b184) = false := (by have q_ : (feq (cn b184) (cn b184)) = false := (by simpa using c30); simp only [feq_cn_l, feq_cn_r, fls_cn_l, fls_cn_r, fgt_cn_l, fgt_cn_r, fle_cn_l, fle_cn_r, fge_cn_l, fge_cn_r] at q_; exact q_)
                        clear c30
                        by_cases c31 : ((feq (cn b185) (cn b185)) = true)
                        · rw [if_pos c31] at H
                          have c31b0 : (feq b185 b185) = true := (by have q_ : (feq (cn b185) (cn b185)) = true := (c31); simp only [feq_cn_l, feq_cn_r, fls_cn_l, fls_cn_r, fgt_cn_l, fgt_cn_r, fle_cn_l, fle_cn_r, fge_cn_l, fge_cn_r] at q_; exact q_)
                          clear c31
                          by_cases c32 : (feq (cn b185) (cn b185)) = true
                          · rw [if_pos c32] at H
                            have c32b0 : (feq b185 b185) = true := (by have q_ : (feq (cn b185) (cn b185)) = true := (c32); simp only [feq_cn_l, feq_cn_r, fls_cn_l, fls_cn_r, fgt_cn_l, fgt_cn_r, fle_cn_l, fle_cn_r, fge_cn_l, fge_cn_r] at q_; exact q_)
                            clear c32
                            have H' := Aside0.mk H
                            clear H
                            go_wp2
                            go_meet
                            case rel => exact ⟨_, ((t194 != 1)), (by first | rfl | (simp; done) | (simp [*]; done) | (exfalso; simp_all; done)), H', ⟨by have := HJ7.out; first | omega | exact Nat.le_refl _⟩, ⟨by repeat (first | (with_reducible first | exact HB.out | apply below_alloc | apply pw_below_drewN | apply below_drew1) | exact HB.out)⟩⟩
                          · rw [if_neg c32] at H
                            have c32b0 : (feq b185 b185) = false := (by have q_ : (feq (cn b185) (cn b185)) = false := (by simpa using c32); simp only [feq_cn_l, feq_cn_r, fls_cn_l, fls_cn_r, fgt_cn_l, fgt_cn_r, fle_cn_l, fle_cn_r, fge_cn_l, fge_cn_r] at q_; exact q_)
                            clear c32
                            have H' := Aside0.mk H
                            clear H
                            go_wp2
                            go_meet
                            case rel => exact ⟨_, (false), (by first | rfl | (simp; done) | (simp [*]; done) | (exfalso; simp_all; done)), H', ⟨by have := HJ7.out; first | omega | exact Nat.le_refl _⟩, ⟨by repeat (first | (with_reducible first | exact HB.out | apply below_alloc | apply pw_below_drewN | apply below_drew1) | exact HB.out)⟩⟩
                        · rw [if_neg c31] at H
                          have c31b0 : (feq b185 b185) = false := (by have q_ : (feq (cn b185) (cn b185)) = false := (by simpa using c31); simp only [feq_cn_l, feq_cn_r, fls_cn_l, fls_cn_r, fgt_cn_l, fgt_cn_r, fle_cn_l, fle_cn_r, fge_cn_l, fge_cn_r] at q_; exact q_)
                          clear c31
                          by_cases c33 : t194 = 0
                          · rw [if_pos c33] at H
                            have c33b0 : (t194 == 0) = true := beq_iff_eq.mpr c33
                            have c33b1 : (t194 != 0) = false := bne_eq_false_iff_eq.mpr c33
                            clear c33
                            by_cases c34 : (feq (cn b185) (cn b185)) = true
                            · rw [if_pos c34] at H
                              have c34b0 : (feq b185 b185) = true := (by have q_ : (feq (cn b185) (cn b185)) = true := (c34); simp only [feq_cn_l, feq_cn_r, fls_cn_l, fls_cn_r, fgt_cn_l, fgt_cn_r, fle_cn_l, fle_cn_r, fge_cn_l, fge_cn_r] at q_; exact q_)
                              clear c34
                              have H' := Aside0.mk H
                              clear H
                              go_wp2
                              go_meet
                              case rel => exact ⟨_, ((t194 != 1)), (by first | rfl | (simp; done) | (simp [*]; done) | (exfalso; simp_all; done)), H', ⟨by have := HJ7.out; first | omega | exact Nat.le_refl _⟩, ⟨by repeat (first | (with_reducible first | exact HB.out | apply below_alloc | apply pw_below_drewN | apply below_drew1) | exact HB.out)⟩⟩
                            · rw [if_neg c34] at H
                              have c34b0 : (feq b185 b185) = false := (by have q_ : (feq (cn b185) (cn b185)) = false := (by simpa using c34); simp only [feq_cn_l, feq_cn_r, fls_cn_l, fls_cn_r, fgt_cn_l, fgt_cn_r, fle_cn_l, fle_cn_r, fge_cn_l, fge_cn_r] at q_; exact q_)
                              clear c34
                              have H' := Aside0.mk H
                              clear H
                              go_wp2
                              go_meet
                              case rel => exact ⟨_, (false), (by first | rfl | (simp; done) | (simp [*]; done) | (exfalso; simp_all; done)), H', ⟨by have := HJ7.out; first | omega | exact Nat.le_refl _⟩, ⟨by repeat (first | (with_reducible first | exact HB.out | apply below_alloc | apply pw_below_drewN | apply below_drew1) | exact HB.out)⟩⟩
                          · rw [if_neg c33] at H
                            have c33b0 : (t194 == 0) = false := beq_eq_false_iff_ne.mpr c33
                            have c33b1 : (t194 != 0) = true := bne_iff_ne.mpr c33
                            have H' := Aside0.mk H
                            clear H
                            go_wp2
                            go_meet
                            case rel => exact ⟨_, (true), (by first | rfl | (simp; done) | (simp [*]; done) | (exfalso; simp_all; done)), H', ⟨by have := HJ7.out; first | omega | exact Nat.le_refl _⟩, ⟨by repeat (first | (with_reducible first | exact HB.out | apply below_alloc | apply pw_below_drewN | apply below_drew1) | exact HB.out)⟩⟩
                  · rw [if_neg c23] at H
                    have c23b0 : (t194 == 1) = false := beq_eq_false_iff_ne.mpr c23
                    have c23b1 : (t194 != 1) = true := bne_iff_ne.mpr c23
                    have H' := Aside0.mk H
                    clear H
                    go_wp2
                    go_meet
                    case rel => exact ⟨_, (true), (by first | rfl | (simp; done) | (simp [*]; done) | (exfalso; simp_all; done)), H', ⟨by have := HJ7.out; first | omega | exact Nat.le_refl _⟩, ⟨by repeat (first | (with_reducible first | exact HB.out | apply below_alloc | apply pw_below_drewN | apply below_drew1) | exact HB.out)⟩⟩
                · rw [if_neg c22] at H
                  have c22b0 : (fgt b184 b185) = false := (by have q_ : (fgt (cn b184) (cn b185)) = false := (by simpa using c22); simp only [feq_cn_l, feq_cn_r, fls_cn_l, fls_cn_r, fgt_cn_l, fgt_cn_r, fle_cn_l, fle_cn_r, fge_cn_l, fge_cn_r] at q_; exact q_)
                  clear c22
                  by_cases c35 : (feq (cn b184) (cn b185)) = true
                  · rw [if_pos c35] at H
                    have c35b0 : (feq b184 b185) = true := (by have q_ : (feq (cn b184) (cn b185)) = true := (c35); simp only [feq_cn_l, feq_cn_r, fls_cn_l, fls_cn_r, fgt_cn_l, fgt_cn_r, fle_cn_l, fle_cn_r, fge_cn_l, fge_cn_r] at q_; exact q_)
                    clear c35
                    by_cases c36 : t194 = 0
                    · rw [if_pos c36] at H
                      have c36b0 : (t194 == 0) = true := beq_iff_eq.mpr c36
                      have c36b1 : (t194 != 0) = false := bne_eq_false_iff_eq.mpr c36
                      clear c36
                      by_cases c37 : ((feq (cn b184) (cn b184)) = true)
                      · rw [if_pos c37] at H
                        have c37b0 : (feq b184 b184) = true := (by have q_ : (feq (cn b184) (cn b184)) = true := (c37); simp only [feq_cn_l, feq_cn_r, fls_cn_l, fls_cn_r, fgt_cn_l, fgt_cn_r, fle_cn_l, fle_cn_r, fge_cn_l, fge_cn_r] at q_; exact q_)
                        clear c37
                        have H' := Aside0.mk H
                        clear H
                        go_wp2
                        go_meet
                        case rel => exact ⟨_, (false), (by first | rfl | (simp; done) | (simp [*]; done) | (exfalso; simp_all; done)), H', ⟨by have := HJ7.out; first | omega | exact Nat.le_refl _⟩, ⟨by repeat (first | (with_reducible first | exact HB.out | apply below_alloc | apply pw_below_drewN | apply below_drew1) | exact HB.out)⟩⟩
                      · rw [if_neg c37] at H
                        have c37b0 : (feq b184 b184) = false := (by have q_ : (feq (cn b184) (cn b184)) = false := (by simpa using c37); simp only [feq_cn_l, feq_cn_r, fls_cn_l, fls_cn_r, fgt_cn_l, fgt_cn_r, fle_cn_l, fle_cn_r, fge_cn_l, fge_cn_r] at q_; exact q_)
                        clear c37
                        by_cases c38 : ((feq (cn b185) (cn b185)) = true)
                        · rw [if_pos c38] at H
                          have c38b0 : (feq b185 b185) = true := (by have q_ : (feq (cn b185) (cn b185)) = true := (c38); simp only [feq_cn_l, feq_cn_r, fls_cn_l, fls_cn_r, fgt_cn_l, fgt_cn_r, fle_cn_l, fle_cn_r, fge_cn_l, fge_cn_r] at q_; exact q_)
                          clear c38
                          by_cases c39 : (feq (cn b185) (cn b185)) = true
                          · rw [if_pos c39] at H
                            have c39b0 : (feq b185 b185) = true := (by have q_ : (feq (cn b185) (cn b185)) = true := (c39); simp only [feq_cn_l, feq_cn_r, fls_cn_l, fls_cn_r, fgt_cn_l, fgt_cn_r, fle_cn_l, fle_cn_r, fge_cn_l, fge_cn_r] at q_; exact q_)
                            clear c39
                            have H' := Aside0.mk H
                            clear H
                            go_wp2
                            go_meet
                            case rel => exact ⟨_, ((t194 != 1)), (by first | rfl | (simp; done) | (simp [*]; done) | (exfalso; simp_all; done)), H', ⟨by have := HJ7.out; first | omega | exact Nat.le_refl _⟩, ⟨by repeat (first | (with_reducible first | exact HB.out | apply below_alloc | apply pw_below_drewN | apply below_drew1) | exact HB.out)⟩⟩
                          · rw [if_neg c39] at H
                            have c39b0 : (feq b185 b185) = false := (by have q_ : (feq (cn b185) (cn b185)) = false := (by simpa using c39); simp only [feq_cn_l, feq_cn_r, fls_cn_l, fls_cn_r, fgt_cn_l, fgt_cn_r, fle_cn_l, fle_cn_r, fge_cn_l, fge_cn_r] at q_; exact q_)
                            clear c39
                            have H' := Aside0.mk H
                            clear H
                            go_wp2
                            go_meet
                            case rel => exact ⟨_, (false), (by first | rfl | (simp; done) | (simp [*]; done) | (exfalso; simp_all; done)), H', ⟨by have := HJ7.out; first | omega | exact Nat.le_refl _⟩, ⟨by repeat (first | (with_reducible first | exact HB.out | apply below_alloc | apply pw_below_drewN | apply below_drew1) | exact HB.out)⟩⟩
                        · rw [if_neg c38] at H
                          have c38b0 : (feq b185 b185) = false := (by have q_ : (feq (cn b185) (cn b185)) = false := (by simpa using c38); simp only [feq_cn_l, feq_cn_r, fls_cn_l, fls_cn_r, fgt_cn_l, fgt_cn_r, fle_cn_l, fle_cn_r, fge_cn_l, fge_cn_r] at q_; exact q_)
                          clear c38
                          by_cases c40 : (feq (cn b185) (cn b185)) = true
                          · rw [if_pos c40] at H
                            have c40b0 : (feq b185 b185) = true := (by have q_ : (feq (cn b185) (cn b185)) = true := (c40); simp only [feq_cn_l, feq_cn_r, fls_cn_l, fls_cn_r, fgt_cn_l, fgt_cn_r, fle_cn_l, fle_cn_r, fge_cn_l, fge_cn_r] at q_; exact q_)
                            clear c40
                            have H' := Aside0.mk H
                            clear H
                            go_wp2
                            go_meet
                            case rel => exact ⟨_, ((t194 != 1)), (by first | rfl | (simp; done) | (simp [*]; done) | (exfalso; simp_all; done)), H', ⟨by have := HJ7.out; first | omega | exact Nat.le_refl _⟩, ⟨by repeat (first | (with_reducible first | exact HB.out | apply below_alloc | apply pw_below_drewN | apply below_drew1) | exact HB.out)⟩⟩
                          · rw [if_neg c40] at H
                            have c40b0 : (feq b185 b185) = false := (by have q_ : (feq (cn b185) (cn b185)) = false := (by simpa using c40); simp only [feq_cn_l, feq_cn_r, fls_cn_l, fls_cn_r, fgt_cn_l, fgt_cn_r, fle_cn_l, fle_cn_r, fge_cn_l, fge_cn_r] at q_; exact q_)
                            clear c40
                            have H' := Aside0.mk H
                            clear H
                            go_wp2
                            go_meet
                            case rel => exact ⟨_, (false), (by first | rfl | (simp; done) | (simp [*]; done) | (exfalso; simp_all; done)), H', ⟨by have := HJ7.out; first | omega | exact Nat.le_refl _⟩, ⟨by repeat (first | (with_reducible first | exact HB.out | apply below_alloc | apply pw_below_drewN | apply below_drew1) | exact HB.out)⟩⟩
                    · rw [if_neg c36] at H
                      have c36b0 : (t194 == 0) = false := beq_eq_false_iff_ne.mpr c36
                      have c36b1 : (t194 != 0) = true := bne_iff_ne.mpr c36
                      have H' := Aside0.mk H
                      clear H
                      go_wp2
                      go_meet
                      case rel => exact ⟨_, (true), (by first | rfl | (simp; done) | (simp [*]; done) | (exfalso; simp_all; done)), H', ⟨by have := HJ7.out; first | omega | exact Nat.le_refl _⟩, ⟨by repeat (first | (with_reducible first | exact HB.out | apply below_alloc | apply pw_below_drewN | apply below_drew1) | exact HB.out)⟩⟩
                  · rw [if_neg c35] at H
                    have c35b0 : (feq b184 b185) = false := (by have q_ : (feq (cn b184) (cn b185)) = false := (by simpa using c35); simp only [feq_cn_l, feq_cn_r, fls_cn_l, fls_cn_r, fgt_cn_l, fgt_cn_r, fle_cn_l, fle_cn_r, fge_cn_l, fge_cn_r] at q_; exact q_)
                    clear c35
                    by_cases c41 : ((feq (cn b184) (cn b184)) = true)
                    · rw [if_pos c41] at H
                      have c41b0 : (feq b184 b184) = true := (by have q_ : (feq (cn b184) (cn b184)) = true := (c41); simp only [feq_cn_l, feq_cn_r, fls_cn_l, fls_cn_r, fgt_cn_l, fgt_cn_r, fle_cn_l, fle_cn_r, fge_cn_l, fge_cn_r] at q_; exact q_)
                      clear c41
                      have H' := Aside0.mk H
                      clear H
                      go_wp2
                      go_meet
                      case rel => exact ⟨_, (false), (by first | rfl | (simp; done) | (simp [*]; done) | (exfalso; simp_all; done)), H', ⟨by have := HJ7.out; first | omega | exact Nat.le_refl _⟩, ⟨by repeat (first | (with_reducible first | exact HB.out | apply below_alloc | apply pw_below_drewN | apply below_drew1) | exact HB.out)⟩⟩
                    · rw [if_neg c41] at H
                      have c41b0 : (feq b184 b184) = false := (by have q_ : (feq (cn b184) (cn b184)) = false := (by simpa using c41); simp only [feq_cn_l, feq_cn_r, fls_cn_l, fls_cn_r, fgt_cn_l, fgt_cn_r, fle_cn_l, fle_cn_r, fge_cn_l, fge_cn_r] at q_; exact q_)
                      clear c41
                      by_cases c42 : ((feq (cn b185) (cn b185)) = true)
                      · rw [if_pos c42] at H
                        have c42b0 : (feq b185 b185) = true := (by have q_ : (feq (cn b185) (cn b185)) = true := (c42); simp only [feq_cn_l, feq_cn_r, fls_cn_l, fls_cn_r, fgt_cn_l, fgt_cn_r, fle_cn_l, fle_cn_r, fge_cn_l, fge_cn_r] at q_; exact q_)
                        clear c42
                        by_cases c43 : (feq (cn b185) (cn b185)) = true
                        · rw [if_pos c43] at H
                          have c43b0 : (feq b185 b185) = true := (by have q_ : (feq (cn b185) (cn b185)) = true := (c43); simp only [feq_cn_l, feq_cn_r, fls_cn_l, fls_cn_r, fgt_cn_l, fgt_cn_r, fle_cn_l, fle_cn_r, fge_cn_l, fge_cn_r] at q_; exact q_)
                          clear c43
                          have H' := Aside0.mk H
                          clear H
                          go_wp2
                          go_meet
                          case rel => exact ⟨_, ((t194 != 1)), (by first | rfl | (simp; done) | (simp [*]; done) | (exfalso; simp_all; done)), H', ⟨by have := HJ7.out; first | omega | exact Nat.le_refl _⟩, ⟨by repeat (first | (with_reducible first | exact HB.out | apply below_alloc | apply pw_below_drewN | apply below_drew1) | exact HB.out)⟩⟩
                        · rw [if_neg c43] at H
                          have c43b0 : (feq b185 b185) = false := (by have q_ : (feq (cn b185) (cn b185)) = false := (by simpa using c43); simp only [feq_cn_l, feq_cn_r, fls_cn_l, fls_cn_r, fgt_cn_l, fgt_cn_r, fle_cn_l, fle_cn_r, fge_cn_l, fge_cn_r] at q_; exact q_)
                          clear c43
                          have H' := Aside0.mk H
                          clear H
                          go_wp2
                          go_meet
                          case rel => exact ⟨_, (false), (by first | rfl | (simp; done) | (simp [*]; done) | (exfalso; simp_all; done)), H', ⟨by have := HJ7.out; first | omega | exact Nat.le_refl _⟩, ⟨by repeat (first | (with_reducible first | exact HB.out | apply below_alloc | apply pw_below_drewN | apply below_drew1) | exact HB.out)⟩⟩
                      · rw [if_neg c42] at H
                        have c42b0 : (feq b185 b185) = false := (by have q_ : (feq (cn b185) (cn b185)) = false := (by simpa using c42); simp only [feq_cn_l, feq_cn_r, fls_cn_l, fls_cn_r, fgt_cn_l, fgt_cn_r, fle_cn_l, fle_cn_r, fge_cn_l, fge_cn_r] at q_; exact q_)
                        clear c42
                        by_cases c44 : t194 = 0
                        · rw [if_pos c44] at H
                          have c44b0 : (t194 == 0) = true := beq_iff_eq.mpr c44
                          have c44b1 : (t194 != 0) = false := bne_eq_false_iff_eq.mpr c44
                          clear c44
                          by_cases c45 : (feq (cn b185) (cn b185)) = true
                          · rw [if_pos c45] at H
                            have c45b0 : (feq b185 b185) = true := (by have q_ : (feq (cn b185) (cn b185)) = true := (c45); simp only [feq_cn_l, feq_cn_r, fls_cn_l, fls_cn_r, fgt_cn_l, fgt_cn_r, fle_cn_l, fle_cn_r, fge_cn_l, fge_cn_r] at q_; exact q_)
                            clear c45
                            have H' := Aside0.mk H
                            clear H
                            go_wp2
                            go_meet
                            case rel => exact ⟨_, ((t194 != 1)), (by first | rfl | (simp; done) | (simp [*]; done) | (exfalso; simp_all; done)), H', ⟨by have := HJ7.out; first | omega | exact Nat.le_refl _⟩, ⟨by repeat (first | (with_reducible first | exact HB.out | apply below_alloc | apply pw_below_drewN | apply below_drew1) | exact HB.out)⟩⟩
                          · rw [if_neg c45] at H
                            have c45b0 : (feq b185 b185) = false := (by have q_ : (feq (cn b185) (cn b185)) = false := (by simpa using c45); simp only [feq_cn_l, feq_cn_r, fls_cn_l, fls_cn_r, fgt_cn_l, fgt_cn_r, fle_cn_l, fle_cn_r, fge_cn_l, fge_cn_r] at q_; exact q_)
                            clear c45
                            have H' := Aside0.mk H
                            clear H
                            go_wp2
                            go_meet
                            case rel => exact ⟨_, (false), (by first | rfl | (simp; done) | (simp [*]; done) | (exfalso; simp_all; done)), H', ⟨by have := HJ7.out; first | omega | exact Nat.le_refl _⟩, ⟨by repeat (first | (with_reducible first | exact HB.out | apply below_alloc | apply pw_below_drewN | apply below_drew1) | exact HB.out)⟩⟩
                        · rw [if_neg c44] at H
                          have c44b0 : (t194 == 0) = false := beq_eq_false_iff_ne.mpr c44
                          have c44b1 : (t194 != 0) = true := bne_iff_ne.mpr c44
                          have H' := Aside0.mk H
                          clear H
                          go_wp2
                          go_meet
                          case rel => exact ⟨_, (true), (by first | rfl | (simp; done) | (simp [*]; done) | (exfalso; simp_all; done)), H', ⟨by have := HJ7.out; first | omega | exact Nat.le_refl _⟩, ⟨by repeat (first | (with_reducible first | exact HB.out | apply below_alloc | apply pw_below_drewN | apply below_drew1) | exact HB.out)⟩⟩
              · rw [if_neg c21] at H
                have c21b0 : (t194 == (-1)) = false := beq_eq_false_iff_ne.mpr c21
                have c21b1 : (t194 != (-1)) = true := bne_iff_ne.mpr c21
                have H' := Aside0.mk H
                clear H
                go_wp2
                go_meet
                case rel => exact ⟨_, (true), (by first | rfl | (simp; done) | (simp [*]; done) | (exfalso; simp_all; done)), H', ⟨by have := HJ7.out; first | omega | exact Nat.le_refl _⟩, ⟨by repeat (first | (with_reducible first | exact HB.out | apply below_alloc | apply pw_below_drewN | apply below_drew1) | exact HB.out)⟩⟩
            · rw [if_neg c20] at H
              have c20b0 : (fls b184 b185) = false := (by have q_ : (fls (cn b184) (cn b185)) = false := (by simpa using c20); simp only [feq_cn_l, feq_cn_r, fls_cn_l, fls_cn_r, fgt_cn_l, fgt_cn_r, fle_cn_l, fle_cn_r, fge_cn_l, fge_cn_r] at q_; exact q_)
              clear c20
              (first | rw [c20b0] | (simp only [i64_w, i32_w]; rw [c20b0]) | skip)
              by_cases c46 : (fgt (cn b184) (cn b185)) = true
              · rw [if_pos c46] at H
                have c46b0 : (fgt b184 b185) = true := (by have q_ : (fgt (cn b184) (cn b185)) = true := (c46); simp only [feq_cn_l, feq_cn_r, fls_cn_l, fls_cn_r, fgt_cn_l, fgt_cn_r, fle_cn_l, fle_cn_r, fge_cn_l, fge_cn_r] at q_; exact q_)
                clear c46
                by_cases c47 : t194 = 1
                · rw [if_pos c47] at H
                  have c47b0 : (t194 == 1) = true := beq_iff_eq.mpr c47
                  have c47b1 : (t194 != 1) = false := bne_eq_false_iff_eq.mpr c47
                  clear c47
                  by_cases c48 : (feq (cn b184) (cn b185)) = true
                  · rw [if_pos c48] at H
                    have c48b0 : (feq b184 b185) = true := (by have q_ : (feq (cn b184) (cn b185)) = true := (c48); simp only [feq_cn_l, feq_cn_r, fls_cn_l, fls_cn_r, fgt_cn_l, fgt_cn_r, fle_cn_l, fle_cn_r, fge_cn_l, fge_cn_r] at q_; exact q_)
                    clear c48
                    by_cases c49 : t194 = 0
                    · rw [if_pos c49] at H
                      have c49b0 : (t194 == 0) = true := beq_iff_eq.mpr c49
                      have c49b1 : (t194 != 0) = false := bne_eq_false_iff_eq.mpr c49
                      clear c49
                      by_cases c50 : ((feq (cn b184) (cn b184)) = true)
                      · rw [if_pos c50] at H
                        have c50b0 : (feq b184 b184) = true := (by have q_ : (feq (cn b184) (cn b184)) = true := (c50); simp only [feq_cn_l, feq_cn_r, fls_cn_l, fls_cn_r, fgt_cn_l, fgt_cn_r, fle_cn_l, fle_cn_r, fge_cn_l, fge_cn_r] at q_; exact q_)
                        clear c50
                        have H' := Aside0.mk H
                        clear H
                        go_wp2
                        go_meet
                        case rel => exact ⟨_, (false), (by first | rfl | (simp; done) | (simp [*]; done) | (exfalso; simp_all; done)), H', ⟨by have := HJ7.out; first | omega | exact Nat.le_refl _⟩, ⟨by repeat (first | (with_reducible first | exact HB.out | apply below_alloc | apply pw_below_drewN | apply below_drew1) | exact HB.out)⟩⟩
                      · rw [if_neg c50] at H
                        have c50b0 : (feq b184 b184) = false := (by have q_ : (feq (cn b184) (cn b184)) = false := (by simpa using c50); simp only [feq_cn_l, feq_cn_r, fls_cn_l, fls_cn_r, fgt_cn_l, fgt_cn_r, fle_cn_l, fle_cn_r, fge_cn_l, fge_cn_r] at q_; exact q_)
                        clear c50
                        by_cases c51 : ((feq (cn b185) (cn b185)) = true)
                        · rw [if_pos c51] at H
                          have c51b0 : (feq b185 b185) = true := (by have q_ : (feq (cn b185) (cn b185)) = true := (c51); simp only [feq_cn_l, feq_cn_r, fls_cn_l, fls_cn_r, fgt_cn_l, fgt_cn_r, fle_cn_l, fle_cn_r, fge_cn_l, fge_cn_r] at q_; exact q_)
                          clear c51
                          by_cases c52 : (feq (cn b185) (cn b185)) = true
                          · rw [if_pos c52] at H
                            have c52b0 : (feq b185 b185) = true := (by have q_ : (feq (cn b185) (cn b185)) = true := (c52); simp only [feq_cn_l, feq_cn_r, fls_cn_l, fls_cn_r, fgt_cn_l, fgt_cn_r, fle_cn_l, fle_cn_r, fge_cn_l, fge_cn_r] at q_; exact q_)
                            clear c52
                            have H' := Aside0.mk H
                            clear H
                            go_wp2
                            go_meet
                            case rel => exact ⟨_, ((t194 != 1)), (by first | rfl | (simp; done) | (simp [*]; done) | (exfalso; simp_all; done)), H', ⟨by have := HJ7.out; first | omega | exact Nat.le_refl _⟩, ⟨by repeat (first | (with_reducible first | exact HB.out | apply below_alloc | apply pw_below_drewN | apply below_drew1) | exact HB.out)⟩⟩
                          · rw [if_neg c52] at H
                            have c52b0 : (feq b185 b185) = false := (by have q_ : (feq (cn b185) (cn b185)) = false := (by simpa using c52); simp only [feq_cn_l, feq_cn_r, fls_cn_l, fls_cn_r, fgt_cn_l, fgt_cn_r, fle_cn_l, fle_cn_r, fge_cn_l, fge_cn_r] at q_; exact q_)
                            clear c52
                            have H' := Aside0.mk H
                            clear H
                            go_wp2
                            go_meet
                            case rel => exact ⟨_, (false), (by first | rfl | (simp; done) | (simp [*]; done) | (exfalso; simp_all; done)), H', ⟨by have := HJ7.out; first | omega | exact Nat.le_refl _⟩, ⟨by repeat (first | (with_reducible first | exact HB.out | apply below_alloc | apply pw_below_drewN | apply below_drew1) | exact HB.out)⟩⟩
                        · rw [if_neg c51] at H
                          have c51b0 : (feq b185 b185) = false := (by have q_ : (feq (cn b185) (cn b185)) = false := (by simpa using c51); simp only [feq_cn_l, feq_cn_r, fls_cn_l, fls_cn_r, fgt_cn_l, fgt_cn_r, fle_cn_l, fle_cn_r, fge_cn_l, fge_cn_r] at q_; exact q_)
                          clear c51
                          by_cases c53 : (feq (cn b185) (cn b185)) = true
                          · rw [if_pos c53] at H
                            have c53b0 : (feq b185 b185) = true := (by have q_ : (feq (cn b185) (cn b185)) = true := (c53); simp only [feq_cn_l, feq_cn_r, fls_cn_l, fls_cn_r, fgt_cn_l, fgt_cn_r, fle_cn_l, fle_cn_r, fge_cn_l, fge_cn_r] at q_; exact q_)
                            clear c53
                            have H' := Aside0.mk H
                            clear H
                            go_wp2
                            go_meet
                            case rel => exact ⟨_, ((t194 != 1)), (by first | rfl | (simp; done) | (simp [*]; done) | (exfalso; simp_all; done)), H', ⟨by have := HJ7.out; first | omega | exact Nat.le_refl _⟩, ⟨by repeat (first | (with_reducible first | exact HB.out | apply below_alloc | apply pw_below_drewN | apply below_drew1) | exact HB.out)⟩⟩
                          · rw [if_neg c53] at H
                            have c53b0 : (feq b185 b185) = false := (by have q_ : (feq (cn b185) (cn b185)) = false := (by simpa using c53); simp only [feq_cn_l, feq_cn_r, fls_cn_l, fls_cn_r, fgt_cn_l, fgt_cn_r, fle_cn_l, fle_cn_r, fge_cn_l, fge_cn_r] at q_; exact q_)
                            clear c53
                            have H' := Aside0.mk H
                            clear H
                            go_wp2
                            go_meet
                            case rel => exact ⟨_, (false), (by first | rfl | (simp; done) | (simp [*]; done) | (exfalso; simp_all; done)), H', ⟨by have := HJ7.out; first | omega | exact Nat.le_refl _⟩, ⟨by repeat (first | (with_reducible first | exact HB.out | apply below_alloc | apply pw_below_drewN | apply below_drew1) | exact HB.out)⟩⟩
                    · rw [if_neg c49] at H
                      have c49b0 : (t194 == 0) = false := beq_eq_false_iff_ne.mpr c49
                      have c49b1 : (t194 != 0) = true := bne_iff_ne.mpr c49
                      have H' := Aside0.mk H
                      clear H
                      go_wp2
                      go_meet
                      case rel => exact ⟨_, (true), (by first | rfl | (simp; done) | (simp [*]; done) | (exfalso; simp_all; done)), H', ⟨by have := HJ7.out; first | omega | exact Nat.le_refl _⟩, ⟨by repeat (first | (with_reducible first | exact HB.out | apply below_alloc | apply pw_below_drewN | apply below_drew1) | exact HB.out)⟩⟩
                  · rw [if_neg c48] at H
                    have c48b0 : (feq b184 b185) = false := (by have q_ : (feq (cn b184) (cn b185)) = false := (by simpa using c48); simp only [feq_cn_l, feq_cn_r, fls_cn_l, fls_cn_r, fgt_cn_l, fgt_cn_r, fle_cn_l, fle_cn_r, fge_cn_l, fge_cn_r] at q_; exact q_)
                    clear c48
                    by_cases c54 : ((feq (cn b184) (cn b184)) = true)
                    · rw [if_pos c54] at H
                      have c54b0 : (feq b184 b184) = true := (by have q_ : (feq (cn b184) (cn b184)) = true := (c54); simp only [feq_cn_l, feq_cn_r, fls_cn_l, fls_cn_r, fgt_cn_l, fgt_cn_r, fle_cn_l, fle_cn_r, fge_cn_l, fge_cn_r] at q_; exact q_)
                      clear c54
                      have H' := Aside0.mk H
                      clear H
                      go_wp2
                      go_meet
                      case rel => exact ⟨_, (false), (by first | rfl | (simp; done) | (simp [*]; done) | (exfalso; simp_all; done)), H', ⟨by have := HJ7.out; first | omega | exact Nat.le_refl _⟩, ⟨by repeat (first | (with_reducible first | exact HB.out | apply below_alloc | apply pw_below_drewN | apply below_drew1) | exact HB.out)⟩⟩
                    · rw [if_neg c54] at H
                      have c54b0 : (feq b184 b184) = false := (by have q_ : (feq (cn b184) (cn b184)) = false := (by simpa using c54); simp only [feq_cn_l, feq_cn_r, fls_cn_l, fls_cn_r, fgt_cn_l, fgt_cn_r, fle_cn_l, fle_cn_r, fge_cn_l, fge_cn_r] at q_; exact q_)
                      clear c54
                      by_cases c55 : ((feq (cn b185) (cn b185)) = true)
                      · rw [if_pos c55] at H
                        have c55b0 : (feq b185 b185) = true := (by have q_ : (feq (cn b185) (cn b185)) = true := (c55); simp only [feq_cn_l, feq_cn_r, fls_cn_l, fls_cn_r, fgt_cn_l, fgt_cn_r, fle_cn_l, fle_cn_r, fge_cn_l, fge_cn_r] at q_; exact q_)
                        clear c55
                        by_cases c56 : (feq (cn b185) (cn b185)) = true
                        · rw [if_pos c56] at H
                          have c56b0 : (feq b185 b185) = true := (by have q_ : (feq (cn b185) (cn b185)) = true := (c56); simp only [feq_cn_l, feq_cn_r, fls_cn_l, fls_cn_r, fgt_cn_l, fgt_cn_r, fle_cn_l, fle_cn_r, fge_cn_l, fge_cn_r] at q_; exact q_)
                          clear c56
                          have H' := Aside0.mk H
                          clear H
                          go_wp2
                          go_meet
                          case rel => exact ⟨_, ((t194 != 1)), (by first | rfl | (simp; done) | (simp [*]; done) | (exfalso; simp_all; done)), H', ⟨by have := HJ7.out; first | omega | exact Nat.le_refl _⟩, ⟨by repeat (first | (with_reducible first | exact HB.out | apply below_alloc | apply pw_below_drewN | apply below_drew1) | exact HB.out)⟩⟩
                        · rw [if_neg c56] at H
                          have c56b0 : (feq b185 b185) = false := (by have q_ : (feq (cn b185) (cn b185)) = false := (by simpa using c56); simp only [feq_cn_l, feq_cn_r, fls_cn_l, fls_cn_r, fgt_cn_l, fgt_cn_r, fle_cn_l, fle_cn_r, fge_cn_l, fge_cn_r] at q_; exact q_)
                          clear c56
                          have H' := Aside0.mk H
                          clear H
                          go_wp2
                          go_meet
                          case rel => exact ⟨_, (false), (by first | rfl | (simp; done) | (simp [*]; done) | (exfalso; simp_all; done)), H', ⟨by have := HJ7.out; first | omega | exact Nat.le_refl _⟩, ⟨by repeat (first | (with_reducible first | exact HB.out | apply below_alloc | apply pw_below_drewN | apply below_drew1) | exact HB.out)⟩⟩
                      · rw [if_neg c55] at H
                        have c55b0 : (feq b185 b185) = false := (by have q_ : (feq (cn b185) (cn b185)) = false := (by simpa using c55); simp only [feq_cn_l, feq_cn_r, fls_cn_l, fls_cn_r, fgt_cn_l, fgt_cn_r, fle_cn_l, fle_cn_r, fge_cn_l, fge_cn_r] at q_; exact q_)
                        clear c55
                        by_cases c57 : t194 = 0
                        · rw [if_pos c57] at H
                          have c57b0 : (t194 == 0) = true := beq_iff_eq.mpr c57
                          have c57b1 : (t194 != 0) = false := bne_eq_false_iff_eq.mpr c57
                          clear c57
                          by_cases c58 : (feq (cn b185) (cn b185)) = true
                          · rw [if_pos c58] at H
                            have c58b0 : (feq b185 b185) = true := (by have q_ : (feq (cn b185) (cn b185)) = true := (c58); simp only [feq_cn_l, feq_cn_r, fls_cn_l, fls_cn_r, fgt_cn_l, fgt_cn_r, fle_cn_l, fle_cn_r, fge_cn_l, fge_cn_r] at q_; exact q_)
                            clear c58
                            have H' := Aside0.mk H
                            clear H
                            go_wp2
                            go_meet
                            case rel => exact ⟨_, ((t194 != 1)), (by first | rfl | (simp; done) | (simp [*]; done) | (exfalso; simp_all; done)), H', ⟨by have := HJ7.out; first | omega | exact Nat.le_refl _⟩, ⟨by repeat (first | (with_reducible first | exact HB.out | apply below_alloc | apply pw_below_drewN | apply below_drew1) | exact HB.out)⟩⟩
                          · rw [if_neg c58] at H
                            have c58b0 : (feq b185 b185) = false := (by have q_ : (feq (cn b185) (cn b185)) = false := (by simpa using c58); simp only [feq_cn_l, feq_cn_r, fls_cn_l, fls_cn_r, fgt_cn_l, fgt_cn_r, fle_cn_l, fle_cn_r, fge_cn_l, fge_cn_r] at q_; exact q_)
                            clear c58
                            have H' := Aside0.mk H
                            clear H
                            go_wp2
                            go_meet
                            case rel => exact ⟨_, (false), (by first | rfl | (simp; done) | (simp [*]; done) | (exfalso; simp_all; done)), H', ⟨by have := HJ7.out; first | omega | exact Nat.le_refl _⟩, ⟨by repeat (first | (with_reducible first | exact HB.out | apply below_alloc | apply pw_below_drewN | apply below_drew1) | exact HB.out)⟩⟩
                        · rw [if_neg c57] at H
                          have c57b0 : (t194 == 0) = false := beq_eq_false_iff_ne.mpr c57
                          have c57b1 : (t194 != 0) = true := bne_iff_ne.mpr c57
                          have H' := Aside0.mk H
                          clear H
                          go_wp2
                          go_meet
                          case rel => exact ⟨_, (true), (by first | rfl | (simp; done) | (simp [*]; done) | (exfalso; simp_all; done)), H', ⟨by have := HJ7.out; first | omega | exact Nat.le_refl _⟩, ⟨by repeat (first | (with_reducible first | exact HB.out | apply below_alloc | apply pw_below_drewN | apply below_drew1) | exact HB.out)⟩⟩
                · rw [if_neg c47] at H
                  have c47b0 : (t194 == 1) = false := beq_eq_false_iff_ne.mpr c47
                  have c47b1 : (t194 != 1) = true := bne_iff_ne.mpr c47
                  have H' := Aside0.mk H
                  clear H
                  go_wp2
                  go_meet
                  case rel => exact ⟨_, (true), (by first | rfl | (simp; done) | (simp [*]; done) | (exfalso; simp_all; done)), H', ⟨by have := HJ7.out; first | omega | exact Nat.le_refl _⟩, ⟨by repeat (first | (with_reducible first | exact HB.out | apply below_alloc | apply pw_below_drewN | apply below_drew1) | exact HB.out)⟩⟩
              · rw [if_neg c46] at H
                have c46b0 : (fgt b184 b185) = false := (by have q_ : (fgt (cn b184) (cn b185)) = false := (by simpa using c46); simp only [feq_cn_l, feq_cn_r, fls_cn_l, fls_cn_r, fgt_cn_l, fgt_cn_r, fle_cn_l, fle_cn_r, fge_cn_l, fge_cn_r] at q_; exact q_)
                clear c46
                by_cases c59 : (feq (cn b184) (cn b185)) = true
                · rw [if_pos c59] at H
                  have c59b0 : (feq b184 b185) = true := (by have q_ : (feq (cn b184) (cn b185)) = true := (c59); simp only [feq_cn_l, feq_cn_r, fls_cn_l, fls_cn_r, fgt_cn_l, fgt_cn_r, fle_cn_l, fle_cn_r, fge_cn_l, fge_cn_r] at q_; exact q_)
                  clear c59
                  by_cases c60 : t194 = 0
                  · rw [if_pos c60] at H
                    have c60b0 : (t194 == 0) = true := beq_iff_eq.mpr c60
                    have c60b1 : (t194 != 0) = false := bne_eq_false_iff_eq.mpr c60
                    clear c60
                    by_cases c61 : ((feq (cn b184) (cn b184)) = true)
                    · rw [if_pos c61] at H
                      have c61b0 : (feq b184 b184) = true := (by have q_ : (feq (cn b184) (cn b184)) = true := (c61); simp only [feq_cn_l, feq_cn_r, fls_cn_l, fls_cn_r, fgt_cn_l, fgt_cn_r, fle_cn_l, fle_cn_r, fge_cn_l, fge_cn_r] at q_; exact q_)
                      clear c61
                      have H' := Aside0.mk H
                      clear H
                      go_wp2
                      go_meet
                      case rel => exact ⟨_, (false), (by first | rfl | (simp; done) | (simp [*]; done) | (exfalso; simp_all; done)), H', ⟨by have := HJ7.out; first | omega | exact Nat.le_refl _⟩, ⟨by repeat (first | (with_reducible first | exact HB.out | apply below_alloc | apply pw_below_drewN | apply below_drew1) | exact HB.out)⟩⟩
                    · rw [if_neg c61] at H
                      have c61b0 : (feq b184 b184) = false := (by have q_ : (feq (cn b184) (cn b184)) = false := (by simpa using c61); simp only [feq_cn_l, feq_cn_r, fls_cn_l, fls_cn_r, fgt_cn_l, fgt_cn_r, fle_cn_l, fle_cn_r, fge_cn_l, fge_cn_r] at q_; exact q_)
                      clear c61
                      by_cases c62 : ((feq (cn b185) (cn b185)) = true)
                      · rw [if_pos c62] at H
                        have c62b0 : (feq b185 b185) = true := (by have q_ : (feq (cn b185) (cn b185)) = true := (c62); simp only [feq_cn_l, feq_cn_r, fls_cn_l, fls_cn_r, fgt_cn_l, fgt_cn_r, fle_cn_l, fle_cn_r, fge_cn_l, fge_cn_r] at q_; exact q_)
                        clear c62
                        by_cases c63 : (feq (cn b185) (cn b185)) = true
                        · rw [if_pos c63] at H
                          have c63b0 : (feq b185 b185) = true := (by have q_ : (feq (cn b185) (cn b185)) = true := (c63); simp only [feq_cn_l, feq_cn_r, fls_cn_l, fls_cn_r, fgt_cn_l, fgt_cn_r, fle_cn_l, fle_cn_r, fge_cn_l, fge_cn_r] at q_; exact q_)
                          clear c63
                          have H' := Aside0.mk H
                          clear H
                          go_wp2
                          go_meet
                          case rel => exact ⟨_, ((t194 != 1)), (by first | rfl | (simp; done) | (simp [*]; done) | (exfalso; simp_all; done)), H', ⟨by have := HJ7.out; first | omega | exact Nat.le_refl _⟩, ⟨by repeat (first | (with_reducible first | exact HB.out | apply below_alloc | apply pw_below_drewN | apply below_drew1) | exact HB.out)⟩⟩
                        · rw [if_neg c63] at H
                          have c63b0 : (feq b185 b185) = false := (by have q_ : (feq (cn b185) (cn b185)) = false := (by simpa using c63); simp only [feq_cn_l, feq_cn_r, fls_cn_l, fls_cn_r, fgt_cn_l, fgt_cn_r, fle_cn_l, fle_cn_r, fge_cn_l, fge_cn_r] at q_; exact q_)
                          clear c63
                          have H' := Aside0.mk H
                          clear H
                          go_wp2
                          go_meet
                          case rel => exact ⟨_, (false), (by first | rfl | (simp; done) | (simp [*]; done) | (exfalso; simp_all; done)), H', ⟨by have := HJ7.out; first | omega | exact Nat.le_refl _⟩, ⟨by repeat (first | (with_reducible first | exact HB.out | apply below_alloc | apply pw_below_drewN | apply below_drew1) | exact HB.out)⟩⟩
                      · rw [if_neg c62] at H
                        have c62b0 : (feq b185 b185) = false := (by have q_ : (feq (cn b185) (cn b185)) = false := (by simpa using c62); simp only [feq_cn_l, feq_cn_r, fls_cn_l, fls_cn_r, fgt_cn_l, fgt_cn_r, fle_cn_l, fle_cn_r, fge_cn_l, fge_cn_r] at q_; exact q_)
                        clear c62
                        by_cases c64 : (feq (cn b185) (cn b185)) = true
                        · rw [if_pos c64] at H
                          have c64b0 : (feq b185 b185) = true := (by have q_ : (feq (cn b185) (cn b185)) = true := (c64); simp only [feq_cn_l, feq_cn_r, fls_cn_l, fls_cn_r, fgt_cn_l, fgt_cn_r, fle_cn_l, fle_cn_r, fge_cn_l, fge_cn_r] at q_; exact q_)
                          clear c64
                          have H' := Aside0.mk H
                          clear H
                          go_wp2
                          go_meet
                          case rel => exact ⟨_, ((t194 != 1)), (by first | rfl | (simp; done) | (simp [*]; done) | (exfalso; simp_all; done)), H', ⟨by have := HJ7.out; first | omega | exact Nat.le_refl _⟩, ⟨by repeat (first | (with_reducible first | exact HB.out | apply below_alloc | apply pw_below_drewN | apply below_drew1) | exact HB.out)⟩⟩
                        · rw [if_neg c64] at H
                          have c64b0 : (feq b185 b185) = false := (by have q_ : (feq (cn b185) (cn b185)) = false := (by simpa using c64); simp only [feq_cn_l, feq_cn_r, fls_cn_l, fls_cn_r, fgt_cn_l, fgt_cn_r, fle_cn_l, fle_cn_r, fge_cn_l, fge_cn_r] at q_; exact q_)
                          clear c64
                          have H' := Aside0.mk H
                          clear H
                          go_wp2
                          go_meet
                          case rel => exact ⟨_, (false), (by first | rfl | (simp; done) | (simp [*]; done) | (exfalso; simp_all; done)), H', ⟨by have := HJ7.out; first | omega | exact Nat.le_refl _⟩, ⟨by repeat (first | (with_reducible first | exact HB.out | apply below_alloc | apply pw_below_drewN | apply below_drew1) | exact HB.out)⟩⟩
                  · rw [if_neg c60] at H
                    have c60b0 : (t194 == 0) = false := beq_eq_false_iff_ne.mpr c60
                    have c60b1 : (t194 != 0) = true := bne_iff_ne.mpr c60
                    have H' := Aside0.mk H
                    clear H
                    go_wp2
                    go_meet
                    case rel => exact ⟨_, (true), (by first | rfl | (simp; done) | (simp [*]; done) | (exfalso; simp_all; done)), H', ⟨by have := HJ7.out; first | omega | exact Nat.le_refl _⟩, ⟨by repeat (first | (with_reducible first | exact HB.out | apply below_alloc | apply pw_below_drewN | apply below_drew1) | exact HB.out)⟩⟩
                · rw [if_neg c59] at H
                  have c59b0 : (feq b184 b185) = false := (by have q_ : (feq (cn b184) (cn b185)) = false := (by simpa using c59); simp only [feq_cn_l, feq_cn_r, fls_cn_l, fls_cn_r, fgt_cn_l, fgt_cn_r, fle_cn_l, fle_cn_r, fge_cn_l, fge_cn_r] at q_; exact q_)
                  clear c59
                  by_cases c65 : ((feq (cn b184) (cn b184)) = true)
                  · rw [if_pos c65] at H
                    have c65b0 : (feq b184 b184) = true := (by have q_ : (feq (cn b184) (cn b184)) = true := (c65); simp only [feq_cn_l, feq_cn_r, fls_cn_l, fls_cn_r, fgt_cn_l, fgt_cn_r, fle_cn_l, fle_cn_r, fge_cn_l, fge_cn_r] at q_; exact q_)
                    clear c65
                    have H' := Aside0.mk H
                    clear H
                    go_wp2
                    go_meet
                    case rel => exact ⟨_, (false), (by first | rfl | (simp; done) | (simp [*]; done) | (exfalso; simp_all; done)), H', ⟨by have := HJ7.out; first | omega | exact Nat.le_refl _⟩, ⟨by repeat (first | (with_reducible first | exact HB.out | apply below_alloc | apply pw_below_drewN | apply below_drew1) | exact HB.out)⟩⟩
                  · rw [if_neg c65] at H
                    have c65b0 : (feq b184 b184) = false := (by have q_ : (feq (cn b184) (cn b184)) = false := (by simpa using c65); simp only [feq_cn_l, feq_cn_r, fls_cn_l, fls_cn_r, fgt_cn_l, fgt_cn_r, fle_cn_l, fle_cn_r, fge_cn_l, fge_cn_r] at q_; exact q_)
                    clear c65
                    by_cases c66 : ((feq (cn b185) (cn b185)) = true)
                    · rw [if_pos c66] at H
                      have c66b0 : (feq b185 b185) = true := (by have q_ : (feq (cn b185) (cn b185)) = true := (c66); simp only [feq_cn_l, feq_cn_r, fls_cn_l, fls_cn_r, fgt_cn_l, fgt_cn_r, fle_cn_l, fle_cn_r, fge_cn_l, fge_cn_r] at q_; exact q_)
                      clear c66
                      by_cases c67 : (feq (cn b185) (cn b185)) = true
                      · rw [if_pos c67] at H
                        have c67b0 : (feq b185 b185) = true := (by have q_ : (feq (cn b185) (cn b185)) = true := (c67); simp only [feq_cn_l, feq_cn_r, fls_cn_l, fls_cn_r, fgt_cn_l, fgt_cn_r, fle_cn_l, fle_cn_r, fge_cn_l, fge_cn_r] at q_; exact q_)
                        clear c67
                        have H' := Aside0.mk H
                        clear H
                        go_wp2
                        go_meet
                        case rel => exact ⟨_, ((t194 != 1)), (by first | rfl | (simp; done) | (simp [*]; done) | (exfalso; simp_all; done)), H', ⟨by have := HJ7.out; first | omega | exact Nat.le_refl _⟩, ⟨by repeat (first | (with_reducible first | exact HB.out | apply below_alloc | apply pw_below_drewN | apply below_drew1) | exact HB.out)⟩⟩
                      · rw [if_neg c67] at H
                        have c67b0 : (feq b185 b185) = false := (by have q_ : (feq (cn b185) (cn b185)) = false := (by simpa using c67); simp only [feq_cn_l, feq_cn_r, fls_cn_l, fls_cn_r, fgt_cn_l, fgt_cn_r, fle_cn_l, fle_cn_r, fge_cn_l, fge_cn_r] at q_; exact q_)
                        clear c67
                        have H' := Aside0.mk H
                        clear H
                        go_wp2
                        go_meet
                        case rel => exact ⟨_, (false), (by first | rfl | (simp; done) | (simp [*]; done) | (exfalso; simp_all; done)), H', ⟨by have := HJ7.out; first | omega | exact Nat.le_refl _⟩, ⟨by repeat (first | (with_reducible first | exact HB.out | apply below_alloc | apply pw_below_drewN | apply below_drew1) | exact HB.out)⟩⟩
                    · rw [if_neg c66] at H
                      have c66b0 : (feq b185 b185) = false := (by have q_ : (feq (cn b185) (cn b185)) = false := (by simpa using c66); simp only [feq_cn_l, feq_cn_r, fls_cn_l, fls_cn_r, fgt_cn_l, fgt_cn_r, fle_cn_l, fle_cn_r, fge_cn_l, fge_cn_r] at q_; exact q_)
                      clear c66
                      by_cases c68 : t194 = 0
                      · rw [if_pos c68] at H
                        have c68b0 : (t194 == 0) = true := beq_iff_eq.mpr c68
                        have c68b1 : (t194 != 0) = false := bne_eq_false_iff_eq.mpr c68
                        clear c68
                        by_cases c69 : (feq (cn b185) (cn b185)) = true
                        · rw [if_pos c69] at H
                          have c69b0 : (feq b185 b185) = true := (by have q_ : (feq (cn b185) (cn b185)) = true := (c69); simp only [feq_cn_l, feq_cn_r, fls_cn_l, fls_cn_r, fgt_cn_l, fgt_cn_r, fle_cn_l, fle_cn_r, fge_cn_l, fge_cn_r] at q_; exact q_)
                          clear c69
                          have H' := Aside0.mk H
                          clear H
                          go_wp2
                          go_meet
                          case rel => exact ⟨_, ((t194 != 1)), (by first | rfl | (simp; done) | (simp [*]; done) | (exfalso; simp_all; done)), H', ⟨by have := HJ7.out; first | omega | exact Nat.le_refl _⟩, ⟨by repeat (first | (with_reducible first | exact HB.out | apply below_alloc | apply pw_below_drewN | apply below_drew1) | exact HB.out)⟩⟩
                        · rw [if_neg c69] at H
                          have c69b0 : (feq b185 b185) = false := (by have q_ : (feq (cn b185) (cn b185)) = false := (by simpa using c69); simp only [feq_cn_l, feq_cn_r, fls_cn_l, fls_cn_r, fgt_cn_l, fgt_cn_r, fle_cn_l, fle_cn_r, fge_cn_l, fge_cn_r] at q_; exact q_)
                          clear c69
                          have H' := Aside0.mk H
                          clear H
                          go_wp2
                          go_meet
                          case rel => exact ⟨_, (false), (by first | rfl | (simp; done) | (simp [*]; done) | (exfalso; simp_all; done)), H', ⟨by have := HJ7.out; first | omega | exact Nat.le_refl _⟩, ⟨by repeat (first | (with_reducible first | exact HB.out | apply below_alloc | apply pw_below_drewN | apply below_drew1) | exact HB.out)⟩⟩
                      · rw [if_neg c68] at H
                        have c68b0 : (t194 == 0) = false := beq_eq_false_iff_ne.mpr c68
                        have c68b1 : (t194 != 0) = true := bne_iff_ne.mpr c68
                        have H' := Aside0.mk H
                        clear H
                        go_wp2
                        go_meet
                        case rel => exact ⟨_, (true), (by first | rfl | (simp; done) | (simp [*]; done) | (exfalso; simp_all; done)), H', ⟨by have := HJ7.out; first | omega | exact Nat.le_refl _⟩, ⟨by repeat (first | (with_reducible first | exact HB.out | apply below_alloc | apply pw_below_drewN | apply below_drew1) | exact HB.out)⟩⟩
          case rest =>
            clear HC19
            try clear c2
            try clear p2
            try clear c3
            try clear c4
            try clear c5
            try clear c6
            try clear c20
            try clear c20b0
            try clear c21
            try clear c21b0
            try clear c21b1
            try clear c22
            try clear c22b0
            try clear c23
            try clear c23b0
            try clear c23b1
            try clear c24
            try clear c24b0
            try clear c25
            try clear c25b0
            try clear c25b1
            try clear c26
            try clear c26b0
            try clear c27
            try clear c27b0
            try clear c28
            try clear c28b0
            try clear c29
            try clear c29b0
            try clear c30
            try clear c30b0
            try clear c31
            try clear c31b0
            try clear c32
            try clear c32b0
            try clear c33
            try clear c33b0
            try clear c33b1
            try clear c34
            try clear c34b0
            try clear c35
            try clear c35b0
            try clear c36
            try clear c36b0
            try clear c36b1
            try clear c37
            try clear c37b0
            try clear c38
            try clear c38b0
            try clear c39
            try clear c39b0
            try clear c40
            try clear c40b0
            try clear c41
            try clear c41b0
            try clear c42
            try clear c42b0
            try clear c43
            try clear c43b0
            try clear c44
            try clear c44b0
            try clear c44b1
            try clear c45
            try clear c45b0
            try clear c46
            try clear c46b0
            try clear c47
            try clear c47b0
            try clear c47b1
            try clear c48
            try clear c48b0
            try clear c49
            try clear c49b0
            try clear c49b1
            try clear c50
            try clear c50b0
            try clear c51
            try clear c51b0
            try clear c52
            try clear c52b0
            try clear c53
            try clear c53b0
            try clear c54
            try clear c54b0
            try clear c55
            try clear c55b0
            try clear c56
            try clear c56b0
            try clear c57
            try clear c57b0
            try clear c57b1
            try clear c58
            try clear c58b0
            try clear c59
            try clear c59b0
            try clear c60
            try clear c60b0
            try clear c60b1
            try clear c61
            try clear c61b0
            try clear c62
            try clear c62b0
            try clear c63
            try clear c63b0
            try clear c64
            try clear c64b0
            try clear c65
            try clear c65b0
            try clear c66
            try clear c66b0
            try clear c67
            try clear c67b0
            try clear c68
            try clear c68b0
            try clear c68b1
            try clear c69
            try clear c69b0
            obtain ⟨kq, x103_18, rfl, HA, HJ18, HB⟩ := hcut
            cases kq with
            | zero => exact absurd HA.out (by simp [laws_FnFloats.j1])
            | succ kj18 =>
              have H := HA.out
              clear HA
              simp only [laws_FnFloats.j1] at H
              by_cases c70 : x103_18 = true
              · subst c70
                have H1 : (some false) = some r := by rw [if_pos rfl] at H; exact H
                clear H
                have H := H1
                clear H1
                cases (Option.some.inj H).trans hT
              · replace c70 := Bool.eq_false_iff.mpr c70
                subst c70
                have H1 : ((impl_FloatBits.f (fneg 0)).bind fun t195 => (if t195 = 9223372036854775808 then ((impl_FloatCompare.f (fneg 0) 0).bind fun t196 => (if t196 = 0 then ((impl_FloatRank.f (cn b185)).bind fun t197 => (some ((decide (t194 < 0)) == (decide (t187 < t197))))) else (some false))) else (some false))) = some r := by rw [if_neg (show ¬ (false = true) by decide)] at H; exact H
                clear H
                have H := H1
                clear H1
                replace H := Option.bind_eq_some_iff.mp H
                obtain ⟨t195, A710, H⟩ := H
                replace H : (if t195 = 9223372036854775808 then ((impl_FloatCompare.f (fneg 0) 0).bind fun t196 => (if t196 = 0 then ((impl_FloatRank.f (cn b185)).bind fun t197 => (some ((decide (t194 < 0)) == (decide (t187 < t197))))) else (some false))) else (some false)) = some r := H
                have A71 := Aside0.mk A710
                clear A710
                by_cases c72 : t195 = 9223372036854775808
                · rw [if_pos c72] at H
                  have c72b0 : (t195 == 9223372036854775808) = true := beq_iff_eq.mpr c72
                  have c72b1 : (t195 != 9223372036854775808) = false := bne_eq_false_iff_eq.mpr c72
                  clear c72
                  replace H := Option.bind_eq_some_iff.mp H
                  obtain ⟨t196, A730, H⟩ := H
                  replace H : (if t196 = 0 then ((impl_FloatRank.f (cn b185)).bind fun t197 => (some ((decide (t194 < 0)) == (decide (t187 < t197))))) else (some false)) = some r := H
                  have A73 := Aside0.mk A730
                  clear A730
                  by_cases c74 : t196 = 0
                  · rw [if_pos c74] at H
                    have c74b0 : (t196 == 0) = true := beq_iff_eq.mpr c74
                    have c74b1 : (t196 != 0) = false := bne_eq_false_iff_eq.mpr c74
                    clear c74
                    replace H := Option.bind_eq_some_iff.mp H
                    obtain ⟨t197, A750, H⟩ := H
                    replace H : (some ((decide (t194 < 0)) == (decide (t187 < t197)))) = some r := H
                    have A75 := Aside0.mk A750
                    clear A750
                    obtain rfl := Option.some.inj H
                    go_wp2_with (first | ((with_reducible refine gate_callee (f := 12) rfl ?_); refine goesL_ (some 106) rfl rfl Try.func12 (by kernel_rfl) rfl #[.float .f64 (fneg 0)] rfl (by (try simp only [List.map_toArray, List.map_cons, List.map_nil]); first | done | rfl | (simp only [List.length_drop, List.length_take]; rfl)) ?_; (with_reducible refine (impl_FloatBits.calls (fneg 0) t195 _ A71.out).mono ?_); rintro e w' ⟨rfl, ⟨nd, rfl⟩⟩; refine ⟨_, rfl, ?_⟩) | (go_at_call 23; (with_reducible refine (impl_FloatCompare.calls (fneg 0) 0 t196 _ A73.out).mono ?_); rintro e w' ⟨rfl, ⟨nd, rfl⟩⟩) | (go_at_call 21; (with_reducible refine (impl_FloatRank.calls b185 t197 _ ((impl_FloatRank.inv0 _).symm.trans A75.out)).mono ?_); rintro e w' ⟨rfl, ⟨nd, rfl⟩⟩))
                    go_ret
                    exact ⟨by first | rfl | (simp [errW_none, errW_some] <;> rfl) | (simp [*, errW_none, errW_some] <;> rfl), by repeat (first | (with_reducible first | exact HB.out | apply below_alloc | apply pw_below_drewN | apply below_drew1) | exact HB.out)⟩
                  · rw [if_neg c74] at H
                    have c74b0 : (t196 == 0) = false := beq_eq_false_iff_ne.mpr c74
                    have c74b1 : (t196 != 0) = true := bne_iff_ne.mpr c74
                    cases (Option.some.inj H).trans hT
                · rw [if_neg c72] at H
                  have c72b0 : (t195 == 9223372036854775808) = false := beq_eq_false_iff_ne.mpr c72
                  have c72b1 : (t195 != 9223372036854775808) = true := bne_iff_ne.mpr c72
                  cases (Option.some.inj H).trans hT

/-- THE ONE PURE STATEMENT of laws_FnFloats: yours. -/
def laws_FnFloats.Pure : Prop := ∀ (l0 : List Int), l0.length ≤ maxLen → l0.length * 1 ≤ 140737488351232 → (∀ x ∈ l0, (Lit.int .u8 x).wf = true) → ∃ k, laws_FnFloats.f k l0 = some true
theorem laws_FnFloats.walk (P : laws_FnFloats.Pure) (a0 : Option Addr) (len0 cap0 : Nat) (z0 : List Int) (w : World) (w0 : (a0 = none ∧ len0 = 0 ∧ cap0 = 0 ∧ z0 = []) ∨ ∃ x, a0 = some x ∧ len0 ≤ cap0 ∧ cap0 ≤ maxLen ∧ z0.length = cap0 ∧ (∀ i, i < z0.length → w.cell? (x.add i) = some (.int .u8 (z0.getD i 0))) ∧ ∀ n ∈ z0, (Lit.int .u8 n).wf = true) (y0 : len0 * 1 ≤ 140737488351232) :
    Calls Try.prog 10 #[.slice a0 len0 cap0] w fun e w' => e = .returned (.bool true) ∧ Below w.heap.size w w' := by
  obtain ⟨l0, rfl, hr0, hm0, hw0, hc0⟩ := ReadsInt.ofRowC w0
  obtain ⟨k, h⟩ := P l0 hm0 y0 hw0
  refine (laws_FnFloats.calls k _ _ l0 true w (Kd.C_of_reads (d := (0 : Int)) (h1 := fun _ => rfl) hr0) hc0 h).mono ?_
  rintro e w' ⟨rfl, hd⟩
  exact ⟨rfl, hd⟩

end Go.Proofs.Ytjbocmkphnmfgaa.PFnFloats
