-- By this session's own program (wip/xlaw.py): the row of the law FnExactFloatCompare, out of its pure statement and the contract of its function.
import Derived.Test.YtjbocmkphnmfgaaRows
import Derived.Test.YtjbocmkphnmfgaaPFnExactFloatComparex1
import Derived.Test.YtjbocmkphnmfgaaPureFnExactFloatCompare
import Derived.Test.YtjbocmkphnmfgaaXOpen
import Derived.WalkKit
import Derived.ProofKit
import Derived.OpenShut
import Derived.ShutString
import Derived.ChangeOld
import Derived.Below
import Derived.SizedLaws
import Derived.Carry
namespace Go.Proofs.Ytjbocmkphnmfgaa.fnExactFloatCompare
open Go.ChangeShapes Go.WideShapes Go.ChangeAt Go.RowKit Go.Proofs.YtjbocmkphnmfgaaW.PrintWords Go.Proofs.YtjbocmkphnmfgaaX Go.Proofs.Ytjbocmkphnmfgaa.PFnExactFloatCompare
set_option linter.unusedVariables false
theorem own : ownKnob Try.prog.godebug = none := by kernel_rfl
theorem laidOut : laidOutB Try.prog = true := by kernel_rfl
theorem opens0 : Opens Try.prog 22 Kd.flt (fun b => b < 2 ^ 64) := (opens_flt Try.underlying22)
theorem opens1 : Opens Try.prog 22 Kd.flt (fun b => b < 2 ^ 64) := (opens_flt Try.underlying22)
set_option maxRecDepth 100000 in
theorem lifted (os : Os) (started : os.Started) (H : Type) (enc : TypeId × Value → H) :
    ReturnsInHanded {} Try.checked os 7 .any (Rows.fnExactFloatCompareSpec.pre6 enc Try.prog Try.f7 Rows.fnExactFloatCompareRow.domain false) (Rows.fnExactFloatCompareSpec.post enc Try.prog Try.f7 false true false false) := by
  refine returnsInHanded_of_change_sized (C := Try.checked) own started (by kernel_rfl) Try.func7
    (ChangeSpec.witness6 (enc := enc) (C := Try.checked) false ⟨#[], #[.float .f64 0, .float .f64 0], []⟩ 8 (by kernel_rfl) (by kernel_rfl) (by kernel_rfl) (by kernel_rfl)) ?_
  intro W base args ds gs before hval0 hW hcnd hsz0 _
  have hval : ∀ (j : Nat) t v, Try.f7.params[j]? = some t → args[j]? = some v → Value.okWide Try.prog W .any base t v := hval0
  have hW' := hW
  obtain ⟨p, q, hA0, hV, rfl, hfz, hnd⟩ := hW
  have hA : DataW.TrodAll enc Try.prog W 0 (fun _ => true) true Try.f7.params.toList args.toList ds p := hA0
  rw [Try.params7] at hA hval
  obtain ⟨v0, vs0, d0, ds0, p0, q0, hargs, rfl, rfl, h0, r0⟩ := trodAll_cons hA
  obtain ⟨v1, vs1, d1, ds1, p1, q1, rfl, rfl, rfl, h1, r1⟩ := trodAll_cons r0
  obtain ⟨rfl, rfl, rfl⟩ := trodAll_nil r1
  obtain rfl : args = #[v0, v1] := by cases args; simp_all
  obtain ⟨rfl, rfl⟩ := trodVars_none hV
  have k0 := h0
  have lt0 : ∀ x ∈ p0, x.block < W.heap.size := by obtain ⟨m, hm⟩ := k0; exact DataW.trod_lt m _ _ _ hm
  obtain ⟨fuel0, f0⟩ := h0
  obtain ⟨u0, K0, W0⟩ := opens0 f0
  obtain ⟨b0, rfl⟩ := okFlt Try.underlying22 (hval 0 22 v0 rfl rfl)
  obtain rfl : u0 = b0 := (by simpa [Kd.bool, Kd.flt, Kd.scalar, Value.cells] using K0 : b0 = u0).symm
  have k1 := h1
  have lt1 : ∀ x ∈ p1, x.block < W.heap.size := by obtain ⟨m, hm⟩ := k1; exact DataW.trod_lt m _ _ _ hm
  obtain ⟨fuel1, f1⟩ := h1
  obtain ⟨u1, K1, W1⟩ := opens1 f1
  obtain ⟨b1, rfl⟩ := okFlt Try.underlying22 (hval 1 22 v1 rfl rfl)
  obtain rfl : u1 = b1 := (by simpa [Kd.bool, Kd.flt, Kd.scalar, Value.cells] using K1 : b1 = u1).symm
  clear hA0 hval0 hsz0 hval
  obtain ⟨k, hk⟩ := Pure.FnExactFloatCompare (u0) (u1) (W0) (W1)
  refine (PFnExactFloatCompare.laws_FnExactFloatCompare.calls k (u0) (u1) true W hk).mono fun e W' ⟨he, bel0⟩ => ?_
  have bel : Below W.heap.size W W' := bel0.below
  subst he
  exact ⟨_, rfl, _, _, _, [], _, [], hW', trodAll_mk1 (shut_bool Try.underlying4 _), (trodAll_cons_mk (Below.trod laidOut (by kernel_rfl) (of_decide_eq_true (by kernel_rfl)) k0 bel lt0) (trodAll_cons_mk (Below.trod laidOut (by kernel_rfl) (of_decide_eq_true (by kernel_rfl)) k1 bel lt1) trodAll_mk0)), rfl, bel.frame _, fun h => by cases h⟩
theorem over : Rows.fnExactFloatCompareRow.holds Try.pinned (OpenSpec.ofChange Rows.fnExactFloatCompareSpec) :=
  OpenClaim.holds_of_wide 7 Try.f7 rfl rfl rfl rfl rfl rfl rfl ⟨rfl, rfl, rfl, rfl, rfl⟩ rfl rfl rfl rfl rfl (by kernel_rfl) Try.func7 (by kernel_rfl)
    (of_decide_eq_true (by kernel_rfl)) (by unfold Func.isWrapper; first | (rw [if_pos (by decide +kernel)]; kernel_rfl) | (rw [if_neg (by decide +kernel)]; exact ⟨rfl, rfl⟩))
    (fun os started H enc _ => lifted os started H enc)
theorem proved : Rows.FnExactFloatCompareSaid := over
#print axioms proved
end Go.Proofs.Ytjbocmkphnmfgaa.fnExactFloatCompare
namespace Go.Proofs.Ytjbocmkphnmfgaa
/-- The row, under a short name, for the claim. -/
theorem fnExactFloatCompare_holds : Rows.FnExactFloatCompareSaid := fnExactFloatCompare.proved
end Go.Proofs.Ytjbocmkphnmfgaa
