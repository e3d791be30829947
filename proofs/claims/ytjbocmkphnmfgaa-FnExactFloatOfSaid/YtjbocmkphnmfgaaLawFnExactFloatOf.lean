-- By this session's own program (wip/xlaw.py): the row of the law FnExactFloatOf, out of its pure statement and the contract of its function.
import Derived.Test.YtjbocmkphnmfgaaRows
import Derived.Test.YtjbocmkphnmfgaaPFnExactFloatOfx1
import Derived.Test.YtjbocmkphnmfgaaPureFnExactFloatOf
import Derived.Test.YtjbocmkphnmfgaaXOpen
import Derived.WalkKit
import Derived.ProofKit
import Derived.OpenShut
import Derived.ShutString
import Derived.ChangeOld
import Derived.Below
import Derived.SizedLaws
import Derived.Carry
namespace Go.Proofs.Ytjbocmkphnmfgaa.fnExactFloatOf
open Go.ChangeShapes Go.WideShapes Go.ChangeAt Go.RowKit Go.Proofs.YtjbocmkphnmfgaaW.PrintWords Go.Proofs.YtjbocmkphnmfgaaX Go.Proofs.Ytjbocmkphnmfgaa.PFnExactFloatOf
set_option linter.unusedVariables false
theorem own : ownKnob Try.prog.godebug = none := by kernel_rfl
theorem laidOut : laidOutB Try.prog = true := by kernel_rfl
theorem opens0 : Opens Try.prog 23 (Kd.int .u64) (fun n => (Lit.int .u64 n).wf = true) := (opens_int Try.underlying23)
set_option maxRecDepth 100000 in
theorem lifted (os : Os) (started : os.Started) (H : Type) (enc : TypeId × Value → H) :
    ReturnsInHanded {} Try.checked os 4 .any (Rows.fnExactFloatOfSpec.pre6 enc Try.prog Try.f4 Rows.fnExactFloatOfRow.domain false) (Rows.fnExactFloatOfSpec.post enc Try.prog Try.f4 false true false false) := by
  refine returnsInHanded_of_change_sized (C := Try.checked) own started (by kernel_rfl) Try.func4
    (ChangeSpec.witness6 (enc := enc) (C := Try.checked) false ⟨#[], #[.int .u64 0], []⟩ 8 (by kernel_rfl) (by kernel_rfl) (by kernel_rfl) (by kernel_rfl)) ?_
  intro W base args ds gs before hval0 hW hcnd hsz0 _
  have hval : ∀ (j : Nat) t v, Try.f4.params[j]? = some t → args[j]? = some v → Value.okWide Try.prog W .any base t v := hval0
  have hW' := hW
  obtain ⟨p, q, hA0, hV, rfl, hfz, hnd⟩ := hW
  have hA : DataW.TrodAll enc Try.prog W 0 (fun _ => true) true Try.f4.params.toList args.toList ds p := hA0
  rw [Try.params4] at hA hval
  obtain ⟨v0, vs0, d0, ds0, p0, q0, hargs, rfl, rfl, h0, r0⟩ := trodAll_cons hA
  obtain ⟨rfl, rfl, rfl⟩ := trodAll_nil r0
  obtain rfl : args = #[v0] := by cases args; simp_all
  obtain ⟨rfl, rfl⟩ := trodVars_none hV
  have k0 := h0
  have lt0 : ∀ x ∈ p0, x.block < W.heap.size := by obtain ⟨m, hm⟩ := k0; exact DataW.trod_lt m _ _ _ hm
  obtain ⟨fuel0, f0⟩ := h0
  obtain ⟨u0, K0, W0⟩ := opens0 f0
  obtain ⟨n0, rfl, _, _, _⟩ := open_int Try.underlying23 (hval 0 23 v0 rfl rfl) k0
  simp only [Value.cells] at K0
  obtain rfl : u0 = n0 := (by simpa [Kd.int, Kd.scalar] using K0 : n0 = u0).symm
  clear hA0 hval0 hsz0 hval
  have hk := Pure.FnExactFloatOf (u0) (W0)
  refine (PFnExactFloatOf.laws_FnExactFloatOf.calls (u0) W hk).mono fun e W' ⟨he, bel0⟩ => ?_
  have bel : Below W.heap.size W W' := bel0
  subst he
  exact ⟨_, rfl, _, _, _, [], _, [], hW', trodAll_mk1 (shut_bool Try.underlying4 _), (trodAll_cons_mk (Below.trod laidOut (by kernel_rfl) (of_decide_eq_true (by kernel_rfl)) k0 bel lt0) trodAll_mk0), rfl, bel.frame _, fun h => by cases h⟩
theorem over : Rows.fnExactFloatOfRow.holds Try.pinned (OpenSpec.ofChange Rows.fnExactFloatOfSpec) :=
  OpenClaim.holds_of_wide 4 Try.f4 rfl rfl rfl rfl rfl rfl rfl ⟨rfl, rfl, rfl, rfl, rfl⟩ rfl rfl rfl rfl rfl (by kernel_rfl) Try.func4 (by kernel_rfl)
    (of_decide_eq_true (by kernel_rfl)) (by unfold Func.isWrapper; first | (rw [if_pos (by decide +kernel)]; kernel_rfl) | (rw [if_neg (by decide +kernel)]; exact ⟨rfl, rfl⟩))
    (fun os started H enc _ => lifted os started H enc)
theorem proved : Rows.FnExactFloatOfSaid := over
#print axioms proved
end Go.Proofs.Ytjbocmkphnmfgaa.fnExactFloatOf
namespace Go.Proofs.Ytjbocmkphnmfgaa
/-- The row, under a short name, for the claim. -/
theorem fnExactFloatOf_holds : Rows.FnExactFloatOfSaid := fnExactFloatOf.proved
end Go.Proofs.Ytjbocmkphnmfgaa
