-- By this session's own program (wip/xlaw.py): the row of the law FnExactFloatUnrank, out of its pure statement and the contract of its function.
import Derived.Test.YtjbocmkphnmfgaaRows
import Derived.Test.YtjbocmkphnmfgaaPFnExactFloatUnrankx2
import Derived.Test.YtjbocmkphnmfgaaPureFnExactFloatUnrank
import Derived.Test.YtjbocmkphnmfgaaXOpen
import Derived.WalkKit
import Derived.ProofKit
import Derived.OpenShut
import Derived.ShutString
import Derived.ChangeOld
import Derived.Below
import Derived.SizedLaws
import Derived.Carry
namespace Go.Proofs.Ytjbocmkphnmfgaa.fnExactFloatUnrank
open Go.ChangeShapes Go.WideShapes Go.ChangeAt Go.RowKit Go.Proofs.YtjbocmkphnmfgaaW.PrintWords Go.Proofs.YtjbocmkphnmfgaaX Go.Proofs.Ytjbocmkphnmfgaa.PFnExactFloatUnrank
set_option linter.unusedVariables false
theorem own : ownKnob Try.prog.godebug = none := by kernel_rfl
theorem laidOut : laidOutB Try.prog = true := by kernel_rfl
theorem opens0 : Opens Try.prog 23 (Kd.int .u64) (fun n => (Lit.int .u64 n).wf = true) := (opens_int Try.underlying23)
set_option maxRecDepth 100000 in
theorem lifted (os : Os) (started : os.Started) (H : Type) (enc : TypeId × Value → H) :
    ReturnsInHanded {} Try.checked os 8 .any (Rows.fnExactFloatUnrankSpec.pre6 enc Try.prog Try.f8 Rows.fnExactFloatUnrankRow.domain false) (Rows.fnExactFloatUnrankSpec.post enc Try.prog Try.f8 false true false false) := by
  refine returnsInHanded_of_change_sized (C := Try.checked) own started (by kernel_rfl) Try.func8
    (ChangeSpec.witness6 (enc := enc) (C := Try.checked) false ⟨#[], #[.int .u64 0], []⟩ 8 (by kernel_rfl) (by kernel_rfl) (by kernel_rfl) (by kernel_rfl)) ?_
  intro W base args ds gs before hval0 hW hcnd hsz0 _
  have hval : ∀ (j : Nat) t v, Try.f8.params[j]? = some t → args[j]? = some v → Value.okWide Try.prog W .any base t v := hval0
  have hW' := hW
  obtain ⟨p, q, hA0, hV, rfl, hfz, hnd⟩ := hW
  have hA : DataW.TrodAll enc Try.prog W 0 (fun _ => true) true Try.f8.params.toList args.toList ds p := hA0
  rw [Try.params8] at hA hval
  obtain ⟨v0, vs0, d0, ds0, p0, q0, hargs, rfl, rfl, h0, r0⟩ := trodAll_cons hA
  obtain ⟨rfl, rfl, rfl⟩ := trodAll_nil r0
  obtain rfl : args = #[v0] := by cases args; simp_all
  obtain ⟨rfl, rfl⟩ := trodVars_none hV
  have k0 := h0
  have lt0 : ∀ x ∈ p0, x.block < W.heap.size := by obtain ⟨m, hm⟩ := k0; exact DataW.trod_lt m _ _ _ hm
  obtain ⟨fuel0, f0⟩ := h0
  obtain ⟨u0, K0, W0⟩ := opens0 f0
  obtain ⟨n0, rfl, _, _, _⟩ := open_int Try.underlying23 (hval 0 23 v0 rfl rfl) k0
  simp only [Value.cells] at K0
  obtain rfl : u0 = n0 := (by simpa [Kd.int, Kd.scalar] using K0 : n0 = u0).symm
  clear hA0 hval0 hsz0 hval
  have hk := Pure.FnExactFloatUnrank (u0) (W0)
  refine (PFnExactFloatUnrank.laws_FnExactFloatUnrank.calls (u0) W hk).mono fun e W' ⟨he, bel0⟩ => ?_
  have bel : Below W.heap.size W W' := bel0
  subst he
  exact ⟨_, rfl, _, _, _, [], _, [], hW', trodAll_mk1 (shut_bool Try.underlying4 _), (trodAll_cons_mk (Below.trod laidOut (by kernel_rfl) (of_decide_eq_true (by kernel_rfl)) k0 bel lt0) trodAll_mk0), rfl, bel.frame _, fun h => by cases h⟩
theorem over : Rows.fnExactFloatUnrankRow.holds Try.pinned (OpenSpec.ofChange Rows.fnExactFloatUnrankSpec) :=
  OpenClaim.holds_of_wide 8 Try.f8 rfl rfl rfl rfl rfl rfl rfl ⟨rfl, rfl, rfl, rfl, rfl⟩ rfl rfl rfl rfl rfl (by kernel_rfl) Try.func8 (by kernel_rfl)
    (of_decide_eq_true (by kernel_rfl)) (by unfold Func.isWrapper; first | (rw [if_pos (by decide +kernel)]; kernel_rfl) | (rw [if_neg (by decide +kernel)]; exact ⟨rfl, rfl⟩))
    (fun os started H enc _ => lifted os started H enc)
theorem proved : Rows.FnExactFloatUnrankSaid := over
#print axioms proved
end Go.Proofs.Ytjbocmkphnmfgaa.fnExactFloatUnrank
namespace Go.Proofs.Ytjbocmkphnmfgaa
/-- The row, under a short name, for the claim. -/
theorem fnExactFloatUnrank_holds : Rows.FnExactFloatUnrankSaid := fnExactFloatUnrank.proved
end Go.Proofs.Ytjbocmkphnmfgaa
