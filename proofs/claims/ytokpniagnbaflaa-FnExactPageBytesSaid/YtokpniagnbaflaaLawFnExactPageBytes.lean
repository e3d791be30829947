-- By this session's own program (wip/xlaw.py): the row of the law FnExactPageBytes, out of its pure statement and the contract of its function.
import Derived.Test.YtokpniagnbaflaaRows
import Derived.Test.YtokpniagnbaflaaPFnExactPageBytesx5
import Derived.Test.YtokpniagnbaflaaPureFnExactPageBytes
import Derived.Test.YtokpniagnbaflaaXOpen
import Derived.WalkKit
import Derived.ProofKit
import Derived.OpenShut
import Derived.ShutString
import Derived.ChangeOld
import Derived.Below
import Derived.SizedLaws
import Derived.Carry
namespace Go.Proofs.Ytokpniagnbaflaa.fnExactPageBytes
open Go.ChangeShapes Go.WideShapes Go.ChangeAt Go.RowKit Go.Proofs.YtokpniagnbaflaaW.PrintWords Go.Proofs.YtokpniagnbaflaaX Go.Proofs.Ytokpniagnbaflaa.PFnExactPageBytes
set_option linter.unusedVariables false
theorem own : ownKnob Try.prog.godebug = none := by kernel_rfl
theorem laidOut : laidOutB Try.prog = true := by kernel_rfl
theorem opens0 : Opens Try.prog 24 (Kd.pair (Kd.int .i64) (Kd.slice 36 (Kd.slice 5 (Kd.int .u8)))) (fun v => (fun n => (Lit.int .i64 n).wf = true) v.1 ∧ (fun xs => xs.length ≤ 9223372036854775807 ∧ ∀ x ∈ xs, (fun xs => xs.length ≤ 9223372036854775807 ∧ ∀ x ∈ xs, (fun n => (Lit.int .u8 n).wf = true) x) x) v.2) := (opens_struct Try.underlying24 (by kernel_rfl) (by kernel_rfl) (at_cons (n := 1) (o := 0) (opens_int Try.underlying3) (by kernel_rfl) (at_last (total := 2) (o := 1) (opens_slice Try.underlying22 (by kernel_rfl) (opens_slice Try.underlying36 (by kernel_rfl) (opens_int Try.underlying5))) (by kernel_rfl))))
set_option maxRecDepth 100000 in
theorem lifted (os : Os) (started : os.Started) (H : Type) (enc : TypeId × Value → H) :
    ReturnsInHanded {} Try.checked os 7 .any (Rows.fnExactPageBytesSpec.pre6 enc Try.prog Try.f7 Rows.fnExactPageBytesRow.domain false) (Rows.fnExactPageBytesSpec.post enc Try.prog Try.f7 false true false false) := by
  refine returnsInHanded_of_change_sized (C := Try.checked) own started (by kernel_rfl) Try.func7
    (ChangeSpec.witness6 (enc := enc) (C := Try.checked) false ⟨#[], #[.agg #[.int .i64 0, .slice none 0 0]], []⟩ 8 (by kernel_rfl) (by kernel_rfl) (by kernel_rfl) (by kernel_rfl)) ?_
  intro W base args ds gs before hval0 hW hcnd hsz0 _
  have hval : ∀ (j : Nat) t v, Try.f7.params[j]? = some t → args[j]? = some v → Value.okWide Try.prog W .any base t v := hval0
  have hW' := hW
  obtain ⟨p, q, hA0, hV, rfl, hfz, hnd⟩ := hW
  have hA : DataW.TrodAll enc Try.prog W 0 (fun _ => true) true Try.f7.params.toList args.toList ds p := hA0
  rw [Try.params7] at hA hval
  obtain ⟨v0, vs0, d0, ds0, p0, q0, hargs, rfl, rfl, h0, r0⟩ := trodAll_cons hA
  obtain ⟨rfl, rfl, rfl⟩ := trodAll_nil r0
  obtain rfl : args = #[v0] := by cases args; simp_all
  obtain ⟨rfl, rfl⟩ := trodVars_none hV
  have k0 := h0
  have lt0 : ∀ x ∈ p0, x.block < W.heap.size := by obtain ⟨m, hm⟩ := k0; exact DataW.trod_lt m _ _ _ hm
  obtain ⟨fuel0, f0⟩ := h0
  obtain ⟨u0, K0, W0⟩ := opens0 f0
  obtain ⟨cs0, rfl, z0⟩ := okWide_struct Try.underlying24 (hval 0 24 v0 rfl rfl)
  change _ at K0
  obtain ⟨y0, hy0⟩ : ∃ y : List Value, cs0.toList = y := ⟨_, rfl⟩
  simp only [Value.cells, hy0] at K0
  obtain ⟨_, _, rfl, rfl, ⟨A_1, c_1, rfl, l_1, g_1⟩⟩ := K0
  obtain rfl : cs0 = #[.int .i64 u0.1, .slice A_1 u0.2.length c_1] := by cases cs0; simpa using hy0
  clear hA0 hval0 hsz0 hval
  have hk := Pure.FnExactPageBytes (u0.1) (u0.2) (W0.1) (W0.2)
  refine (PFnExactPageBytes.laws_FnExactPageBytes.calls (u0.1) _ _ (u0.2) W g_1 l_1 hk).mono fun e W' ⟨he, bel0⟩ => ?_
  have bel : Below W.heap.size W W' := bel0
  subst he
  exact ⟨_, rfl, _, _, _, [], _, [], hW', trodAll_mk1 (shut_bool Try.underlying4 _), (trodAll_cons_mk (Below.trod laidOut (by kernel_rfl) (of_decide_eq_true (by kernel_rfl)) k0 bel lt0) trodAll_mk0), rfl, bel.frame _, fun h => by cases h⟩
theorem over : Rows.fnExactPageBytesRow.holds Try.pinned (OpenSpec.ofChange Rows.fnExactPageBytesSpec) :=
  OpenClaim.holds_of_wide 7 Try.f7 rfl rfl rfl rfl rfl rfl rfl ⟨rfl, rfl, rfl, rfl, rfl⟩ rfl rfl rfl rfl rfl (by kernel_rfl) Try.func7 (by kernel_rfl)
    (of_decide_eq_true (by kernel_rfl)) (by unfold Func.isWrapper; first | (rw [if_pos (by decide +kernel)]; kernel_rfl) | (rw [if_neg (by decide +kernel)]; exact ⟨rfl, rfl⟩))
    (fun os started H enc _ => lifted os started H enc)
theorem proved : Rows.FnExactPageBytesSaid := over
#print axioms proved
end Go.Proofs.Ytokpniagnbaflaa.fnExactPageBytes
namespace Go.Proofs.Ytokpniagnbaflaa
/-- The row, under a short name, for the claim. -/
theorem fnExactPageBytes_holds : Rows.FnExactPageBytesSaid := fnExactPageBytes.proved
end Go.Proofs.Ytokpniagnbaflaa
