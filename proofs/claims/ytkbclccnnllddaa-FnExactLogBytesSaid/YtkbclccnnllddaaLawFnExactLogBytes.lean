-- By this session's own program (wip/xlaw.py): the row of the law FnExactLogBytes, out of its pure statement and the contract of its function.
import Derived.Test.YtkbclccnnllddaaRows
import Derived.Test.YtkbclccnnllddaaPFnExactLogBytesx8
import Derived.Test.YtkbclccnnllddaaPureFnExactLogBytes
import Derived.Test.YtkbclccnnllddaaXOpen
import Derived.WalkKit
import Derived.ProofKit
import Derived.OpenShut
import Derived.ShutString
import Derived.ChangeOld
import Derived.Below
import Derived.SizedLaws
import Derived.Carry
namespace Go.Proofs.Ytkbclccnnllddaa.fnExactLogBytes
open Go.ChangeShapes Go.WideShapes Go.ChangeAt Go.RowKit Go.Proofs.YtkbclccnnllddaaW.PrintWords Go.Proofs.YtkbclccnnllddaaX Go.Proofs.Ytkbclccnnllddaa.PFnExactLogBytes
set_option linter.unusedVariables false
theorem own : ownKnob Try.prog.godebug = none := by kernel_rfl
theorem laidOut : laidOutB Try.prog = true := by kernel_rfl
theorem opens0 : Opens Try.prog 50 (Kd.slice 34 k34) (fun xs => xs.length ≤ 9223372036854775807 ∧ ∀ x ∈ xs, (fun x => (fun v => (fun n => (Lit.int .i64 n).wf = true) v.1 ∧ (fun v => (fun n => (Lit.int .i64 n).wf = true) v.1 ∧ (fun v => (fun n => (Lit.int .i64 n).wf = true) v.1 ∧ (fun v => (fun n => (Lit.int .i64 n).wf = true) v.1 ∧ (fun v => (fun n => (Lit.int .i64 n).wf = true) v.1 ∧ (fun xs => xs.length ≤ 9223372036854775807 ∧ ∀ x ∈ xs, (fun n => (Lit.int .u8 n).wf = true) x) v.2) v.2) v.2) v.2) v.2) (x.f0, x.f1, x.f2, x.f3, x.f4, x.f5)) x) := (opens_slice Try.underlying50 (by kernel_rfl) (opens_iso (opens_struct Try.underlying34 (by kernel_rfl) (by kernel_rfl) (at_cons (n := 1) (o := 0) (opens_int Try.underlying3) (by kernel_rfl) (at_cons (n := 1) (o := 1) (opens_int Try.underlying3) (by kernel_rfl) (at_cons (n := 1) (o := 2) (opens_int Try.underlying3) (by kernel_rfl) (at_cons (n := 1) (o := 3) (opens_int Try.underlying3) (by kernel_rfl) (at_cons (n := 1) (o := 4) (opens_int Try.underlying3) (by kernel_rfl) (at_last (total := 6) (o := 5) (opens_slice Try.underlying22 (by kernel_rfl) (opens_int Try.underlying5)) (by kernel_rfl)))))))) (fun x : S34 => (x.f0, x.f1, x.f2, x.f3, x.f4, x.f5)) (fun v => ⟨v.1, v.2.1, v.2.2.1, v.2.2.2.1, v.2.2.2.2.1, v.2.2.2.2.2⟩) (fun v => rfl)))
set_option maxRecDepth 100000 in
theorem lifted (os : Os) (started : os.Started) (H : Type) (enc : TypeId × Value → H) :
    ReturnsInHanded {} Try.checked os 10 .any (Rows.fnExactLogBytesSpec.pre6 enc Try.prog Try.f10 Rows.fnExactLogBytesRow.domain false) (Rows.fnExactLogBytesSpec.post enc Try.prog Try.f10 false true false false) := by
  refine returnsInHanded_of_change_sized (C := Try.checked) own started (by kernel_rfl) Try.func10
    (ChangeSpec.witness6 (enc := enc) (C := Try.checked) false ⟨#[], #[.slice none 0 0], []⟩ 8 (by kernel_rfl) (by kernel_rfl) (by kernel_rfl) (by kernel_rfl)) ?_
  intro W base args ds gs before hval0 hW hcnd hsz0 _
  have hval : ∀ (j : Nat) t v, Try.f10.params[j]? = some t → args[j]? = some v → Value.okWide Try.prog W .any base t v := hval0
  have hW' := hW
  obtain ⟨p, q, hA0, hV, rfl, hfz, hnd⟩ := hW
  have hA : DataW.TrodAll enc Try.prog W 0 (fun _ => true) true Try.f10.params.toList args.toList ds p := hA0
  rw [Try.params10] at hA hval
  obtain ⟨v0, vs0, d0, ds0, p0, q0, hargs, rfl, rfl, h0, r0⟩ := trodAll_cons hA
  obtain ⟨rfl, rfl, rfl⟩ := trodAll_nil r0
  obtain rfl : args = #[v0] := by cases args; simp_all
  obtain ⟨rfl, rfl⟩ := trodVars_none hV
  have k0 := h0
  have lt0 : ∀ x ∈ p0, x.block < W.heap.size := by obtain ⟨m, hm⟩ := k0; exact DataW.trod_lt m _ _ _ hm
  obtain ⟨fuel0, f0⟩ := h0
  obtain ⟨u0, K0, W0⟩ := opens0 f0
  obtain ⟨a0, n0, b0, rfl⟩ := okWide_slice Try.underlying50 (hval 0 50 v0 rfl rfl)
  obtain ⟨A_1, c_1, e0, l_1, g_1⟩ := K0
  simp only [Value.cells, List.cons.injEq, Value.slice.injEq, and_true] at e0
  obtain ⟨rfl, rfl, rfl⟩ := e0
  clear hA0 hval0 hsz0 hval
  have hk := Pure.FnExactLogBytes (u0) (W0)
  refine (PFnExactLogBytes.laws_FnExactLogBytes.calls _ _ (u0) W g_1 l_1 hk).mono fun e W' ⟨he, bel0⟩ => ?_
  have bel : Below W.heap.size W W' := bel0
  subst he
  exact ⟨_, rfl, _, _, _, [], _, [], hW', trodAll_mk1 (shut_bool Try.underlying4 _), (trodAll_cons_mk (Below.trod laidOut (by kernel_rfl) (of_decide_eq_true (by kernel_rfl)) k0 bel lt0) trodAll_mk0), rfl, bel.frame _, fun h => by cases h⟩
theorem over : Rows.fnExactLogBytesRow.holds Try.pinned (OpenSpec.ofChange Rows.fnExactLogBytesSpec) :=
  OpenClaim.holds_of_wide 10 Try.f10 rfl rfl rfl rfl rfl rfl rfl ⟨rfl, rfl, rfl, rfl, rfl⟩ rfl rfl rfl rfl rfl (by kernel_rfl) Try.func10 (by kernel_rfl)
    (of_decide_eq_true (by kernel_rfl)) (by unfold Func.isWrapper; first | (rw [if_pos (by decide +kernel)]; kernel_rfl) | (rw [if_neg (by decide +kernel)]; exact ⟨rfl, rfl⟩))
    (fun os started H enc _ => lifted os started H enc)
theorem proved : Rows.FnExactLogBytesSaid := over
#print axioms proved
end Go.Proofs.Ytkbclccnnllddaa.fnExactLogBytes
namespace Go.Proofs.Ytkbclccnnllddaa
/-- The row, under a short name, for the claim. -/
theorem fnExactLogBytes_holds : Rows.FnExactLogBytesSaid := fnExactLogBytes.proved
end Go.Proofs.Ytkbclccnnllddaa
