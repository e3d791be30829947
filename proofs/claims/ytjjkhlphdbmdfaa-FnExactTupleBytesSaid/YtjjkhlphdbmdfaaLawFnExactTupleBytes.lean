-- By this session's own program (wip/xlaw.py): the row of the law FnExactTupleBytes, out of its pure statement and the contract of its function.
import Derived.Test.YtjjkhlphdbmdfaaRows
import Derived.Test.YtjjkhlphdbmdfaaPFnExactTupleBytesx8
import Derived.Test.YtjjkhlphdbmdfaaPureFnExactTupleBytes
import Derived.Test.YtjjkhlphdbmdfaaXOpen
import Derived.WalkKit
import Derived.ProofKit
import Derived.OpenShut
import Derived.ShutString
import Derived.ChangeOld
import Derived.Below
import Derived.SizedLaws
import Derived.Carry
namespace Go.Proofs.Ytjjkhlphdbmdfaa.fnExactTupleBytes
open Go.ChangeShapes Go.WideShapes Go.ChangeAt Go.RowKit Go.Proofs.YtjjkhlphdbmdfaaW.PrintWords Go.Proofs.YtjjkhlphdbmdfaaX Go.Proofs.Ytjjkhlphdbmdfaa.PFnExactTupleBytes
set_option linter.unusedVariables false
theorem own : ownKnob Try.prog.godebug = none := by kernel_rfl
theorem laidOut : laidOutB Try.prog = true := by kernel_rfl
theorem opens0 : Opens Try.prog 45 (Kd.pair (Kd.int .i64) (Kd.pair (Kd.int .i64) (Kd.pair (Kd.pair (Kd.int .i64) (Kd.pair (Kd.int .i64) (Kd.pair Kd.flt (Kd.slice 5 (Kd.int .u8))))) (Kd.pair (Kd.int .i64) (Kd.pair (Kd.int .i64) (Kd.pair Kd.flt (Kd.slice 5 (Kd.int .u8)))))))) (fun v => (fun n => (Lit.int .i64 n).wf = true) v.1 ∧ (fun v => (fun n => (Lit.int .i64 n).wf = true) v.1 ∧ (fun v => (fun v => (fun n => (Lit.int .i64 n).wf = true) v.1 ∧ (fun v => (fun n => (Lit.int .i64 n).wf = true) v.1 ∧ (fun v => (fun b => b < 2 ^ 64) v.1 ∧ (fun xs => xs.length ≤ 9223372036854775807 ∧ ∀ x ∈ xs, (fun n => (Lit.int .u8 n).wf = true) x) v.2) v.2) v.2) v.1 ∧ (fun v => (fun n => (Lit.int .i64 n).wf = true) v.1 ∧ (fun v => (fun n => (Lit.int .i64 n).wf = true) v.1 ∧ (fun v => (fun b => b < 2 ^ 64) v.1 ∧ (fun xs => xs.length ≤ 9223372036854775807 ∧ ∀ x ∈ xs, (fun n => (Lit.int .u8 n).wf = true) x) v.2) v.2) v.2) v.2) v.2) v.2) := (opens_struct Try.underlying45 (by kernel_rfl) (by kernel_rfl) (at_cons (n := 1) (o := 0) (opens_int Try.underlying3) (by kernel_rfl) (at_cons (n := 1) (o := 1) (opens_int Try.underlying3) (by kernel_rfl) (at_cons (n := 4) (o := 2) (opens_struct Try.underlying43 (by kernel_rfl) (by kernel_rfl) (at_cons (n := 1) (o := 0) (opens_int Try.underlying3) (by kernel_rfl) (at_cons (n := 1) (o := 1) (opens_int Try.underlying3) (by kernel_rfl) (at_cons (n := 1) (o := 2) (opens_flt Try.underlying23) (by kernel_rfl) (at_last (total := 4) (o := 3) (opens_slice Try.underlying22 (by kernel_rfl) (opens_int Try.underlying5)) (by kernel_rfl)))))) (by kernel_rfl) (at_last (total := 10) (o := 6) (opens_struct Try.underlying43 (by kernel_rfl) (by kernel_rfl) (at_cons (n := 1) (o := 0) (opens_int Try.underlying3) (by kernel_rfl) (at_cons (n := 1) (o := 1) (opens_int Try.underlying3) (by kernel_rfl) (at_cons (n := 1) (o := 2) (opens_flt Try.underlying23) (by kernel_rfl) (at_last (total := 4) (o := 3) (opens_slice Try.underlying22 (by kernel_rfl) (opens_int Try.underlying5)) (by kernel_rfl)))))) (by kernel_rfl))))))
set_option maxRecDepth 100000 in
theorem lifted (os : Os) (started : os.Started) (H : Type) (enc : TypeId × Value → H) :
    ReturnsInHanded {} Try.checked os 6 .any (Rows.fnExactTupleBytesSpec.pre6 enc Try.prog Try.f6 Rows.fnExactTupleBytesRow.domain false) (Rows.fnExactTupleBytesSpec.post enc Try.prog Try.f6 false true false false) := by
  refine returnsInHanded_of_change_sized (C := Try.checked) own started (by kernel_rfl) Try.func6
    (ChangeSpec.witness6 (enc := enc) (C := Try.checked) false ⟨#[], #[.agg #[.int .i64 0, .int .i64 0, .int .i64 0, .int .i64 0, .float .f64 0, .slice none 0 0, .int .i64 0, .int .i64 0, .float .f64 0, .slice none 0 0]], []⟩ 8 (by kernel_rfl) (by kernel_rfl) (by kernel_rfl) (by kernel_rfl)) ?_
  intro W base args ds gs before hval0 hW hcnd hsz0 _
  have hval : ∀ (j : Nat) t v, Try.f6.params[j]? = some t → args[j]? = some v → Value.okWide Try.prog W .any base t v := hval0
  have hW' := hW
  obtain ⟨p, q, hA0, hV, rfl, hfz, hnd⟩ := hW
  have hA : DataW.TrodAll enc Try.prog W 0 (fun _ => true) true Try.f6.params.toList args.toList ds p := hA0
  rw [Try.params6] at hA hval
  obtain ⟨v0, vs0, d0, ds0, p0, q0, hargs, rfl, rfl, h0, r0⟩ := trodAll_cons hA
  obtain ⟨rfl, rfl, rfl⟩ := trodAll_nil r0
  obtain rfl : args = #[v0] := by cases args; simp_all
  obtain ⟨rfl, rfl⟩ := trodVars_none hV
  have k0 := h0
  have lt0 : ∀ x ∈ p0, x.block < W.heap.size := by obtain ⟨m, hm⟩ := k0; exact DataW.trod_lt m _ _ _ hm
  obtain ⟨fuel0, f0⟩ := h0
  obtain ⟨u0, K0, W0⟩ := opens0 f0
  obtain ⟨cs0, rfl, z0⟩ := okWide_struct Try.underlying45 (hval 0 45 v0 rfl rfl)
  change _ at K0
  obtain ⟨y0, hy0⟩ : ∃ y : List Value, cs0.toList = y := ⟨_, rfl⟩
  simp only [Value.cells, hy0] at K0
  obtain ⟨_, _, rfl, rfl, ⟨_, _, rfl, rfl, ⟨_, _, rfl, ⟨_, _, rfl, rfl, ⟨_, _, rfl, rfl, ⟨_, _, rfl, rfl, ⟨A_1, c_1, rfl, l_1, g_1⟩⟩⟩⟩, ⟨_, _, rfl, rfl, ⟨_, _, rfl, rfl, ⟨_, _, rfl, rfl, ⟨A_2, c_2, rfl, l_2, g_2⟩⟩⟩⟩⟩⟩⟩ := K0
  obtain rfl : cs0 = #[.int .i64 u0.1, .int .i64 u0.2.1, .int .i64 u0.2.2.1.1, .int .i64 u0.2.2.1.2.1, .float .f64 u0.2.2.1.2.2.1, .slice A_1 u0.2.2.1.2.2.2.length c_1, .int .i64 u0.2.2.2.1, .int .i64 u0.2.2.2.2.1, .float .f64 u0.2.2.2.2.2.1, .slice A_2 u0.2.2.2.2.2.2.length c_2] := by cases cs0; simpa using hy0
  clear hA0 hval0 hsz0 hval
  obtain ⟨k, hk⟩ := Pure.FnExactTupleBytes (u0.1) (u0.2.1) (u0.2.2.1.1) (u0.2.2.1.2.1) (u0.2.2.1.2.2.1) (u0.2.2.1.2.2.2) (u0.2.2.2.1) (u0.2.2.2.2.1) (u0.2.2.2.2.2.1) (u0.2.2.2.2.2.2) (W0.1) (W0.2.1) (W0.2.2.1.1) (W0.2.2.1.2.1) (W0.2.2.1.2.2.1) (W0.2.2.1.2.2.2) (W0.2.2.2.1) (W0.2.2.2.2.1) (W0.2.2.2.2.2.1) (W0.2.2.2.2.2.2)
  refine (PFnExactTupleBytes.laws_FnExactTupleBytes.calls k (u0.1) (u0.2.1) (u0.2.2.1.1) (u0.2.2.1.2.1) (u0.2.2.1.2.2.1) _ _ (u0.2.2.1.2.2.2) (u0.2.2.2.1) (u0.2.2.2.2.1) (u0.2.2.2.2.2.1) _ _ (u0.2.2.2.2.2.2) true W g_1 l_1 g_2 l_2 hk rfl).mono fun e W' ⟨he, bel0⟩ => ?_
  have bel : Below W.heap.size W W' := bel0
  subst he
  exact ⟨_, rfl, _, _, _, [], _, [], hW', trodAll_mk1 (shut_bool Try.underlying4 _), (trodAll_cons_mk (Below.trod laidOut (by kernel_rfl) (of_decide_eq_true (by kernel_rfl)) k0 bel lt0) trodAll_mk0), rfl, bel.frame _, fun h => by cases h⟩
theorem over : Rows.fnExactTupleBytesRow.holds Try.pinned (OpenSpec.ofChange Rows.fnExactTupleBytesSpec) :=
  OpenClaim.holds_of_wide 6 Try.f6 rfl rfl rfl rfl rfl rfl rfl ⟨rfl, rfl, rfl, rfl, rfl⟩ rfl rfl rfl rfl rfl (by kernel_rfl) Try.func6 (by kernel_rfl)
    (of_decide_eq_true (by kernel_rfl)) (by unfold Func.isWrapper; first | (rw [if_pos (by decide +kernel)]; kernel_rfl) | (rw [if_neg (by decide +kernel)]; exact ⟨rfl, rfl⟩))
    (fun os started H enc _ => lifted os started H enc)
theorem proved : Rows.FnExactTupleBytesSaid := over
#print axioms proved
end Go.Proofs.Ytjjkhlphdbmdfaa.fnExactTupleBytes
namespace Go.Proofs.Ytjjkhlphdbmdfaa
/-- The row, under a short name, for the claim. -/
theorem fnExactTupleBytes_holds : Rows.FnExactTupleBytesSaid := fnExactTupleBytes.proved
end Go.Proofs.Ytjjkhlphdbmdfaa
