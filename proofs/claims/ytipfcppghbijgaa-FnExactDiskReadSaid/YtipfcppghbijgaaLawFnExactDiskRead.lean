-- By this session's own program (wip/xlaw.py): the row of the law FnExactDiskRead, out of its pure statement and the contract of its function.
import Derived.Test.YtipfcppghbijgaaRows
import Derived.Test.YtipfcppghbijgaaPFnExactDiskReadx6
import Derived.Test.YtipfcppghbijgaaPureFnExactDiskRead
import Derived.Test.YtipfcppghbijgaaXOpen
import Derived.WalkKit
import Derived.ProofKit
import Derived.OpenShut
import Derived.ShutString
import Derived.ChangeOld
import Derived.Below
import Derived.SizedLaws
import Derived.Carry
namespace Go.Proofs.Ytipfcppghbijgaa.fnExactDiskRead
open Go.ChangeShapes Go.WideShapes Go.ChangeAt Go.RowKit Go.Proofs.YtipfcppghbijgaaW.PrintWords Go.Proofs.YtipfcppghbijgaaX Go.Proofs.Ytipfcppghbijgaa.PFnExactDiskRead
set_option linter.unusedVariables false
theorem own : ownKnob Try.prog.godebug = none := by kernel_rfl
theorem laidOut : laidOutB Try.prog = true := by kernel_rfl
theorem opens0 : Opens Try.prog 32 (Kd.pair (Kd.slice 37 (Kd.slice 5 (Kd.int .u8))) (Kd.pair (Kd.slice 83 k83) (Kd.pair (Kd.int .i64) Kd.bool))) (fun v => (fun xs => xs.length ≤ 9223372036854775807 ∧ ∀ x ∈ xs, (fun xs => xs.length ≤ 9223372036854775807 ∧ ∀ x ∈ xs, (fun n => (Lit.int .u8 n).wf = true) x) x) v.1 ∧ (fun v => (fun xs => xs.length ≤ 9223372036854775807 ∧ ∀ x ∈ xs, (fun x => (fun v => (fun n => (Lit.int .i64 n).wf = true) v.1 ∧ (fun xs => xs.length ≤ 9223372036854775807 ∧ ∀ x ∈ xs, (fun n => (Lit.int .u8 n).wf = true) x) v.2) (x.f0, x.f1)) x) v.1 ∧ (fun v => (fun n => (Lit.int .i64 n).wf = true) v.1 ∧ (fun _ => True) v.2) v.2) v.2) := (opens_struct Try.underlying32 (by kernel_rfl) (by kernel_rfl) (at_cons (n := 1) (o := 0) (opens_slice Try.underlying22 (by kernel_rfl) (opens_slice Try.underlying37 (by kernel_rfl) (opens_int Try.underlying5))) (by kernel_rfl) (at_cons (n := 1) (o := 1) (opens_slice Try.underlying30 (by kernel_rfl) (opens_iso (opens_struct Try.underlying83 (by kernel_rfl) (by kernel_rfl) (at_cons (n := 1) (o := 0) (opens_int Try.underlying3) (by kernel_rfl) (at_last (total := 2) (o := 1) (opens_slice Try.underlying37 (by kernel_rfl) (opens_int Try.underlying5)) (by kernel_rfl)))) (fun x : S83 => (x.f0, x.f1)) (fun v => ⟨v.1, v.2⟩) (fun v => rfl))) (by kernel_rfl) (at_cons (n := 1) (o := 2) (opens_int Try.underlying3) (by kernel_rfl) (at_last (total := 4) (o := 3) (opens_bool Try.underlying4) (by kernel_rfl))))))
theorem opens1 : Opens Try.prog 3 (Kd.int .i64) (fun n => (Lit.int .i64 n).wf = true) := (opens_int Try.underlying3)
set_option maxRecDepth 100000 in
theorem lifted (os : Os) (started : os.Started) (H : Type) (enc : TypeId × Value → H) :
    ReturnsInHanded {} Try.checked os 5 .any (Rows.fnExactDiskReadSpec.pre6 enc Try.prog Try.f5 Rows.fnExactDiskReadRow.domain false) (Rows.fnExactDiskReadSpec.post enc Try.prog Try.f5 false true false false) := by
  refine returnsInHanded_of_change_sized (C := Try.checked) own started (by kernel_rfl) Try.func5
    (ChangeSpec.witness6 (enc := enc) (C := Try.checked) false ⟨#[], #[.agg #[.slice none 0 0, .slice none 0 0, .int .i64 0, .bool false], .int .i64 0], []⟩ 8 (by kernel_rfl) (by kernel_rfl) (by kernel_rfl) (by kernel_rfl)) ?_
  intro W base args ds gs before hval0 hW hcnd hsz0 _
  have hval : ∀ (j : Nat) t v, Try.f5.params[j]? = some t → args[j]? = some v → Value.okWide Try.prog W .any base t v := hval0
  have hW' := hW
  obtain ⟨p, q, hA0, hV, rfl, hfz, hnd⟩ := hW
  have hA : DataW.TrodAll enc Try.prog W 0 (fun _ => true) true Try.f5.params.toList args.toList ds p := hA0
  rw [Try.params5] at hA hval
  obtain ⟨v0, vs0, d0, ds0, p0, q0, hargs, rfl, rfl, h0, r0⟩ := trodAll_cons hA
  obtain ⟨v1, vs1, d1, ds1, p1, q1, rfl, rfl, rfl, h1, r1⟩ := trodAll_cons r0
  obtain ⟨rfl, rfl, rfl⟩ := trodAll_nil r1
  obtain rfl : args = #[v0, v1] := by cases args; simp_all
  obtain ⟨rfl, rfl⟩ := trodVars_none hV
  have k0 := h0
  have lt0 : ∀ x ∈ p0, x.block < W.heap.size := by obtain ⟨m, hm⟩ := k0; exact DataW.trod_lt m _ _ _ hm
  obtain ⟨fuel0, f0⟩ := h0
  obtain ⟨u0, K0, W0⟩ := opens0 f0
  obtain ⟨cs0, rfl, z0⟩ := okWide_struct Try.underlying32 (hval 0 32 v0 rfl rfl)
  change _ at K0
  obtain ⟨y0, hy0⟩ : ∃ y : List Value, cs0.toList = y := ⟨_, rfl⟩
  simp only [Value.cells, hy0] at K0
  obtain ⟨_, _, rfl, ⟨A_1, c_1, rfl, l_1, g_1⟩, ⟨_, _, rfl, ⟨A_2, c_2, rfl, l_2, g_2⟩, ⟨_, _, rfl, rfl, rfl⟩⟩⟩ := K0
  obtain rfl : cs0 = #[.slice A_1 u0.1.length c_1, .slice A_2 u0.2.1.length c_2, .int .i64 u0.2.2.1, .bool u0.2.2.2] := by cases cs0; simpa using hy0
  have k1 := h1
  have lt1 : ∀ x ∈ p1, x.block < W.heap.size := by obtain ⟨m, hm⟩ := k1; exact DataW.trod_lt m _ _ _ hm
  obtain ⟨fuel1, f1⟩ := h1
  obtain ⟨u1, K1, W1⟩ := opens1 f1
  obtain ⟨n1, rfl, _, _, _⟩ := open_int Try.underlying3 (hval 1 3 v1 rfl rfl) k1
  simp only [Value.cells] at K1
  obtain rfl : u1 = n1 := (by simpa [Kd.int, Kd.scalar] using K1 : n1 = u1).symm
  clear hA0 hval0 hsz0 hval
  have hk := Pure.FnExactDiskRead (u0.1) (u0.2.1) (u0.2.2.1) (u0.2.2.2) (u1) (W0.1) (W0.2.1) (W0.2.2.1) (W1)
  refine (PFnExactDiskRead.laws_FnExactDiskRead.calls _ _ (u0.1) _ _ (u0.2.1) (u0.2.2.1) (u0.2.2.2) (u1) W g_1 l_1 g_2 l_2 hk).mono fun e W' ⟨he, bel0⟩ => ?_
  have bel : Below W.heap.size W W' := bel0
  subst he
  exact ⟨_, rfl, _, _, _, [], _, [], hW', trodAll_mk1 (shut_bool Try.underlying4 _), (trodAll_cons_mk (Below.trod laidOut (by kernel_rfl) (of_decide_eq_true (by kernel_rfl)) k0 bel lt0) (trodAll_cons_mk (Below.trod laidOut (by kernel_rfl) (of_decide_eq_true (by kernel_rfl)) k1 bel lt1) trodAll_mk0)), rfl, bel.frame _, fun h => by cases h⟩
theorem over : Rows.fnExactDiskReadRow.holds Try.pinned (OpenSpec.ofChange Rows.fnExactDiskReadSpec) :=
  OpenClaim.holds_of_wide 5 Try.f5 rfl rfl rfl rfl rfl rfl rfl ⟨rfl, rfl, rfl, rfl, rfl⟩ rfl rfl rfl rfl rfl (by kernel_rfl) Try.func5 (by kernel_rfl)
    (of_decide_eq_true (by kernel_rfl)) (by unfold Func.isWrapper; first | (rw [if_pos (by decide +kernel)]; kernel_rfl) | (rw [if_neg (by decide +kernel)]; exact ⟨rfl, rfl⟩))
    (fun os started H enc _ => lifted os started H enc)
theorem proved : Rows.FnExactDiskReadSaid := over
#print axioms proved
end Go.Proofs.Ytipfcppghbijgaa.fnExactDiskRead
namespace Go.Proofs.Ytipfcppghbijgaa
/-- The row, under a short name, for the claim. -/
theorem fnExactDiskRead_holds : Rows.FnExactDiskReadSaid := fnExactDiskRead.proved
end Go.Proofs.Ytipfcppghbijgaa
