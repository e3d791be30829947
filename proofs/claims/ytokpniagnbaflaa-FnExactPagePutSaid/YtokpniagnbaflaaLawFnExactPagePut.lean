-- By this session's own program (wip/xlaw.py): the row of the law FnExactPagePut, out of its pure statement and the contract of its function.
import Derived.Test.YtokpniagnbaflaaRows
import Derived.Test.YtokpniagnbaflaaPFnExactPagePutx7
import Derived.Test.YtokpniagnbaflaaPureFnExactPagePut
import Derived.Test.YtokpniagnbaflaaXOpen
import Derived.WalkKit
import Derived.ProofKit
import Derived.OpenShut
import Derived.ShutString
import Derived.ChangeOld
import Derived.Below
import Derived.SizedLaws
import Derived.Carry
namespace Go.Proofs.Ytokpniagnbaflaa.fnExactPagePut
open Go.ChangeShapes Go.WideShapes Go.ChangeAt Go.RowKit Go.Proofs.YtokpniagnbaflaaW.PrintWords Go.Proofs.YtokpniagnbaflaaX Go.Proofs.Ytokpniagnbaflaa.PFnExactPagePut
set_option linter.unusedVariables false
theorem own : ownKnob Try.prog.godebug = none := by kernel_rfl
theorem laidOut : laidOutB Try.prog = true := by kernel_rfl
theorem opens0 : Opens Try.prog 24 (Kd.pair (Kd.int .i64) (Kd.slice 36 (Kd.slice 5 (Kd.int .u8)))) (fun v => (fun n => (Lit.int .i64 n).wf = true) v.1 ∧ (fun xs => xs.length ≤ 9223372036854775807 ∧ ∀ x ∈ xs, (fun xs => xs.length ≤ 9223372036854775807 ∧ ∀ x ∈ xs, (fun n => (Lit.int .u8 n).wf = true) x) x) v.2) := (opens_struct Try.underlying24 (by kernel_rfl) (by kernel_rfl) (at_cons (n := 1) (o := 0) (opens_int Try.underlying3) (by kernel_rfl) (at_last (total := 2) (o := 1) (opens_slice Try.underlying22 (by kernel_rfl) (opens_slice Try.underlying36 (by kernel_rfl) (opens_int Try.underlying5))) (by kernel_rfl))))
theorem opens1 : Opens Try.prog 3 (Kd.int .i64) (fun n => (Lit.int .i64 n).wf = true) := (opens_int Try.underlying3)
theorem opens2 : Opens Try.prog 36 (Kd.slice 5 (Kd.int .u8)) (fun xs => xs.length ≤ 9223372036854775807 ∧ ∀ x ∈ xs, (fun n => (Lit.int .u8 n).wf = true) x) := (opens_slice Try.underlying36 (by kernel_rfl) (opens_int Try.underlying5))
theorem opens3 : Opens Try.prog 3 (Kd.int .i64) (fun n => (Lit.int .i64 n).wf = true) := (opens_int Try.underlying3)
set_option maxRecDepth 100000 in
theorem lifted (os : Os) (started : os.Started) (H : Type) (enc : TypeId × Value → H) :
    ReturnsInHanded {} Try.checked os 6 .any (Rows.fnExactPagePutSpec.pre6 enc Try.prog Try.f6 Rows.fnExactPagePutRow.domain false) (Rows.fnExactPagePutSpec.post enc Try.prog Try.f6 false true false false) := by
  refine returnsInHanded_of_change_sized (C := Try.checked) own started (by kernel_rfl) Try.func6
    (ChangeSpec.witness6 (enc := enc) (C := Try.checked) false ⟨#[], #[.agg #[.int .i64 0, .slice none 0 0], .int .i64 0, .slice none 0 0, .int .i64 0], []⟩ 8 (by kernel_rfl) (by kernel_rfl) (by kernel_rfl) (by kernel_rfl)) ?_
  intro W base args ds gs before hval0 hW hcnd hsz0 _
  have hval : ∀ (j : Nat) t v, Try.f6.params[j]? = some t → args[j]? = some v → Value.okWide Try.prog W .any base t v := hval0
  have hW' := hW
  obtain ⟨p, q, hA0, hV, rfl, hfz, hnd⟩ := hW
  have hA : DataW.TrodAll enc Try.prog W 0 (fun _ => true) true Try.f6.params.toList args.toList ds p := hA0
  rw [Try.params6] at hA hval
  obtain ⟨v0, vs0, d0, ds0, p0, q0, hargs, rfl, rfl, h0, r0⟩ := trodAll_cons hA
  obtain ⟨v1, vs1, d1, ds1, p1, q1, rfl, rfl, rfl, h1, r1⟩ := trodAll_cons r0
  obtain ⟨v2, vs2, d2, ds2, p2, q2, rfl, rfl, rfl, h2, r2⟩ := trodAll_cons r1
  obtain ⟨v3, vs3, d3, ds3, p3, q3, rfl, rfl, rfl, h3, r3⟩ := trodAll_cons r2
  obtain ⟨rfl, rfl, rfl⟩ := trodAll_nil r3
  obtain rfl : args = #[v0, v1, v2, v3] := by cases args; simp_all
  obtain ⟨rfl, rfl⟩ := trodVars_none hV
  have k0 := h0
  have lt0 : ∀ x ∈ p0, x.block < W.heap.size := by obtain ⟨m, hm⟩ := k0; exact DataW.trod_lt m _ _ _ hm
  obtain ⟨fuel0, f0⟩ := h0
  obtain ⟨u0, K0, W0⟩ := opens0 f0
  obtain ⟨cs0, rfl, z0⟩ := okWide_struct Try.underlying24 (hval 0 24 v0 rfl rfl)
  change _ at K0
  obtain ⟨y0, hy0⟩ : ∃ y : List Value, cs0.toList = y := ⟨_, rfl⟩
  simp only [Value.cells, hy0] at K0
  obtain ⟨_, _, rfl, rfl, ⟨A_1, c_1, rfl, l_1, g_1⟩⟩ := K0
  obtain rfl : cs0 = #[.int .i64 u0.1, .slice A_1 u0.2.length c_1] := by cases cs0; simpa using hy0
  have k1 := h1
  have lt1 : ∀ x ∈ p1, x.block < W.heap.size := by obtain ⟨m, hm⟩ := k1; exact DataW.trod_lt m _ _ _ hm
  obtain ⟨fuel1, f1⟩ := h1
  obtain ⟨u1, K1, W1⟩ := opens1 f1
  obtain ⟨n1, rfl, _, _, _⟩ := open_int Try.underlying3 (hval 1 3 v1 rfl rfl) k1
  simp only [Value.cells] at K1
  obtain rfl : u1 = n1 := (by simpa [Kd.int, Kd.scalar] using K1 : n1 = u1).symm
  have k2 := h2
  have lt2 : ∀ x ∈ p2, x.block < W.heap.size := by obtain ⟨m, hm⟩ := k2; exact DataW.trod_lt m _ _ _ hm
  obtain ⟨fuel2, f2⟩ := h2
  obtain ⟨u2, K2, W2⟩ := opens2 f2
  obtain ⟨a2, n2, b2, rfl⟩ := okWide_slice Try.underlying36 (hval 2 36 v2 rfl rfl)
  obtain ⟨A_2, c_2, e2, l_2, g_2⟩ := K2
  simp only [Value.cells, List.cons.injEq, Value.slice.injEq, and_true] at e2
  obtain ⟨rfl, rfl, rfl⟩ := e2
  have k3 := h3
  have lt3 : ∀ x ∈ p3, x.block < W.heap.size := by obtain ⟨m, hm⟩ := k3; exact DataW.trod_lt m _ _ _ hm
  obtain ⟨fuel3, f3⟩ := h3
  obtain ⟨u3, K3, W3⟩ := opens3 f3
  obtain ⟨n3, rfl, _, _, _⟩ := open_int Try.underlying3 (hval 3 3 v3 rfl rfl) k3
  simp only [Value.cells] at K3
  obtain rfl : u3 = n3 := (by simpa [Kd.int, Kd.scalar] using K3 : n3 = u3).symm
  clear hA0 hval0 hsz0 hval
  have hk := Pure.FnExactPagePut (u0.1) (u0.2) (u1) (u2) (u3) (W0.1) (W0.2) (W1) (W2) (W3)
  refine (PFnExactPagePut.laws_FnExactPagePut.calls (u0.1) _ _ (u0.2) (u1) _ _ (u2) (u3) W g_1 l_1 g_2 l_2 hk).mono fun e W' ⟨he, bel0⟩ => ?_
  have bel : Below W.heap.size W W' := bel0
  subst he
  exact ⟨_, rfl, _, _, _, [], _, [], hW', trodAll_mk1 (shut_bool Try.underlying4 _), (trodAll_cons_mk (Below.trod laidOut (by kernel_rfl) (of_decide_eq_true (by kernel_rfl)) k0 bel lt0) (trodAll_cons_mk (Below.trod laidOut (by kernel_rfl) (of_decide_eq_true (by kernel_rfl)) k1 bel lt1) (trodAll_cons_mk (Below.trod laidOut (by kernel_rfl) (of_decide_eq_true (by kernel_rfl)) k2 bel lt2) (trodAll_cons_mk (Below.trod laidOut (by kernel_rfl) (of_decide_eq_true (by kernel_rfl)) k3 bel lt3) trodAll_mk0)))), rfl, bel.frame _, fun h => by cases h⟩
theorem over : Rows.fnExactPagePutRow.holds Try.pinned (OpenSpec.ofChange Rows.fnExactPagePutSpec) :=
  OpenClaim.holds_of_wide 6 Try.f6 rfl rfl rfl rfl rfl rfl rfl ⟨rfl, rfl, rfl, rfl, rfl⟩ rfl rfl rfl rfl rfl (by kernel_rfl) Try.func6 (by kernel_rfl)
    (of_decide_eq_true (by kernel_rfl)) (by unfold Func.isWrapper; first | (rw [if_pos (by decide +kernel)]; kernel_rfl) | (rw [if_neg (by decide +kernel)]; exact ⟨rfl, rfl⟩))
    (fun os started H enc _ => lifted os started H enc)
theorem proved : Rows.FnExactPagePutSaid := over
#print axioms proved
end Go.Proofs.Ytokpniagnbaflaa.fnExactPagePut
namespace Go.Proofs.Ytokpniagnbaflaa
/-- The row, under a short name, for the claim. -/
theorem fnExactPagePut_holds : Rows.FnExactPagePutSaid := fnExactPagePut.proved
end Go.Proofs.Ytokpniagnbaflaa
