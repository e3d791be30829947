-- By this session's own program (wip/xlaw.py): the row of the law FnExactInSpan, out of its pure statement and the contract of its function.
import Derived.Test.YtcjeokkhpjppaaaRows
import Derived.Test.YtcjeokkhpjppaaaPFnExactInSpanx6
import Derived.Test.YtcjeokkhpjppaaaPureFnExactInSpan
import Derived.Test.YtcjeokkhpjppaaaXOpen
import Derived.WalkKit
import Derived.ProofKit
import Derived.OpenShut
import Derived.ShutString
import Derived.ChangeOld
import Derived.Below
import Derived.SizedLaws
import Derived.Carry
namespace Go.Proofs.Ytcjeokkhpjppaaa.fnExactInSpan
open Go.ChangeShapes Go.WideShapes Go.ChangeAt Go.RowKit Go.Proofs.YtcjeokkhpjppaaaW.PrintWords Go.Proofs.YtcjeokkhpjppaaaX Go.Proofs.Ytcjeokkhpjppaaa.PFnExactInSpan
set_option linter.unusedVariables false
theorem own : ownKnob Try.prog.godebug = none := by kernel_rfl
theorem laidOut : laidOutB Try.prog = true := by kernel_rfl
theorem opens0 : Opens Try.prog 25 (Kd.pair (Kd.int .i64) (Kd.pair (Kd.int .i64) (Kd.pair Kd.flt (Kd.slice 5 (Kd.int .u8))))) (fun v => (fun n => (Lit.int .i64 n).wf = true) v.1 ∧ (fun v => (fun n => (Lit.int .i64 n).wf = true) v.1 ∧ (fun v => (fun b => b < 2 ^ 64) v.1 ∧ (fun xs => xs.length ≤ 9223372036854775807 ∧ ∀ x ∈ xs, (fun n => (Lit.int .u8 n).wf = true) x) v.2) v.2) v.2) := (opens_struct Try.underlying25 (by kernel_rfl) (by kernel_rfl) (at_cons (n := 1) (o := 0) (opens_int Try.underlying3) (by kernel_rfl) (at_cons (n := 1) (o := 1) (opens_int Try.underlying3) (by kernel_rfl) (at_cons (n := 1) (o := 2) (opens_flt Try.underlying22) (by kernel_rfl) (at_last (total := 4) (o := 3) (opens_slice Try.underlying23 (by kernel_rfl) (opens_int Try.underlying5)) (by kernel_rfl))))))
theorem opens1 : Opens Try.prog 25 (Kd.pair (Kd.int .i64) (Kd.pair (Kd.int .i64) (Kd.pair Kd.flt (Kd.slice 5 (Kd.int .u8))))) (fun v => (fun n => (Lit.int .i64 n).wf = true) v.1 ∧ (fun v => (fun n => (Lit.int .i64 n).wf = true) v.1 ∧ (fun v => (fun b => b < 2 ^ 64) v.1 ∧ (fun xs => xs.length ≤ 9223372036854775807 ∧ ∀ x ∈ xs, (fun n => (Lit.int .u8 n).wf = true) x) v.2) v.2) v.2) := (opens_struct Try.underlying25 (by kernel_rfl) (by kernel_rfl) (at_cons (n := 1) (o := 0) (opens_int Try.underlying3) (by kernel_rfl) (at_cons (n := 1) (o := 1) (opens_int Try.underlying3) (by kernel_rfl) (at_cons (n := 1) (o := 2) (opens_flt Try.underlying22) (by kernel_rfl) (at_last (total := 4) (o := 3) (opens_slice Try.underlying23 (by kernel_rfl) (opens_int Try.underlying5)) (by kernel_rfl))))))
theorem opens2 : Opens Try.prog 25 (Kd.pair (Kd.int .i64) (Kd.pair (Kd.int .i64) (Kd.pair Kd.flt (Kd.slice 5 (Kd.int .u8))))) (fun v => (fun n => (Lit.int .i64 n).wf = true) v.1 ∧ (fun v => (fun n => (Lit.int .i64 n).wf = true) v.1 ∧ (fun v => (fun b => b < 2 ^ 64) v.1 ∧ (fun xs => xs.length ≤ 9223372036854775807 ∧ ∀ x ∈ xs, (fun n => (Lit.int .u8 n).wf = true) x) v.2) v.2) v.2) := (opens_struct Try.underlying25 (by kernel_rfl) (by kernel_rfl) (at_cons (n := 1) (o := 0) (opens_int Try.underlying3) (by kernel_rfl) (at_cons (n := 1) (o := 1) (opens_int Try.underlying3) (by kernel_rfl) (at_cons (n := 1) (o := 2) (opens_flt Try.underlying22) (by kernel_rfl) (at_last (total := 4) (o := 3) (opens_slice Try.underlying23 (by kernel_rfl) (opens_int Try.underlying5)) (by kernel_rfl))))))
set_option maxRecDepth 100000 in
theorem lifted (os : Os) (started : os.Started) (H : Type) (enc : TypeId × Value → H) :
    ReturnsInHanded {} Try.checked os 4 .any (Rows.fnExactInSpanSpec.pre6 enc Try.prog Try.f4 Rows.fnExactInSpanRow.domain false) (Rows.fnExactInSpanSpec.post enc Try.prog Try.f4 false true false false) := by
  refine returnsInHanded_of_change_sized (C := Try.checked) own started (by kernel_rfl) Try.func4
    (ChangeSpec.witness6 (enc := enc) (C := Try.checked) false ⟨#[], #[.agg #[.int .i64 0, .int .i64 0, .float .f64 0, .slice none 0 0], .agg #[.int .i64 0, .int .i64 0, .float .f64 0, .slice none 0 0], .agg #[.int .i64 0, .int .i64 0, .float .f64 0, .slice none 0 0]], []⟩ 8 (by kernel_rfl) (by kernel_rfl) (by kernel_rfl) (by kernel_rfl)) ?_
  intro W base args ds gs before hval0 hW hcnd hsz0 _
  have hval : ∀ (j : Nat) t v, Try.f4.params[j]? = some t → args[j]? = some v → Value.okWide Try.prog W .any base t v := hval0
  have hW' := hW
  obtain ⟨p, q, hA0, hV, rfl, hfz, hnd⟩ := hW
  have hA : DataW.TrodAll enc Try.prog W 0 (fun _ => true) true Try.f4.params.toList args.toList ds p := hA0
  rw [Try.params4] at hA hval
  obtain ⟨v0, vs0, d0, ds0, p0, q0, hargs, rfl, rfl, h0, r0⟩ := trodAll_cons hA
  obtain ⟨v1, vs1, d1, ds1, p1, q1, rfl, rfl, rfl, h1, r1⟩ := trodAll_cons r0
  obtain ⟨v2, vs2, d2, ds2, p2, q2, rfl, rfl, rfl, h2, r2⟩ := trodAll_cons r1
  obtain ⟨rfl, rfl, rfl⟩ := trodAll_nil r2
  obtain rfl : args = #[v0, v1, v2] := by cases args; simp_all
  obtain ⟨rfl, rfl⟩ := trodVars_none hV
  have k0 := h0
  have lt0 : ∀ x ∈ p0, x.block < W.heap.size := by obtain ⟨m, hm⟩ := k0; exact DataW.trod_lt m _ _ _ hm
  obtain ⟨fuel0, f0⟩ := h0
  obtain ⟨u0, K0, W0⟩ := opens0 f0
  obtain ⟨cs0, rfl, z0⟩ := okWide_struct Try.underlying25 (hval 0 25 v0 rfl rfl)
  change _ at K0
  obtain ⟨y0, hy0⟩ : ∃ y : List Value, cs0.toList = y := ⟨_, rfl⟩
  simp only [Value.cells, hy0] at K0
  obtain ⟨_, _, rfl, rfl, ⟨_, _, rfl, rfl, ⟨_, _, rfl, rfl, ⟨A_1, c_1, rfl, l_1, g_1⟩⟩⟩⟩ := K0
  obtain rfl : cs0 = #[.int .i64 u0.1, .int .i64 u0.2.1, .float .f64 u0.2.2.1, .slice A_1 u0.2.2.2.length c_1] := by cases cs0; simpa using hy0
  have k1 := h1
  have lt1 : ∀ x ∈ p1, x.block < W.heap.size := by obtain ⟨m, hm⟩ := k1; exact DataW.trod_lt m _ _ _ hm
  obtain ⟨fuel1, f1⟩ := h1
  obtain ⟨u1, K1, W1⟩ := opens1 f1
  obtain ⟨cs1, rfl, z1⟩ := okWide_struct Try.underlying25 (hval 1 25 v1 rfl rfl)
  change _ at K1
  obtain ⟨y1, hy1⟩ : ∃ y : List Value, cs1.toList = y := ⟨_, rfl⟩
  simp only [Value.cells, hy1] at K1
  obtain ⟨_, _, rfl, rfl, ⟨_, _, rfl, rfl, ⟨_, _, rfl, rfl, ⟨A_2, c_2, rfl, l_2, g_2⟩⟩⟩⟩ := K1
  obtain rfl : cs1 = #[.int .i64 u1.1, .int .i64 u1.2.1, .float .f64 u1.2.2.1, .slice A_2 u1.2.2.2.length c_2] := by cases cs1; simpa using hy1
  have k2 := h2
  have lt2 : ∀ x ∈ p2, x.block < W.heap.size := by obtain ⟨m, hm⟩ := k2; exact DataW.trod_lt m _ _ _ hm
  obtain ⟨fuel2, f2⟩ := h2
  obtain ⟨u2, K2, W2⟩ := opens2 f2
  obtain ⟨cs2, rfl, z2⟩ := okWide_struct Try.underlying25 (hval 2 25 v2 rfl rfl)
  change _ at K2
  obtain ⟨y2, hy2⟩ : ∃ y : List Value, cs2.toList = y := ⟨_, rfl⟩
  simp only [Value.cells, hy2] at K2
  obtain ⟨_, _, rfl, rfl, ⟨_, _, rfl, rfl, ⟨_, _, rfl, rfl, ⟨A_3, c_3, rfl, l_3, g_3⟩⟩⟩⟩ := K2
  obtain rfl : cs2 = #[.int .i64 u2.1, .int .i64 u2.2.1, .float .f64 u2.2.2.1, .slice A_3 u2.2.2.2.length c_3] := by cases cs2; simpa using hy2
  clear hA0 hval0 hsz0 hval
  obtain ⟨k, hk⟩ := Pure.FnExactInSpan (u0.1) (u0.2.1) (u0.2.2.1) (u0.2.2.2) (u1.1) (u1.2.1) (u1.2.2.1) (u1.2.2.2) (u2.1) (u2.2.1) (u2.2.2.1) (u2.2.2.2) (W0.1) (W0.2.1) (W0.2.2.1) (W0.2.2.2) (W1.1) (W1.2.1) (W1.2.2.1) (W1.2.2.2) (W2.1) (W2.2.1) (W2.2.2.1) (W2.2.2.2)
  refine (PFnExactInSpan.laws_FnExactInSpan.calls k (u0.1) (u0.2.1) (u0.2.2.1) _ _ (u0.2.2.2) (u1.1) (u1.2.1) (u1.2.2.1) _ _ (u1.2.2.2) (u2.1) (u2.2.1) (u2.2.2.1) _ _ (u2.2.2.2) true W g_1 l_1 g_2 l_2 g_3 l_3 hk rfl).mono fun e W' ⟨he, bel0⟩ => ?_
  have bel : Below W.heap.size W W' := bel0
  subst he
  exact ⟨_, rfl, _, _, _, [], _, [], hW', trodAll_mk1 (shut_bool Try.underlying4 _), (trodAll_cons_mk (Below.trod laidOut (by kernel_rfl) (of_decide_eq_true (by kernel_rfl)) k0 bel lt0) (trodAll_cons_mk (Below.trod laidOut (by kernel_rfl) (of_decide_eq_true (by kernel_rfl)) k1 bel lt1) (trodAll_cons_mk (Below.trod laidOut (by kernel_rfl) (of_decide_eq_true (by kernel_rfl)) k2 bel lt2) trodAll_mk0))), rfl, bel.frame _, fun h => by cases h⟩
theorem over : Rows.fnExactInSpanRow.holds Try.pinned (OpenSpec.ofChange Rows.fnExactInSpanSpec) :=
  OpenClaim.holds_of_wide 4 Try.f4 rfl rfl rfl rfl rfl rfl rfl ⟨rfl, rfl, rfl, rfl, rfl⟩ rfl rfl rfl rfl rfl (by kernel_rfl) Try.func4 (by kernel_rfl)
    (of_decide_eq_true (by kernel_rfl)) (by unfold Func.isWrapper; first | (rw [if_pos (by decide +kernel)]; kernel_rfl) | (rw [if_neg (by decide +kernel)]; exact ⟨rfl, rfl⟩))
    (fun os started H enc _ => lifted os started H enc)
theorem proved : Rows.FnExactInSpanSaid := over
#print axioms proved
end Go.Proofs.Ytcjeokkhpjppaaa.fnExactInSpan
namespace Go.Proofs.Ytcjeokkhpjppaaa
/-- The row, under a short name, for the claim. -/
theorem fnExactInSpan_holds : Rows.FnExactInSpanSaid := fnExactInSpan.proved
end Go.Proofs.Ytcjeokkhpjppaaa
