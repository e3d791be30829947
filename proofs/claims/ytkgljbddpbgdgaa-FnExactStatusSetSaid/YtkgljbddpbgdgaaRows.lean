/-
  No cell of these rows narrows 'for every input' (looked for: loops, veiled, ifaces, maps, wideKeys, modest, calm, conditions, laid).
  DERIVED. THE GIVEN ROWS OF THIS SEAT. 7 by the template 'for every input the law returns true; each argument reads behind the call as it read before'; 0 by the template 'total and deterministic' (their statements: YtkgljbddpbgdgaaTotals.lean).
  GIVEN WITH THE SEED: the statements are not yours to turn. If you find one false, say at which input.
  Laid BY PROGRAM, IN A SANDBOX (cutbox-rows.mjs): the forced cells as the released guide's own fill.sh prints them over the translation bcafeb70d7f8d1ea… (all of the seat's roots in one cut). By AI agents, Wed Nov 11 2026. No macro, syntax, notation, axiom, sorry.
-/
import Derived.Test.YtkgljbddpbgdgaaChecked
import GoSem.Claim
import GoSem.ClaimJoined
import GoSem.ClaimMapViews
import Derived.JoinedTies
import Derived.KernelRfl
namespace Go.Proofs.Ytkgljbddpbgdgaa
/- THE CELL 'sum', in the pinned program and in every row, IS THE sha256 OF THE DUMP (.gsa) THAT YtkgljbddpbgdgaaProg.lean LOADS. Nothing in Lean hashes anything: it is a label: what it is worth is what the hold of that sum in a sandbox is worth. -/
noncomputable def Try.pinned : Pinned := { name := "ytkgljbddpbgdgaa", sum := "bcafeb70d7f8d1ea6254f8a3e7abbd2a64d82a8e37911180f250974d1c878095", checked := Try.checked }
namespace Rows
def none {H : Type} : Left H := { results := [], args := [] }

/-- 'laws.FnExactConstants': WHATEVER THE INPUT: true; the input reads as it did. -/
def fnExactConstantsSpec : ChangeSpec := { name := "fnExactConstants", fn := fun _ => fun
  | [] => { results := [.lit (.bool true)], args := [] }
  | _ => none }
def fnExactConstantsRow : OpenClaim := { program := "ytkgljbddpbgdgaa", sum := "bcafeb70d7f8d1ea6254f8a3e7abbd2a64d82a8e37911180f250974d1c878095", func := "loop.example/g00252/laws.FnExactConstants", spec := "fnExactConstants", apart := false }
def FnExactConstantsSaid : Prop := fnExactConstantsRow.holds Try.pinned (OpenSpec.ofChange fnExactConstantsSpec)

/-- ITS FALSE NEIGHBOUR: 'it returns false'. Refute it at one input. -/
def fnExactConstantsWrong : ChangeSpec := { name := "fnExactConstants", fn := fun _ => fun
  | [] => { results := [.lit (.bool false)], args := [] }
  | _ => none }
def FnExactConstantsWrongFalsely : Prop := fnExactConstantsRow.holds Try.pinned (OpenSpec.ofChange fnExactConstantsWrong)

/-- 'laws.FnExactStatusOf': WHATEVER THE INPUT: true; the input reads as it did. -/
def fnExactStatusOfSpec : ChangeSpec := { name := "fnExactStatusOf", fn := fun _ => fun
  | [d1, d2] => { results := [.lit (.bool true)], args := [d1, d2] }
  | _ => none }
def fnExactStatusOfRow : OpenClaim := { program := "ytkgljbddpbgdgaa", sum := "bcafeb70d7f8d1ea6254f8a3e7abbd2a64d82a8e37911180f250974d1c878095", func := "loop.example/g00252/laws.FnExactStatusOf", spec := "fnExactStatusOf", apart := false }
def FnExactStatusOfSaid : Prop := fnExactStatusOfRow.holds Try.pinned (OpenSpec.ofChange fnExactStatusOfSpec)

/-- ITS FALSE NEIGHBOUR: 'it returns false'. Refute it at one input. -/
def fnExactStatusOfWrong : ChangeSpec := { name := "fnExactStatusOf", fn := fun _ => fun
  | [d1, d2] => { results := [.lit (.bool false)], args := [d1, d2] }
  | _ => none }
def FnExactStatusOfWrongFalsely : Prop := fnExactStatusOfRow.holds Try.pinned (OpenSpec.ofChange fnExactStatusOfWrong)

/-- 'laws.FnExactStatusSet': WHATEVER THE INPUT: true; the input reads as it did. -/
def fnExactStatusSetSpec : ChangeSpec := { name := "fnExactStatusSet", fn := fun _ => fun
  | [d1, d2, d3] => { results := [.lit (.bool true)], args := [d1, d2, d3] }
  | _ => none }
def fnExactStatusSetRow : OpenClaim := { program := "ytkgljbddpbgdgaa", sum := "bcafeb70d7f8d1ea6254f8a3e7abbd2a64d82a8e37911180f250974d1c878095", func := "loop.example/g00252/laws.FnExactStatusSet", spec := "fnExactStatusSet", apart := false }
def FnExactStatusSetSaid : Prop := fnExactStatusSetRow.holds Try.pinned (OpenSpec.ofChange fnExactStatusSetSpec)

/-- ITS FALSE NEIGHBOUR: 'it returns false'. Refute it at one input. -/
def fnExactStatusSetWrong : ChangeSpec := { name := "fnExactStatusSet", fn := fun _ => fun
  | [d1, d2, d3] => { results := [.lit (.bool false)], args := [d1, d2, d3] }
  | _ => none }
def FnExactStatusSetWrongFalsely : Prop := fnExactStatusSetRow.holds Try.pinned (OpenSpec.ofChange fnExactStatusSetWrong)

/-- 'laws.FnExactStatusSettle': WHATEVER THE INPUT: true; the input reads as it did. -/
def fnExactStatusSettleSpec : ChangeSpec := { name := "fnExactStatusSettle", fn := fun _ => fun
  | [d1, d2] => { results := [.lit (.bool true)], args := [d1, d2] }
  | _ => none }
def fnExactStatusSettleRow : OpenClaim := { program := "ytkgljbddpbgdgaa", sum := "bcafeb70d7f8d1ea6254f8a3e7abbd2a64d82a8e37911180f250974d1c878095", func := "loop.example/g00252/laws.FnExactStatusSettle", spec := "fnExactStatusSettle", apart := false }
def FnExactStatusSettleSaid : Prop := fnExactStatusSettleRow.holds Try.pinned (OpenSpec.ofChange fnExactStatusSettleSpec)

/-- ITS FALSE NEIGHBOUR: 'it returns false'. Refute it at one input. -/
def fnExactStatusSettleWrong : ChangeSpec := { name := "fnExactStatusSettle", fn := fun _ => fun
  | [d1, d2] => { results := [.lit (.bool false)], args := [d1, d2] }
  | _ => none }
def FnExactStatusSettleWrongFalsely : Prop := fnExactStatusSettleRow.holds Try.pinned (OpenSpec.ofChange fnExactStatusSettleWrong)

/-- 'laws.FnExactStatusBytes': WHATEVER THE INPUT: true; the input reads as it did. -/
def fnExactStatusBytesSpec : ChangeSpec := { name := "fnExactStatusBytes", fn := fun _ => fun
  | [d] => { results := [.lit (.bool true)], args := [d] }
  | _ => none }
def fnExactStatusBytesRow : OpenClaim := { program := "ytkgljbddpbgdgaa", sum := "bcafeb70d7f8d1ea6254f8a3e7abbd2a64d82a8e37911180f250974d1c878095", func := "loop.example/g00252/laws.FnExactStatusBytes", spec := "fnExactStatusBytes", apart := false }
def FnExactStatusBytesSaid : Prop := fnExactStatusBytesRow.holds Try.pinned (OpenSpec.ofChange fnExactStatusBytesSpec)

/-- ITS FALSE NEIGHBOUR: 'it returns false'. Refute it at one input. -/
def fnExactStatusBytesWrong : ChangeSpec := { name := "fnExactStatusBytes", fn := fun _ => fun
  | [d] => { results := [.lit (.bool false)], args := [d] }
  | _ => none }
def FnExactStatusBytesWrongFalsely : Prop := fnExactStatusBytesRow.holds Try.pinned (OpenSpec.ofChange fnExactStatusBytesWrong)

/-- 'laws.FnExactGetNum': WHATEVER THE INPUT: true; the input reads as it did. -/
def fnExactGetNumSpec : ChangeSpec := { name := "fnExactGetNum", fn := fun _ => fun
  | [d1, d2, d3] => { results := [.lit (.bool true)], args := [d1, d2, d3] }
  | _ => none }
def fnExactGetNumRow : OpenClaim := { program := "ytkgljbddpbgdgaa", sum := "bcafeb70d7f8d1ea6254f8a3e7abbd2a64d82a8e37911180f250974d1c878095", func := "loop.example/g00252/laws.FnExactGetNum", spec := "fnExactGetNum", apart := false }
def FnExactGetNumSaid : Prop := fnExactGetNumRow.holds Try.pinned (OpenSpec.ofChange fnExactGetNumSpec)

/-- ITS FALSE NEIGHBOUR: 'it returns false'. Refute it at one input. -/
def fnExactGetNumWrong : ChangeSpec := { name := "fnExactGetNum", fn := fun _ => fun
  | [d1, d2, d3] => { results := [.lit (.bool false)], args := [d1, d2, d3] }
  | _ => none }
def FnExactGetNumWrongFalsely : Prop := fnExactGetNumRow.holds Try.pinned (OpenSpec.ofChange fnExactGetNumWrong)

/-- 'laws.FnExactPutNum': WHATEVER THE INPUT: true; the input reads as it did. -/
def fnExactPutNumSpec : ChangeSpec := { name := "fnExactPutNum", fn := fun _ => fun
  | [d1, d2] => { results := [.lit (.bool true)], args := [d1, d2] }
  | _ => none }
def fnExactPutNumRow : OpenClaim := { program := "ytkgljbddpbgdgaa", sum := "bcafeb70d7f8d1ea6254f8a3e7abbd2a64d82a8e37911180f250974d1c878095", func := "loop.example/g00252/laws.FnExactPutNum", spec := "fnExactPutNum", apart := false }
def FnExactPutNumSaid : Prop := fnExactPutNumRow.holds Try.pinned (OpenSpec.ofChange fnExactPutNumSpec)

/-- ITS FALSE NEIGHBOUR: 'it returns false'. Refute it at one input. -/
def fnExactPutNumWrong : ChangeSpec := { name := "fnExactPutNum", fn := fun _ => fun
  | [d1, d2] => { results := [.lit (.bool false)], args := [d1, d2] }
  | _ => none }
def FnExactPutNumWrongFalsely : Prop := fnExactPutNumRow.holds Try.pinned (OpenSpec.ofChange fnExactPutNumWrong)

/- THE SECOND FORM. 'bulk': how many values and letters a reading holds, each counted each time it is reached (what is shared counts as often as it is met; a slice's spare places count too). A statement '..UptoSaid' is the law's where the arguments, and the package variables that the reading takes, are together of bulk at most 1048576: NARROWER than '..Said'. Prove '..Said' where nothing that the law and all that it calls make is longer than what came in: it says more and counts as full. Else prove '..UptoSaid'. A law counts once. -/
mutual
def uptoBulk {H : Type} : DataW H → Nat
  | .lit (.string bytes) => bytes.length + 1
  | .lit _ => 1
  | .nil => 1
  | .ptr d => uptoBulk d + 1
  | .slice elems spare => uptoBulkAll elems + uptoBulkAll spare + 1
  | .agg parts => uptoBulkAll parts + 1
  | .iface _ d => uptoBulk d + 1
  | .map entries => uptoBulkEntries entries + 1
  | .held _ => 1
def uptoBulkAll {H : Type} : List (DataW H) → Nat
  | [] => 0
  | d :: r => uptoBulk d + uptoBulkAll r
def uptoBulkEntries {H : Type} : List (Lit × DataW H) → Nat
  | [] => 0
  | x :: r => uptoBulkEntry x + uptoBulkEntries r
def uptoBulkEntry {H : Type} : Lit × DataW H → Nat
  | (.string bytes, d) => bytes.length + uptoBulk d + 1
  | (_, d) => uptoBulk d + 1
 end
def uptoSmall : (H : Type) → List (DataW H) → Bool := fun _ ds => decide (uptoBulkAll ds ≤ 1048576)
def OpenSpec.upto (s : _root_.Go.ChangeSpec) : _root_.Go.OpenSpec := { _root_.Go.OpenSpec.ofChange s with cond := some uptoSmall }

/-- 'laws.FnExactConstants', WHERE WHAT IT READS IS OF BULK AT MOST 1048576: true; the input reads as it did. -/
def fnExactConstantsUptoRow : OpenClaim := { program := "ytkgljbddpbgdgaa", sum := "bcafeb70d7f8d1ea6254f8a3e7abbd2a64d82a8e37911180f250974d1c878095", func := "loop.example/g00252/laws.FnExactConstants", spec := "fnExactConstants", apart := false, narrowed := true }
def FnExactConstantsUptoSaid : Prop := fnExactConstantsUptoRow.holds Try.pinned (OpenSpec.upto fnExactConstantsSpec)

/-- 'laws.FnExactStatusOf', WHERE WHAT IT READS IS OF BULK AT MOST 1048576: true; the input reads as it did. -/
def fnExactStatusOfUptoRow : OpenClaim := { program := "ytkgljbddpbgdgaa", sum := "bcafeb70d7f8d1ea6254f8a3e7abbd2a64d82a8e37911180f250974d1c878095", func := "loop.example/g00252/laws.FnExactStatusOf", spec := "fnExactStatusOf", apart := false, narrowed := true }
def FnExactStatusOfUptoSaid : Prop := fnExactStatusOfUptoRow.holds Try.pinned (OpenSpec.upto fnExactStatusOfSpec)

/-- 'laws.FnExactStatusSet', WHERE WHAT IT READS IS OF BULK AT MOST 1048576: true; the input reads as it did. -/
def fnExactStatusSetUptoRow : OpenClaim := { program := "ytkgljbddpbgdgaa", sum := "bcafeb70d7f8d1ea6254f8a3e7abbd2a64d82a8e37911180f250974d1c878095", func := "loop.example/g00252/laws.FnExactStatusSet", spec := "fnExactStatusSet", apart := false, narrowed := true }
def FnExactStatusSetUptoSaid : Prop := fnExactStatusSetUptoRow.holds Try.pinned (OpenSpec.upto fnExactStatusSetSpec)

/-- 'laws.FnExactStatusSettle', WHERE WHAT IT READS IS OF BULK AT MOST 1048576: true; the input reads as it did. -/
def fnExactStatusSettleUptoRow : OpenClaim := { program := "ytkgljbddpbgdgaa", sum := "bcafeb70d7f8d1ea6254f8a3e7abbd2a64d82a8e37911180f250974d1c878095", func := "loop.example/g00252/laws.FnExactStatusSettle", spec := "fnExactStatusSettle", apart := false, narrowed := true }
def FnExactStatusSettleUptoSaid : Prop := fnExactStatusSettleUptoRow.holds Try.pinned (OpenSpec.upto fnExactStatusSettleSpec)

/-- 'laws.FnExactStatusBytes', WHERE WHAT IT READS IS OF BULK AT MOST 1048576: true; the input reads as it did. -/
def fnExactStatusBytesUptoRow : OpenClaim := { program := "ytkgljbddpbgdgaa", sum := "bcafeb70d7f8d1ea6254f8a3e7abbd2a64d82a8e37911180f250974d1c878095", func := "loop.example/g00252/laws.FnExactStatusBytes", spec := "fnExactStatusBytes", apart := false, narrowed := true }
def FnExactStatusBytesUptoSaid : Prop := fnExactStatusBytesUptoRow.holds Try.pinned (OpenSpec.upto fnExactStatusBytesSpec)

/-- 'laws.FnExactGetNum', WHERE WHAT IT READS IS OF BULK AT MOST 1048576: true; the input reads as it did. -/
def fnExactGetNumUptoRow : OpenClaim := { program := "ytkgljbddpbgdgaa", sum := "bcafeb70d7f8d1ea6254f8a3e7abbd2a64d82a8e37911180f250974d1c878095", func := "loop.example/g00252/laws.FnExactGetNum", spec := "fnExactGetNum", apart := false, narrowed := true }
def FnExactGetNumUptoSaid : Prop := fnExactGetNumUptoRow.holds Try.pinned (OpenSpec.upto fnExactGetNumSpec)

/-- 'laws.FnExactPutNum', WHERE WHAT IT READS IS OF BULK AT MOST 1048576: true; the input reads as it did. -/
def fnExactPutNumUptoRow : OpenClaim := { program := "ytkgljbddpbgdgaa", sum := "bcafeb70d7f8d1ea6254f8a3e7abbd2a64d82a8e37911180f250974d1c878095", func := "loop.example/g00252/laws.FnExactPutNum", spec := "fnExactPutNum", apart := false, narrowed := true }
def FnExactPutNumUptoSaid : Prop := fnExactPutNumUptoRow.holds Try.pinned (OpenSpec.upto fnExactPutNumSpec)

end Rows
end Go.Proofs.Ytkgljbddpbgdgaa
