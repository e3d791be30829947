/-
  No cell of these rows narrows 'for every input' (looked for: loops, veiled, ifaces, maps, wideKeys, modest, calm, conditions, laid).
  DERIVED. THE GIVEN ROWS OF THIS SEAT. 5 by the template 'for every input the law returns true; each argument reads behind the call as it read before'; 0 by the template 'total and deterministic' (their statements: YtcjeokkhpjppaaaTotals.lean).
  GIVEN WITH THE SEED: the statements are not yours to turn. If you find one false, say at which input.
  Laid BY PROGRAM, IN A SANDBOX (cutbox-rows.mjs): the forced cells as the released guide's own fill.sh prints them over the translation 2c1817c435a5b4b9… (all of the seat's roots in one cut). By AI agents, Wed Nov 11 2026. No macro, syntax, notation, axiom, sorry.
-/
import Derived.Test.YtcjeokkhpjppaaaChecked
import GoSem.Claim
import GoSem.ClaimJoined
import GoSem.ClaimMapViews
import Derived.JoinedTies
import Derived.KernelRfl
namespace Go.Proofs.Ytcjeokkhpjppaaa
/- THE CELL 'sum', in the pinned program and in every row, IS THE sha256 OF THE DUMP (.gsa) THAT YtcjeokkhpjppaaaProg.lean LOADS. Nothing in Lean hashes anything: it is a label: what it is worth is what the hold of that sum in a sandbox is worth. -/
noncomputable def Try.pinned : Pinned := { name := "ytcjeokkhpjppaaa", sum := "2c1817c435a5b4b9747f9fcfc71eeeec709b37b8f11ee39dccd37516aa08e79e", checked := Try.checked }
namespace Rows
def none {H : Type} : Left H := { results := [], args := [] }

/-- 'laws.FnExactItemCompare': WHATEVER THE INPUT: true; the input reads as it did. -/
def fnExactItemCompareSpec : ChangeSpec := { name := "fnExactItemCompare", fn := fun _ => fun
  | [d1, d2] => { results := [.lit (.bool true)], args := [d1, d2] }
  | _ => none }
def fnExactItemCompareRow : OpenClaim := { program := "ytcjeokkhpjppaaa", sum := "2c1817c435a5b4b9747f9fcfc71eeeec709b37b8f11ee39dccd37516aa08e79e", func := "loop.example/g00252/laws.FnExactItemCompare", spec := "fnExactItemCompare", inPlace := ["math.Float64bits", "internal/bytealg.Compare"], apart := false }
def FnExactItemCompareSaid : Prop := fnExactItemCompareRow.holds Try.pinned (OpenSpec.ofChange fnExactItemCompareSpec)

/-- ITS FALSE NEIGHBOUR: 'it returns false'. Refute it at one input. -/
def fnExactItemCompareWrong : ChangeSpec := { name := "fnExactItemCompare", fn := fun _ => fun
  | [d1, d2] => { results := [.lit (.bool false)], args := [d1, d2] }
  | _ => none }
def FnExactItemCompareWrongFalsely : Prop := fnExactItemCompareRow.holds Try.pinned (OpenSpec.ofChange fnExactItemCompareWrong)

/-- 'laws.FnExactInSpan': WHATEVER THE INPUT: true; the input reads as it did. -/
def fnExactInSpanSpec : ChangeSpec := { name := "fnExactInSpan", fn := fun _ => fun
  | [d1, d2, d3] => { results := [.lit (.bool true)], args := [d1, d2, d3] }
  | _ => none }
def fnExactInSpanRow : OpenClaim := { program := "ytcjeokkhpjppaaa", sum := "2c1817c435a5b4b9747f9fcfc71eeeec709b37b8f11ee39dccd37516aa08e79e", func := "loop.example/g00252/laws.FnExactInSpan", spec := "fnExactInSpan", inPlace := ["math.Float64bits", "internal/bytealg.Compare"], apart := false }
def FnExactInSpanSaid : Prop := fnExactInSpanRow.holds Try.pinned (OpenSpec.ofChange fnExactInSpanSpec)

/-- ITS FALSE NEIGHBOUR: 'it returns false'. Refute it at one input. -/
def fnExactInSpanWrong : ChangeSpec := { name := "fnExactInSpan", fn := fun _ => fun
  | [d1, d2, d3] => { results := [.lit (.bool false)], args := [d1, d2, d3] }
  | _ => none }
def FnExactInSpanWrongFalsely : Prop := fnExactInSpanRow.holds Try.pinned (OpenSpec.ofChange fnExactInSpanWrong)

/-- 'laws.FnExactValueBytes': WHATEVER THE INPUT: true; the input reads as it did. -/
def fnExactValueBytesSpec : ChangeSpec := { name := "fnExactValueBytes", fn := fun _ => fun
  | [d] => { results := [.lit (.bool true)], args := [d] }
  | _ => none }
def fnExactValueBytesRow : OpenClaim := { program := "ytcjeokkhpjppaaa", sum := "2c1817c435a5b4b9747f9fcfc71eeeec709b37b8f11ee39dccd37516aa08e79e", func := "loop.example/g00252/laws.FnExactValueBytes", spec := "fnExactValueBytes", inPlace := ["math.Float64bits"], apart := false }
def FnExactValueBytesSaid : Prop := fnExactValueBytesRow.holds Try.pinned (OpenSpec.ofChange fnExactValueBytesSpec)

/-- ITS FALSE NEIGHBOUR: 'it returns false'. Refute it at one input. -/
def fnExactValueBytesWrong : ChangeSpec := { name := "fnExactValueBytes", fn := fun _ => fun
  | [d] => { results := [.lit (.bool false)], args := [d] }
  | _ => none }
def FnExactValueBytesWrongFalsely : Prop := fnExactValueBytesRow.holds Try.pinned (OpenSpec.ofChange fnExactValueBytesWrong)

/-- 'laws.FnExactKeyBytes': WHATEVER THE INPUT: true; the input reads as it did. -/
def fnExactKeyBytesSpec : ChangeSpec := { name := "fnExactKeyBytes", fn := fun _ => fun
  | [d] => { results := [.lit (.bool true)], args := [d] }
  | _ => none }
def fnExactKeyBytesRow : OpenClaim := { program := "ytcjeokkhpjppaaa", sum := "2c1817c435a5b4b9747f9fcfc71eeeec709b37b8f11ee39dccd37516aa08e79e", func := "loop.example/g00252/laws.FnExactKeyBytes", spec := "fnExactKeyBytes", inPlace := ["math.Float64bits"], apart := false }
def FnExactKeyBytesSaid : Prop := fnExactKeyBytesRow.holds Try.pinned (OpenSpec.ofChange fnExactKeyBytesSpec)

/-- ITS FALSE NEIGHBOUR: 'it returns false'. Refute it at one input. -/
def fnExactKeyBytesWrong : ChangeSpec := { name := "fnExactKeyBytes", fn := fun _ => fun
  | [d] => { results := [.lit (.bool false)], args := [d] }
  | _ => none }
def FnExactKeyBytesWrongFalsely : Prop := fnExactKeyBytesRow.holds Try.pinned (OpenSpec.ofChange fnExactKeyBytesWrong)

/-- 'laws.FnSpans': WHATEVER THE INPUT: true; the input reads as it did. -/
def fnSpansSpec : ChangeSpec := { name := "fnSpans", fn := fun _ => fun
  | [d] => { results := [.lit (.bool true)], args := [d] }
  | _ => none }
def fnSpansRow : OpenClaim := { program := "ytcjeokkhpjppaaa", sum := "2c1817c435a5b4b9747f9fcfc71eeeec709b37b8f11ee39dccd37516aa08e79e", func := "loop.example/g00252/laws.FnSpans", spec := "fnSpans", inPlace := ["math.Float64bits", "internal/bytealg.Compare"], apart := false }
def FnSpansSaid : Prop := fnSpansRow.holds Try.pinned (OpenSpec.ofChange fnSpansSpec)

/-- ITS FALSE NEIGHBOUR: 'it returns false'. Refute it at one input. -/
def fnSpansWrong : ChangeSpec := { name := "fnSpans", fn := fun _ => fun
  | [d] => { results := [.lit (.bool false)], args := [d] }
  | _ => none }
def FnSpansWrongFalsely : Prop := fnSpansRow.holds Try.pinned (OpenSpec.ofChange fnSpansWrong)

/- THE SECOND FORM. 'bulk': how many values and letters a reading holds, each counted each time it is reached (what is shared counts as often as it is met; a slice's spare places count too). A statement '..UptoSaid' is the law's where the arguments, and the package variables that the reading takes, are together of bulk at most 1048576: NARROWER than '..Said'. Prove '..Said' where nothing that the law and all that it calls make is longer than what came in: it says more and counts as full. Else prove '..UptoSaid'. A law counts once. -/
mutual
def uptoBulk {H : Type} : DataW H → Nat
  | .lit (.string bytes) => bytes.length + 1
  | .lit _ => 1
  | .nil => 1
  | .ptr d => uptoBulk d + 1
  | .slice elems spare => uptoBulkAll elems + uptoBulkAll spare + 1
  | .agg parts => uptoBulkAll parts + 1
  | .iface _ d => uptoBulk d + 1
  | .map entries => uptoBulkEntries entries + 1
  | .held _ => 1
def uptoBulkAll {H : Type} : List (DataW H) → Nat
  | [] => 0
  | d :: r => uptoBulk d + uptoBulkAll r
def uptoBulkEntries {H : Type} : List (Lit × DataW H) → Nat
  | [] => 0
  | x :: r => uptoBulkEntry x + uptoBulkEntries r
def uptoBulkEntry {H : Type} : Lit × DataW H → Nat
  | (.string bytes, d) => bytes.length + uptoBulk d + 1
  | (_, d) => uptoBulk d + 1
 end
def uptoSmall : (H : Type) → List (DataW H) → Bool := fun _ ds => decide (uptoBulkAll ds ≤ 1048576)
def OpenSpec.upto (s : _root_.Go.ChangeSpec) : _root_.Go.OpenSpec := { _root_.Go.OpenSpec.ofChange s with cond := some uptoSmall }

/-- 'laws.FnExactItemCompare', WHERE WHAT IT READS IS OF BULK AT MOST 1048576: true; the input reads as it did. -/
def fnExactItemCompareUptoRow : OpenClaim := { program := "ytcjeokkhpjppaaa", sum := "2c1817c435a5b4b9747f9fcfc71eeeec709b37b8f11ee39dccd37516aa08e79e", func := "loop.example/g00252/laws.FnExactItemCompare", spec := "fnExactItemCompare", inPlace := ["math.Float64bits", "internal/bytealg.Compare"], apart := false, narrowed := true }
def FnExactItemCompareUptoSaid : Prop := fnExactItemCompareUptoRow.holds Try.pinned (OpenSpec.upto fnExactItemCompareSpec)

/-- 'laws.FnExactInSpan', WHERE WHAT IT READS IS OF BULK AT MOST 1048576: true; the input reads as it did. -/
def fnExactInSpanUptoRow : OpenClaim := { program := "ytcjeokkhpjppaaa", sum := "2c1817c435a5b4b9747f9fcfc71eeeec709b37b8f11ee39dccd37516aa08e79e", func := "loop.example/g00252/laws.FnExactInSpan", spec := "fnExactInSpan", inPlace := ["math.Float64bits", "internal/bytealg.Compare"], apart := false, narrowed := true }
def FnExactInSpanUptoSaid : Prop := fnExactInSpanUptoRow.holds Try.pinned (OpenSpec.upto fnExactInSpanSpec)

/-- 'laws.FnExactValueBytes', WHERE WHAT IT READS IS OF BULK AT MOST 1048576: true; the input reads as it did. -/
def fnExactValueBytesUptoRow : OpenClaim := { program := "ytcjeokkhpjppaaa", sum := "2c1817c435a5b4b9747f9fcfc71eeeec709b37b8f11ee39dccd37516aa08e79e", func := "loop.example/g00252/laws.FnExactValueBytes", spec := "fnExactValueBytes", inPlace := ["math.Float64bits"], apart := false, narrowed := true }
def FnExactValueBytesUptoSaid : Prop := fnExactValueBytesUptoRow.holds Try.pinned (OpenSpec.upto fnExactValueBytesSpec)

/-- 'laws.FnExactKeyBytes', WHERE WHAT IT READS IS OF BULK AT MOST 1048576: true; the input reads as it did. -/
def fnExactKeyBytesUptoRow : OpenClaim := { program := "ytcjeokkhpjppaaa", sum := "2c1817c435a5b4b9747f9fcfc71eeeec709b37b8f11ee39dccd37516aa08e79e", func := "loop.example/g00252/laws.FnExactKeyBytes", spec := "fnExactKeyBytes", inPlace := ["math.Float64bits"], apart := false, narrowed := true }
def FnExactKeyBytesUptoSaid : Prop := fnExactKeyBytesUptoRow.holds Try.pinned (OpenSpec.upto fnExactKeyBytesSpec)

/-- 'laws.FnSpans', WHERE WHAT IT READS IS OF BULK AT MOST 1048576: true; the input reads as it did. -/
def fnSpansUptoRow : OpenClaim := { program := "ytcjeokkhpjppaaa", sum := "2c1817c435a5b4b9747f9fcfc71eeeec709b37b8f11ee39dccd37516aa08e79e", func := "loop.example/g00252/laws.FnSpans", spec := "fnSpans", inPlace := ["math.Float64bits", "internal/bytealg.Compare"], apart := false, narrowed := true }
def FnSpansUptoSaid : Prop := fnSpansUptoRow.holds Try.pinned (OpenSpec.upto fnSpansSpec)

end Rows
end Go.Proofs.Ytcjeokkhpjppaaa
