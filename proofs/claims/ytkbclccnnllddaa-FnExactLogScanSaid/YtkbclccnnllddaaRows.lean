/-
  No cell of these rows narrows 'for every input' (looked for: loops, veiled, ifaces, maps, wideKeys, modest, calm, conditions, laid).
  DERIVED. THE GIVEN ROWS OF THIS SEAT. 8 by the template 'for every input the law returns true; each argument reads behind the call as it read before'; 0 by the template 'total and deterministic' (their statements: YtkbclccnnllddaaTotals.lean).
  GIVEN WITH THE SEED: the statements are not yours to turn. If you find one false, say at which input.
  Laid BY PROGRAM, IN A SANDBOX (cutbox-rows.mjs): the forced cells as the released guide's own fill.sh prints them over the translation b1bee6c5017bd8f1… (all of the seat's roots in one cut). By AI agents, Wed Nov 11 2026. No macro, syntax, notation, axiom, sorry.
-/
import Derived.Test.YtkbclccnnllddaaChecked
import GoSem.Claim
import GoSem.ClaimJoined
import GoSem.ClaimMapViews
import Derived.JoinedTies
import Derived.KernelRfl
namespace Go.Proofs.Ytkbclccnnllddaa
/- THE CELL 'sum', in the pinned program and in every row, IS THE sha256 OF THE DUMP (.gsa) THAT YtkbclccnnllddaaProg.lean LOADS. Nothing in Lean hashes anything: it is a label: what it is worth is what the hold of that sum in a sandbox is worth. -/
noncomputable def Try.pinned : Pinned := { name := "ytkbclccnnllddaa", sum := "b1bee6c5017bd8f129a212ab9a961dbe61631e598d00d0f59d37f3f998f6a25e", checked := Try.checked }
namespace Rows
def none {H : Type} : Left H := { results := [], args := [] }

/-- 'laws.FnExactCrc': WHATEVER THE INPUT: true; the input reads as it did. -/
def fnExactCrcSpec : ChangeSpec := { name := "fnExactCrc", fn := fun _ => fun
  | [d] => { results := [.lit (.bool true)], args := [d] }
  | _ => none }
def fnExactCrcRow : OpenClaim := { program := "ytkbclccnnllddaa", sum := "b1bee6c5017bd8f129a212ab9a961dbe61631e598d00d0f59d37f3f998f6a25e", func := "loop.example/g00252/laws.FnExactCrc", spec := "fnExactCrc", apart := false }
def FnExactCrcSaid : Prop := fnExactCrcRow.holds Try.pinned (OpenSpec.ofChange fnExactCrcSpec)

/-- ITS FALSE NEIGHBOUR: 'it returns false'. Refute it at one input. -/
def fnExactCrcWrong : ChangeSpec := { name := "fnExactCrc", fn := fun _ => fun
  | [d] => { results := [.lit (.bool false)], args := [d] }
  | _ => none }
def FnExactCrcWrongFalsely : Prop := fnExactCrcRow.holds Try.pinned (OpenSpec.ofChange fnExactCrcWrong)

/-- 'laws.FnExactFrame': WHATEVER THE INPUT: true; the input reads as it did. -/
def fnExactFrameSpec : ChangeSpec := { name := "fnExactFrame", fn := fun _ => fun
  | [d1, d2] => { results := [.lit (.bool true)], args := [d1, d2] }
  | _ => none }
def fnExactFrameRow : OpenClaim := { program := "ytkbclccnnllddaa", sum := "b1bee6c5017bd8f129a212ab9a961dbe61631e598d00d0f59d37f3f998f6a25e", func := "loop.example/g00252/laws.FnExactFrame", spec := "fnExactFrame", apart := false }
def FnExactFrameSaid : Prop := fnExactFrameRow.holds Try.pinned (OpenSpec.ofChange fnExactFrameSpec)

/-- ITS FALSE NEIGHBOUR: 'it returns false'. Refute it at one input. -/
def fnExactFrameWrong : ChangeSpec := { name := "fnExactFrame", fn := fun _ => fun
  | [d1, d2] => { results := [.lit (.bool false)], args := [d1, d2] }
  | _ => none }
def FnExactFrameWrongFalsely : Prop := fnExactFrameRow.holds Try.pinned (OpenSpec.ofChange fnExactFrameWrong)

/-- 'laws.FnExactFrameAt': WHATEVER THE INPUT: true; the input reads as it did. -/
def fnExactFrameAtSpec : ChangeSpec := { name := "fnExactFrameAt", fn := fun _ => fun
  | [d1, d2] => { results := [.lit (.bool true)], args := [d1, d2] }
  | _ => none }
def fnExactFrameAtRow : OpenClaim := { program := "ytkbclccnnllddaa", sum := "b1bee6c5017bd8f129a212ab9a961dbe61631e598d00d0f59d37f3f998f6a25e", func := "loop.example/g00252/laws.FnExactFrameAt", spec := "fnExactFrameAt", apart := false }
def FnExactFrameAtSaid : Prop := fnExactFrameAtRow.holds Try.pinned (OpenSpec.ofChange fnExactFrameAtSpec)

/-- ITS FALSE NEIGHBOUR: 'it returns false'. Refute it at one input. -/
def fnExactFrameAtWrong : ChangeSpec := { name := "fnExactFrameAt", fn := fun _ => fun
  | [d1, d2] => { results := [.lit (.bool false)], args := [d1, d2] }
  | _ => none }
def FnExactFrameAtWrongFalsely : Prop := fnExactFrameAtRow.holds Try.pinned (OpenSpec.ofChange fnExactFrameAtWrong)

/-- 'laws.FnExactRecordOk': WHATEVER THE INPUT: true; the input reads as it did. -/
def fnExactRecordOkSpec : ChangeSpec := { name := "fnExactRecordOk", fn := fun _ => fun
  | [d] => { results := [.lit (.bool true)], args := [d] }
  | _ => none }
def fnExactRecordOkRow : OpenClaim := { program := "ytkbclccnnllddaa", sum := "b1bee6c5017bd8f129a212ab9a961dbe61631e598d00d0f59d37f3f998f6a25e", func := "loop.example/g00252/laws.FnExactRecordOk", spec := "fnExactRecordOk", apart := false }
def FnExactRecordOkSaid : Prop := fnExactRecordOkRow.holds Try.pinned (OpenSpec.ofChange fnExactRecordOkSpec)

/-- ITS FALSE NEIGHBOUR: 'it returns false'. Refute it at one input. -/
def fnExactRecordOkWrong : ChangeSpec := { name := "fnExactRecordOk", fn := fun _ => fun
  | [d] => { results := [.lit (.bool false)], args := [d] }
  | _ => none }
def FnExactRecordOkWrongFalsely : Prop := fnExactRecordOkRow.holds Try.pinned (OpenSpec.ofChange fnExactRecordOkWrong)

/-- 'laws.FnExactRecordBytes': WHATEVER THE INPUT: true; the input reads as it did. -/
def fnExactRecordBytesSpec : ChangeSpec := { name := "fnExactRecordBytes", fn := fun _ => fun
  | [d] => { results := [.lit (.bool true)], args := [d] }
  | _ => none }
def fnExactRecordBytesRow : OpenClaim := { program := "ytkbclccnnllddaa", sum := "b1bee6c5017bd8f129a212ab9a961dbe61631e598d00d0f59d37f3f998f6a25e", func := "loop.example/g00252/laws.FnExactRecordBytes", spec := "fnExactRecordBytes", apart := false }
def FnExactRecordBytesSaid : Prop := fnExactRecordBytesRow.holds Try.pinned (OpenSpec.ofChange fnExactRecordBytesSpec)

/-- ITS FALSE NEIGHBOUR: 'it returns false'. Refute it at one input. -/
def fnExactRecordBytesWrong : ChangeSpec := { name := "fnExactRecordBytes", fn := fun _ => fun
  | [d] => { results := [.lit (.bool false)], args := [d] }
  | _ => none }
def FnExactRecordBytesWrongFalsely : Prop := fnExactRecordBytesRow.holds Try.pinned (OpenSpec.ofChange fnExactRecordBytesWrong)

/-- 'laws.FnExactRecordAt': WHATEVER THE INPUT: true; the input reads as it did. -/
def fnExactRecordAtSpec : ChangeSpec := { name := "fnExactRecordAt", fn := fun _ => fun
  | [d1, d2] => { results := [.lit (.bool true)], args := [d1, d2] }
  | _ => none }
def fnExactRecordAtRow : OpenClaim := { program := "ytkbclccnnllddaa", sum := "b1bee6c5017bd8f129a212ab9a961dbe61631e598d00d0f59d37f3f998f6a25e", func := "loop.example/g00252/laws.FnExactRecordAt", spec := "fnExactRecordAt", apart := false }
def FnExactRecordAtSaid : Prop := fnExactRecordAtRow.holds Try.pinned (OpenSpec.ofChange fnExactRecordAtSpec)

/-- ITS FALSE NEIGHBOUR: 'it returns false'. Refute it at one input. -/
def fnExactRecordAtWrong : ChangeSpec := { name := "fnExactRecordAt", fn := fun _ => fun
  | [d1, d2] => { results := [.lit (.bool false)], args := [d1, d2] }
  | _ => none }
def FnExactRecordAtWrongFalsely : Prop := fnExactRecordAtRow.holds Try.pinned (OpenSpec.ofChange fnExactRecordAtWrong)

/-- 'laws.FnExactLogScan': WHATEVER THE INPUT: true; the input reads as it did. -/
def fnExactLogScanSpec : ChangeSpec := { name := "fnExactLogScan", fn := fun _ => fun
  | [d1, d2] => { results := [.lit (.bool true)], args := [d1, d2] }
  | _ => none }
def fnExactLogScanRow : OpenClaim := { program := "ytkbclccnnllddaa", sum := "b1bee6c5017bd8f129a212ab9a961dbe61631e598d00d0f59d37f3f998f6a25e", func := "loop.example/g00252/laws.FnExactLogScan", spec := "fnExactLogScan", apart := false }
def FnExactLogScanSaid : Prop := fnExactLogScanRow.holds Try.pinned (OpenSpec.ofChange fnExactLogScanSpec)

/-- ITS FALSE NEIGHBOUR: 'it returns false'. Refute it at one input. -/
def fnExactLogScanWrong : ChangeSpec := { name := "fnExactLogScan", fn := fun _ => fun
  | [d1, d2] => { results := [.lit (.bool false)], args := [d1, d2] }
  | _ => none }
def FnExactLogScanWrongFalsely : Prop := fnExactLogScanRow.holds Try.pinned (OpenSpec.ofChange fnExactLogScanWrong)

/-- 'laws.FnExactLogBytes': WHATEVER THE INPUT: true; the input reads as it did. -/
def fnExactLogBytesSpec : ChangeSpec := { name := "fnExactLogBytes", fn := fun _ => fun
  | [d] => { results := [.lit (.bool true)], args := [d] }
  | _ => none }
def fnExactLogBytesRow : OpenClaim := { program := "ytkbclccnnllddaa", sum := "b1bee6c5017bd8f129a212ab9a961dbe61631e598d00d0f59d37f3f998f6a25e", func := "loop.example/g00252/laws.FnExactLogBytes", spec := "fnExactLogBytes", apart := false }
def FnExactLogBytesSaid : Prop := fnExactLogBytesRow.holds Try.pinned (OpenSpec.ofChange fnExactLogBytesSpec)

/-- ITS FALSE NEIGHBOUR: 'it returns false'. Refute it at one input. -/
def fnExactLogBytesWrong : ChangeSpec := { name := "fnExactLogBytes", fn := fun _ => fun
  | [d] => { results := [.lit (.bool false)], args := [d] }
  | _ => none }
def FnExactLogBytesWrongFalsely : Prop := fnExactLogBytesRow.holds Try.pinned (OpenSpec.ofChange fnExactLogBytesWrong)

/- THE SECOND FORM. 'bulk': how many values and letters a reading holds, each counted each time it is reached (what is shared counts as often as it is met; a slice's spare places count too). A statement '..UptoSaid' is the law's where the arguments, and the package variables that the reading takes, are together of bulk at most 1048576: NARROWER than '..Said'. Prove '..Said' where nothing that the law and all that it calls make is longer than what came in: it says more and counts as full. Else prove '..UptoSaid'. A law counts once. -/
mutual
def uptoBulk {H : Type} : DataW H → Nat
  | .lit (.string bytes) => bytes.length + 1
  | .lit _ => 1
  | .nil => 1
  | .ptr d => uptoBulk d + 1
  | .slice elems spare => uptoBulkAll elems + uptoBulkAll spare + 1
  | .agg parts => uptoBulkAll parts + 1
  | .iface _ d => uptoBulk d + 1
  | .map entries => uptoBulkEntries entries + 1
  | .held _ => 1
def uptoBulkAll {H : Type} : List (DataW H) → Nat
  | [] => 0
  | d :: r => uptoBulk d + uptoBulkAll r
def uptoBulkEntries {H : Type} : List (Lit × DataW H) → Nat
  | [] => 0
  | x :: r => uptoBulkEntry x + uptoBulkEntries r
def uptoBulkEntry {H : Type} : Lit × DataW H → Nat
  | (.string bytes, d) => bytes.length + uptoBulk d + 1
  | (_, d) => uptoBulk d + 1
 end
def uptoSmall : (H : Type) → List (DataW H) → Bool := fun _ ds => decide (uptoBulkAll ds ≤ 1048576)
def OpenSpec.upto (s : _root_.Go.ChangeSpec) : _root_.Go.OpenSpec := { _root_.Go.OpenSpec.ofChange s with cond := some uptoSmall }

/-- 'laws.FnExactCrc', WHERE WHAT IT READS IS OF BULK AT MOST 1048576: true; the input reads as it did. -/
def fnExactCrcUptoRow : OpenClaim := { program := "ytkbclccnnllddaa", sum := "b1bee6c5017bd8f129a212ab9a961dbe61631e598d00d0f59d37f3f998f6a25e", func := "loop.example/g00252/laws.FnExactCrc", spec := "fnExactCrc", apart := false, narrowed := true }
def FnExactCrcUptoSaid : Prop := fnExactCrcUptoRow.holds Try.pinned (OpenSpec.upto fnExactCrcSpec)

/-- 'laws.FnExactFrame', WHERE WHAT IT READS IS OF BULK AT MOST 1048576: true; the input reads as it did. -/
def fnExactFrameUptoRow : OpenClaim := { program := "ytkbclccnnllddaa", sum := "b1bee6c5017bd8f129a212ab9a961dbe61631e598d00d0f59d37f3f998f6a25e", func := "loop.example/g00252/laws.FnExactFrame", spec := "fnExactFrame", apart := false, narrowed := true }
def FnExactFrameUptoSaid : Prop := fnExactFrameUptoRow.holds Try.pinned (OpenSpec.upto fnExactFrameSpec)

/-- 'laws.FnExactFrameAt', WHERE WHAT IT READS IS OF BULK AT MOST 1048576: true; the input reads as it did. -/
def fnExactFrameAtUptoRow : OpenClaim := { program := "ytkbclccnnllddaa", sum := "b1bee6c5017bd8f129a212ab9a961dbe61631e598d00d0f59d37f3f998f6a25e", func := "loop.example/g00252/laws.FnExactFrameAt", spec := "fnExactFrameAt", apart := false, narrowed := true }
def FnExactFrameAtUptoSaid : Prop := fnExactFrameAtUptoRow.holds Try.pinned (OpenSpec.upto fnExactFrameAtSpec)

/-- 'laws.FnExactRecordOk', WHERE WHAT IT READS IS OF BULK AT MOST 1048576: true; the input reads as it did. -/
def fnExactRecordOkUptoRow : OpenClaim := { program := "ytkbclccnnllddaa", sum := "b1bee6c5017bd8f129a212ab9a961dbe61631e598d00d0f59d37f3f998f6a25e", func := "loop.example/g00252/laws.FnExactRecordOk", spec := "fnExactRecordOk", apart := false, narrowed := true }
def FnExactRecordOkUptoSaid : Prop := fnExactRecordOkUptoRow.holds Try.pinned (OpenSpec.upto fnExactRecordOkSpec)

/-- 'laws.FnExactRecordBytes', WHERE WHAT IT READS IS OF BULK AT MOST 1048576: true; the input reads as it did. -/
def fnExactRecordBytesUptoRow : OpenClaim := { program := "ytkbclccnnllddaa", sum := "b1bee6c5017bd8f129a212ab9a961dbe61631e598d00d0f59d37f3f998f6a25e", func := "loop.example/g00252/laws.FnExactRecordBytes", spec := "fnExactRecordBytes", apart := false, narrowed := true }
def FnExactRecordBytesUptoSaid : Prop := fnExactRecordBytesUptoRow.holds Try.pinned (OpenSpec.upto fnExactRecordBytesSpec)

/-- 'laws.FnExactRecordAt', WHERE WHAT IT READS IS OF BULK AT MOST 1048576: true; the input reads as it did. -/
def fnExactRecordAtUptoRow : OpenClaim := { program := "ytkbclccnnllddaa", sum := "b1bee6c5017bd8f129a212ab9a961dbe61631e598d00d0f59d37f3f998f6a25e", func := "loop.example/g00252/laws.FnExactRecordAt", spec := "fnExactRecordAt", apart := false, narrowed := true }
def FnExactRecordAtUptoSaid : Prop := fnExactRecordAtUptoRow.holds Try.pinned (OpenSpec.upto fnExactRecordAtSpec)

/-- 'laws.FnExactLogScan', WHERE WHAT IT READS IS OF BULK AT MOST 1048576: true; the input reads as it did. -/
def fnExactLogScanUptoRow : OpenClaim := { program := "ytkbclccnnllddaa", sum := "b1bee6c5017bd8f129a212ab9a961dbe61631e598d00d0f59d37f3f998f6a25e", func := "loop.example/g00252/laws.FnExactLogScan", spec := "fnExactLogScan", apart := false, narrowed := true }
def FnExactLogScanUptoSaid : Prop := fnExactLogScanUptoRow.holds Try.pinned (OpenSpec.upto fnExactLogScanSpec)

/-- 'laws.FnExactLogBytes', WHERE WHAT IT READS IS OF BULK AT MOST 1048576: true; the input reads as it did. -/
def fnExactLogBytesUptoRow : OpenClaim := { program := "ytkbclccnnllddaa", sum := "b1bee6c5017bd8f129a212ab9a961dbe61631e598d00d0f59d37f3f998f6a25e", func := "loop.example/g00252/laws.FnExactLogBytes", spec := "fnExactLogBytes", apart := false, narrowed := true }
def FnExactLogBytesUptoSaid : Prop := fnExactLogBytesUptoRow.holds Try.pinned (OpenSpec.upto fnExactLogBytesSpec)

end Rows
end Go.Proofs.Ytkbclccnnllddaa
