/-
  No cell of these rows narrows 'for every input' (looked for: loops, veiled, ifaces, maps, wideKeys, modest, calm, conditions, laid).
  DERIVED. THE GIVEN ROWS OF THIS SEAT. 6 by the template 'for every input the law returns true; each argument reads behind the call as it read before'; 0 by the template 'total and deterministic' (their statements: YtipfcppghbijgaaTotals.lean).
  GIVEN WITH THE SEED: the statements are not yours to turn. If you find one false, say at which input.
  Laid BY PROGRAM, IN A SANDBOX (cutbox-rows.mjs): the forced cells as the released guide's own fill.sh prints them over the translation 8ec376d8556d9dcc… (all of the seat's roots in one cut). By AI agents, Wed Nov 11 2026. No macro, syntax, notation, axiom, sorry.
-/
import Derived.Test.YtipfcppghbijgaaChecked
import GoSem.Claim
import GoSem.ClaimJoined
import GoSem.ClaimMapViews
import Derived.JoinedTies
import Derived.KernelRfl
namespace Go.Proofs.Ytipfcppghbijgaa
/- THE CELL 'sum', in the pinned program and in every row, IS THE sha256 OF THE DUMP (.gsa) THAT YtipfcppghbijgaaProg.lean LOADS. Nothing in Lean hashes anything: it is a label: what it is worth is what the hold of that sum in a sandbox is worth. -/
noncomputable def Try.pinned : Pinned := { name := "ytipfcppghbijgaa", sum := "8ec376d8556d9dccb9de98a7d9dca43c36393c69d07aae3093b37416166e1ad0", checked := Try.checked }
namespace Rows
def none {H : Type} : Left H := { results := [], args := [] }

/-- 'laws.FnExactDiskNew': WHATEVER THE INPUT: true; the input reads as it did. -/
def fnExactDiskNewSpec : ChangeSpec := { name := "fnExactDiskNew", fn := fun _ => fun
  | [d] => { results := [.lit (.bool true)], args := [d] }
  | _ => none }
def fnExactDiskNewRow : OpenClaim := { program := "ytipfcppghbijgaa", sum := "8ec376d8556d9dccb9de98a7d9dca43c36393c69d07aae3093b37416166e1ad0", func := "loop.example/g00252/laws.FnExactDiskNew", spec := "fnExactDiskNew", apart := false }
def FnExactDiskNewSaid : Prop := fnExactDiskNewRow.holds Try.pinned (OpenSpec.ofChange fnExactDiskNewSpec)

/-- ITS FALSE NEIGHBOUR: 'it returns false'. Refute it at one input. -/
def fnExactDiskNewWrong : ChangeSpec := { name := "fnExactDiskNew", fn := fun _ => fun
  | [d] => { results := [.lit (.bool false)], args := [d] }
  | _ => none }
def FnExactDiskNewWrongFalsely : Prop := fnExactDiskNewRow.holds Try.pinned (OpenSpec.ofChange fnExactDiskNewWrong)

/-- 'laws.FnExactDiskOk': WHATEVER THE INPUT: true; the input reads as it did. -/
def fnExactDiskOkSpec : ChangeSpec := { name := "fnExactDiskOk", fn := fun _ => fun
  | [d] => { results := [.lit (.bool true)], args := [d] }
  | _ => none }
def fnExactDiskOkRow : OpenClaim := { program := "ytipfcppghbijgaa", sum := "8ec376d8556d9dccb9de98a7d9dca43c36393c69d07aae3093b37416166e1ad0", func := "loop.example/g00252/laws.FnExactDiskOk", spec := "fnExactDiskOk", unfollowed := true, recurses := true, apart := false }
def FnExactDiskOkSaid : Prop := fnExactDiskOkRow.holds Try.pinned (OpenSpec.ofChange fnExactDiskOkSpec)

/-- ITS FALSE NEIGHBOUR: 'it returns false'. Refute it at one input. -/
def fnExactDiskOkWrong : ChangeSpec := { name := "fnExactDiskOk", fn := fun _ => fun
  | [d] => { results := [.lit (.bool false)], args := [d] }
  | _ => none }
def FnExactDiskOkWrongFalsely : Prop := fnExactDiskOkRow.holds Try.pinned (OpenSpec.ofChange fnExactDiskOkWrong)

/-- 'laws.FnExactDiskRead': WHATEVER THE INPUT: true; the input reads as it did. -/
def fnExactDiskReadSpec : ChangeSpec := { name := "fnExactDiskRead", fn := fun _ => fun
  | [d1, d2] => { results := [.lit (.bool true)], args := [d1, d2] }
  | _ => none }
def fnExactDiskReadRow : OpenClaim := { program := "ytipfcppghbijgaa", sum := "8ec376d8556d9dccb9de98a7d9dca43c36393c69d07aae3093b37416166e1ad0", func := "loop.example/g00252/laws.FnExactDiskRead", spec := "fnExactDiskRead", unfollowed := true, recurses := true, apart := false }
def FnExactDiskReadSaid : Prop := fnExactDiskReadRow.holds Try.pinned (OpenSpec.ofChange fnExactDiskReadSpec)

/-- ITS FALSE NEIGHBOUR: 'it returns false'. Refute it at one input. -/
def fnExactDiskReadWrong : ChangeSpec := { name := "fnExactDiskRead", fn := fun _ => fun
  | [d1, d2] => { results := [.lit (.bool false)], args := [d1, d2] }
  | _ => none }
def FnExactDiskReadWrongFalsely : Prop := fnExactDiskReadRow.holds Try.pinned (OpenSpec.ofChange fnExactDiskReadWrong)

/-- 'laws.FnExactItemOk': WHATEVER THE INPUT: true; the input reads as it did. -/
def fnExactItemOkSpec : ChangeSpec := { name := "fnExactItemOk", fn := fun _ => fun
  | [d] => { results := [.lit (.bool true)], args := [d] }
  | _ => none }
def fnExactItemOkRow : OpenClaim := { program := "ytipfcppghbijgaa", sum := "8ec376d8556d9dccb9de98a7d9dca43c36393c69d07aae3093b37416166e1ad0", func := "loop.example/g00252/laws.FnExactItemOk", spec := "fnExactItemOk", inPlace := ["math.Float64bits"], apart := false }
def FnExactItemOkSaid : Prop := fnExactItemOkRow.holds Try.pinned (OpenSpec.ofChange fnExactItemOkSpec)

/-- ITS FALSE NEIGHBOUR: 'it returns false'. Refute it at one input. -/
def fnExactItemOkWrong : ChangeSpec := { name := "fnExactItemOk", fn := fun _ => fun
  | [d] => { results := [.lit (.bool false)], args := [d] }
  | _ => none }
def FnExactItemOkWrongFalsely : Prop := fnExactItemOkRow.holds Try.pinned (OpenSpec.ofChange fnExactItemOkWrong)

/-- 'laws.FnExactKeyOk': WHATEVER THE INPUT: true; the input reads as it did. -/
def fnExactKeyOkSpec : ChangeSpec := { name := "fnExactKeyOk", fn := fun _ => fun
  | [d] => { results := [.lit (.bool true)], args := [d] }
  | _ => none }
def fnExactKeyOkRow : OpenClaim := { program := "ytipfcppghbijgaa", sum := "8ec376d8556d9dccb9de98a7d9dca43c36393c69d07aae3093b37416166e1ad0", func := "loop.example/g00252/laws.FnExactKeyOk", spec := "fnExactKeyOk", inPlace := ["math.Float64bits"], apart := false }
def FnExactKeyOkSaid : Prop := fnExactKeyOkRow.holds Try.pinned (OpenSpec.ofChange fnExactKeyOkSpec)

/-- ITS FALSE NEIGHBOUR: 'it returns false'. Refute it at one input. -/
def fnExactKeyOkWrong : ChangeSpec := { name := "fnExactKeyOk", fn := fun _ => fun
  | [d] => { results := [.lit (.bool false)], args := [d] }
  | _ => none }
def FnExactKeyOkWrongFalsely : Prop := fnExactKeyOkRow.holds Try.pinned (OpenSpec.ofChange fnExactKeyOkWrong)

/-- 'laws.FnExactTupleOk': WHATEVER THE INPUT: true; the input reads as it did. -/
def fnExactTupleOkSpec : ChangeSpec := { name := "fnExactTupleOk", fn := fun _ => fun
  | [d] => { results := [.lit (.bool true)], args := [d] }
  | _ => none }
def fnExactTupleOkRow : OpenClaim := { program := "ytipfcppghbijgaa", sum := "8ec376d8556d9dccb9de98a7d9dca43c36393c69d07aae3093b37416166e1ad0", func := "loop.example/g00252/laws.FnExactTupleOk", spec := "fnExactTupleOk", inPlace := ["math.Float64bits"], apart := false }
def FnExactTupleOkSaid : Prop := fnExactTupleOkRow.holds Try.pinned (OpenSpec.ofChange fnExactTupleOkSpec)

/-- ITS FALSE NEIGHBOUR: 'it returns false'. Refute it at one input. -/
def fnExactTupleOkWrong : ChangeSpec := { name := "fnExactTupleOk", fn := fun _ => fun
  | [d] => { results := [.lit (.bool false)], args := [d] }
  | _ => none }
def FnExactTupleOkWrongFalsely : Prop := fnExactTupleOkRow.holds Try.pinned (OpenSpec.ofChange fnExactTupleOkWrong)

/- THE SECOND FORM. 'bulk': how many values and letters a reading holds, each counted each time it is reached (what is shared counts as often as it is met; a slice's spare places count too). A statement '..UptoSaid' is the law's where the arguments, and the package variables that the reading takes, are together of bulk at most 1048576: NARROWER than '..Said'. Prove '..Said' where nothing that the law and all that it calls make is longer than what came in: it says more and counts as full. Else prove '..UptoSaid'. A law counts once. -/
mutual
def uptoBulk {H : Type} : DataW H → Nat
  | .lit (.string bytes) => bytes.length + 1
  | .lit _ => 1
  | .nil => 1
  | .ptr d => uptoBulk d + 1
  | .slice elems spare => uptoBulkAll elems + uptoBulkAll spare + 1
  | .agg parts => uptoBulkAll parts + 1
  | .iface _ d => uptoBulk d + 1
  | .map entries => uptoBulkEntries entries + 1
  | .held _ => 1
def uptoBulkAll {H : Type} : List (DataW H) → Nat
  | [] => 0
  | d :: r => uptoBulk d + uptoBulkAll r
def uptoBulkEntries {H : Type} : List (Lit × DataW H) → Nat
  | [] => 0
  | x :: r => uptoBulkEntry x + uptoBulkEntries r
def uptoBulkEntry {H : Type} : Lit × DataW H → Nat
  | (.string bytes, d) => bytes.length + uptoBulk d + 1
  | (_, d) => uptoBulk d + 1
 end
def uptoSmall : (H : Type) → List (DataW H) → Bool := fun _ ds => decide (uptoBulkAll ds ≤ 1048576)
def OpenSpec.upto (s : _root_.Go.ChangeSpec) : _root_.Go.OpenSpec := { _root_.Go.OpenSpec.ofChange s with cond := some uptoSmall }

/-- 'laws.FnExactDiskNew', WHERE WHAT IT READS IS OF BULK AT MOST 1048576: true; the input reads as it did. -/
def fnExactDiskNewUptoRow : OpenClaim := { program := "ytipfcppghbijgaa", sum := "8ec376d8556d9dccb9de98a7d9dca43c36393c69d07aae3093b37416166e1ad0", func := "loop.example/g00252/laws.FnExactDiskNew", spec := "fnExactDiskNew", apart := false, narrowed := true }
def FnExactDiskNewUptoSaid : Prop := fnExactDiskNewUptoRow.holds Try.pinned (OpenSpec.upto fnExactDiskNewSpec)

/-- 'laws.FnExactDiskOk', WHERE WHAT IT READS IS OF BULK AT MOST 1048576: true; the input reads as it did. -/
def fnExactDiskOkUptoRow : OpenClaim := { program := "ytipfcppghbijgaa", sum := "8ec376d8556d9dccb9de98a7d9dca43c36393c69d07aae3093b37416166e1ad0", func := "loop.example/g00252/laws.FnExactDiskOk", spec := "fnExactDiskOk", unfollowed := true, recurses := true, apart := false, narrowed := true }
def FnExactDiskOkUptoSaid : Prop := fnExactDiskOkUptoRow.holds Try.pinned (OpenSpec.upto fnExactDiskOkSpec)

/-- 'laws.FnExactDiskRead', WHERE WHAT IT READS IS OF BULK AT MOST 1048576: true; the input reads as it did. -/
def fnExactDiskReadUptoRow : OpenClaim := { program := "ytipfcppghbijgaa", sum := "8ec376d8556d9dccb9de98a7d9dca43c36393c69d07aae3093b37416166e1ad0", func := "loop.example/g00252/laws.FnExactDiskRead", spec := "fnExactDiskRead", unfollowed := true, recurses := true, apart := false, narrowed := true }
def FnExactDiskReadUptoSaid : Prop := fnExactDiskReadUptoRow.holds Try.pinned (OpenSpec.upto fnExactDiskReadSpec)

/-- 'laws.FnExactItemOk', WHERE WHAT IT READS IS OF BULK AT MOST 1048576: true; the input reads as it did. -/
def fnExactItemOkUptoRow : OpenClaim := { program := "ytipfcppghbijgaa", sum := "8ec376d8556d9dccb9de98a7d9dca43c36393c69d07aae3093b37416166e1ad0", func := "loop.example/g00252/laws.FnExactItemOk", spec := "fnExactItemOk", inPlace := ["math.Float64bits"], apart := false, narrowed := true }
def FnExactItemOkUptoSaid : Prop := fnExactItemOkUptoRow.holds Try.pinned (OpenSpec.upto fnExactItemOkSpec)

/-- 'laws.FnExactKeyOk', WHERE WHAT IT READS IS OF BULK AT MOST 1048576: true; the input reads as it did. -/
def fnExactKeyOkUptoRow : OpenClaim := { program := "ytipfcppghbijgaa", sum := "8ec376d8556d9dccb9de98a7d9dca43c36393c69d07aae3093b37416166e1ad0", func := "loop.example/g00252/laws.FnExactKeyOk", spec := "fnExactKeyOk", inPlace := ["math.Float64bits"], apart := false, narrowed := true }
def FnExactKeyOkUptoSaid : Prop := fnExactKeyOkUptoRow.holds Try.pinned (OpenSpec.upto fnExactKeyOkSpec)

/-- 'laws.FnExactTupleOk', WHERE WHAT IT READS IS OF BULK AT MOST 1048576: true; the input reads as it did. -/
def fnExactTupleOkUptoRow : OpenClaim := { program := "ytipfcppghbijgaa", sum := "8ec376d8556d9dccb9de98a7d9dca43c36393c69d07aae3093b37416166e1ad0", func := "loop.example/g00252/laws.FnExactTupleOk", spec := "fnExactTupleOk", inPlace := ["math.Float64bits"], apart := false, narrowed := true }
def FnExactTupleOkUptoSaid : Prop := fnExactTupleOkUptoRow.holds Try.pinned (OpenSpec.upto fnExactTupleOkSpec)

end Rows
end Go.Proofs.Ytipfcppghbijgaa
