/-
  No cell of these rows narrows 'for every input' (looked for: loops, veiled, ifaces, maps, wideKeys, modest, calm, conditions, laid).
  DERIVED. THE GIVEN ROWS OF THIS SEAT. 6 by the template 'for every input the law returns true; each argument reads behind the call as it read before'; 0 by the template 'total and deterministic' (their statements: YtjjkhlphdbmdfaaTotals.lean).
  GIVEN WITH THE SEED: the statements are not yours to turn. If you find one false, say at which input.
  Laid BY PROGRAM, IN A SANDBOX (cutbox-rows.mjs): the forced cells as the released guide's own fill.sh prints them over the translation 2e0a80f68ead70be… (all of the seat's roots in one cut). By AI agents, Wed Nov 11 2026. No macro, syntax, notation, axiom, sorry.
-/
import Derived.Test.YtjjkhlphdbmdfaaChecked
import GoSem.Claim
import GoSem.ClaimJoined
import GoSem.ClaimMapViews
import Derived.JoinedTies
import Derived.KernelRfl
namespace Go.Proofs.Ytjjkhlphdbmdfaa
/- THE CELL 'sum', in the pinned program and in every row, IS THE sha256 OF THE DUMP (.gsa) THAT YtjjkhlphdbmdfaaProg.lean LOADS. Nothing in Lean hashes anything: it is a label: what it is worth is what the hold of that sum in a sandbox is worth. -/
noncomputable def Try.pinned : Pinned := { name := "ytjjkhlphdbmdfaa", sum := "2e0a80f68ead70be32dc483f604dd961fbc16d076746d8b2f03b3074a738c6d2", checked := Try.checked }
namespace Rows
def none {H : Type} : Left H := { results := [], args := [] }

/-- 'laws.FnExactValueRead': WHATEVER THE INPUT: true; the input reads as it did. -/
def fnExactValueReadSpec : ChangeSpec := { name := "fnExactValueRead", fn := fun _ => fun
  | [d] => { results := [.lit (.bool true)], args := [d] }
  | _ => none }
def fnExactValueReadRow : OpenClaim := { program := "ytjjkhlphdbmdfaa", sum := "2e0a80f68ead70be32dc483f604dd961fbc16d076746d8b2f03b3074a738c6d2", func := "loop.example/g00252/laws.FnExactValueRead", spec := "fnExactValueRead", inPlace := ["math.Float64frombits", "math.Float64bits"], unfollowed := true, recurses := true, apart := false }
def FnExactValueReadSaid : Prop := fnExactValueReadRow.holds Try.pinned (OpenSpec.ofChange fnExactValueReadSpec)

/-- ITS FALSE NEIGHBOUR: 'it returns false'. Refute it at one input. -/
def fnExactValueReadWrong : ChangeSpec := { name := "fnExactValueRead", fn := fun _ => fun
  | [d] => { results := [.lit (.bool false)], args := [d] }
  | _ => none }
def FnExactValueReadWrongFalsely : Prop := fnExactValueReadRow.holds Try.pinned (OpenSpec.ofChange fnExactValueReadWrong)

/-- 'laws.FnExactKeyRead': WHATEVER THE INPUT: true; the input reads as it did. -/
def fnExactKeyReadSpec : ChangeSpec := { name := "fnExactKeyRead", fn := fun _ => fun
  | [d] => { results := [.lit (.bool true)], args := [d] }
  | _ => none }
def fnExactKeyReadRow : OpenClaim := { program := "ytjjkhlphdbmdfaa", sum := "2e0a80f68ead70be32dc483f604dd961fbc16d076746d8b2f03b3074a738c6d2", func := "loop.example/g00252/laws.FnExactKeyRead", spec := "fnExactKeyRead", inPlace := ["math.Float64frombits", "math.Float64bits"], unfollowed := true, recurses := true, apart := false }
def FnExactKeyReadSaid : Prop := fnExactKeyReadRow.holds Try.pinned (OpenSpec.ofChange fnExactKeyReadSpec)

/-- ITS FALSE NEIGHBOUR: 'it returns false'. Refute it at one input. -/
def fnExactKeyReadWrong : ChangeSpec := { name := "fnExactKeyRead", fn := fun _ => fun
  | [d] => { results := [.lit (.bool false)], args := [d] }
  | _ => none }
def FnExactKeyReadWrongFalsely : Prop := fnExactKeyReadRow.holds Try.pinned (OpenSpec.ofChange fnExactKeyReadWrong)

/-- 'laws.FnKeys': WHATEVER THE INPUT: true; the input reads as it did. -/
def fnKeysSpec : ChangeSpec := { name := "fnKeys", fn := fun _ => fun
  | [d] => { results := [.lit (.bool true)], args := [d] }
  | _ => none }
def fnKeysRow : OpenClaim := { program := "ytjjkhlphdbmdfaa", sum := "2e0a80f68ead70be32dc483f604dd961fbc16d076746d8b2f03b3074a738c6d2", func := "loop.example/g00252/laws.FnKeys", spec := "fnKeys", inPlace := ["math.Float64bits", "math.Float64frombits", "internal/bytealg.Compare"], unfollowed := true, recurses := true, apart := false }
def FnKeysSaid : Prop := fnKeysRow.holds Try.pinned (OpenSpec.ofChange fnKeysSpec)

/-- ITS FALSE NEIGHBOUR: 'it returns false'. Refute it at one input. -/
def fnKeysWrong : ChangeSpec := { name := "fnKeys", fn := fun _ => fun
  | [d] => { results := [.lit (.bool false)], args := [d] }
  | _ => none }
def FnKeysWrongFalsely : Prop := fnKeysRow.holds Try.pinned (OpenSpec.ofChange fnKeysWrong)

/-- 'laws.FnExactTupleBytes': WHATEVER THE INPUT: true; the input reads as it did. -/
def fnExactTupleBytesSpec : ChangeSpec := { name := "fnExactTupleBytes", fn := fun _ => fun
  | [d] => { results := [.lit (.bool true)], args := [d] }
  | _ => none }
def fnExactTupleBytesRow : OpenClaim := { program := "ytjjkhlphdbmdfaa", sum := "2e0a80f68ead70be32dc483f604dd961fbc16d076746d8b2f03b3074a738c6d2", func := "loop.example/g00252/laws.FnExactTupleBytes", spec := "fnExactTupleBytes", inPlace := ["math.Float64bits"], apart := false }
def FnExactTupleBytesSaid : Prop := fnExactTupleBytesRow.holds Try.pinned (OpenSpec.ofChange fnExactTupleBytesSpec)

/-- ITS FALSE NEIGHBOUR: 'it returns false'. Refute it at one input. -/
def fnExactTupleBytesWrong : ChangeSpec := { name := "fnExactTupleBytes", fn := fun _ => fun
  | [d] => { results := [.lit (.bool false)], args := [d] }
  | _ => none }
def FnExactTupleBytesWrongFalsely : Prop := fnExactTupleBytesRow.holds Try.pinned (OpenSpec.ofChange fnExactTupleBytesWrong)

/-- 'laws.FnExactTupleRead': WHATEVER THE INPUT: true; the input reads as it did. -/
def fnExactTupleReadSpec : ChangeSpec := { name := "fnExactTupleRead", fn := fun _ => fun
  | [d] => { results := [.lit (.bool true)], args := [d] }
  | _ => none }
def fnExactTupleReadRow : OpenClaim := { program := "ytjjkhlphdbmdfaa", sum := "2e0a80f68ead70be32dc483f604dd961fbc16d076746d8b2f03b3074a738c6d2", func := "loop.example/g00252/laws.FnExactTupleRead", spec := "fnExactTupleRead", inPlace := ["math.Float64frombits", "math.Float64bits"], unfollowed := true, recurses := true, apart := false }
def FnExactTupleReadSaid : Prop := fnExactTupleReadRow.holds Try.pinned (OpenSpec.ofChange fnExactTupleReadSpec)

/-- ITS FALSE NEIGHBOUR: 'it returns false'. Refute it at one input. -/
def fnExactTupleReadWrong : ChangeSpec := { name := "fnExactTupleRead", fn := fun _ => fun
  | [d] => { results := [.lit (.bool false)], args := [d] }
  | _ => none }
def FnExactTupleReadWrongFalsely : Prop := fnExactTupleReadRow.holds Try.pinned (OpenSpec.ofChange fnExactTupleReadWrong)

/-- 'laws.FnTuples': WHATEVER THE INPUT: true; the input reads as it did. -/
def fnTuplesSpec : ChangeSpec := { name := "fnTuples", fn := fun _ => fun
  | [d] => { results := [.lit (.bool true)], args := [d] }
  | _ => none }
def fnTuplesRow : OpenClaim := { program := "ytjjkhlphdbmdfaa", sum := "2e0a80f68ead70be32dc483f604dd961fbc16d076746d8b2f03b3074a738c6d2", func := "loop.example/g00252/laws.FnTuples", spec := "fnTuples", inPlace := ["math.Float64bits", "math.Float64frombits"], unfollowed := true, recurses := true, apart := false }
def FnTuplesSaid : Prop := fnTuplesRow.holds Try.pinned (OpenSpec.ofChange fnTuplesSpec)

/-- ITS FALSE NEIGHBOUR: 'it returns false'. Refute it at one input. -/
def fnTuplesWrong : ChangeSpec := { name := "fnTuples", fn := fun _ => fun
  | [d] => { results := [.lit (.bool false)], args := [d] }
  | _ => none }
def FnTuplesWrongFalsely : Prop := fnTuplesRow.holds Try.pinned (OpenSpec.ofChange fnTuplesWrong)

/- THE SECOND FORM. 'bulk': how many values and letters a reading holds, each counted each time it is reached (what is shared counts as often as it is met; a slice's spare places count too). A statement '..UptoSaid' is the law's where the arguments, and the package variables that the reading takes, are together of bulk at most 1048576: NARROWER than '..Said'. Prove '..Said' where nothing that the law and all that it calls make is longer than what came in: it says more and counts as full. Else prove '..UptoSaid'. A law counts once. -/
mutual
def uptoBulk {H : Type} : DataW H → Nat
  | .lit (.string bytes) => bytes.length + 1
  | .lit _ => 1
  | .nil => 1
  | .ptr d => uptoBulk d + 1
  | .slice elems spare => uptoBulkAll elems + uptoBulkAll spare + 1
  | .agg parts => uptoBulkAll parts + 1
  | .iface _ d => uptoBulk d + 1
  | .map entries => uptoBulkEntries entries + 1
  | .held _ => 1
def uptoBulkAll {H : Type} : List (DataW H) → Nat
  | [] => 0
  | d :: r => uptoBulk d + uptoBulkAll r
def uptoBulkEntries {H : Type} : List (Lit × DataW H) → Nat
  | [] => 0
  | x :: r => uptoBulkEntry x + uptoBulkEntries r
def uptoBulkEntry {H : Type} : Lit × DataW H → Nat
  | (.string bytes, d) => bytes.length + uptoBulk d + 1
  | (_, d) => uptoBulk d + 1
 end
def uptoSmall : (H : Type) → List (DataW H) → Bool := fun _ ds => decide (uptoBulkAll ds ≤ 1048576)
def OpenSpec.upto (s : _root_.Go.ChangeSpec) : _root_.Go.OpenSpec := { _root_.Go.OpenSpec.ofChange s with cond := some uptoSmall }

/-- 'laws.FnExactValueRead', WHERE WHAT IT READS IS OF BULK AT MOST 1048576: true; the input reads as it did. -/
def fnExactValueReadUptoRow : OpenClaim := { program := "ytjjkhlphdbmdfaa", sum := "2e0a80f68ead70be32dc483f604dd961fbc16d076746d8b2f03b3074a738c6d2", func := "loop.example/g00252/laws.FnExactValueRead", spec := "fnExactValueRead", inPlace := ["math.Float64frombits", "math.Float64bits"], unfollowed := true, recurses := true, apart := false, narrowed := true }
def FnExactValueReadUptoSaid : Prop := fnExactValueReadUptoRow.holds Try.pinned (OpenSpec.upto fnExactValueReadSpec)

/-- 'laws.FnExactKeyRead', WHERE WHAT IT READS IS OF BULK AT MOST 1048576: true; the input reads as it did. -/
def fnExactKeyReadUptoRow : OpenClaim := { program := "ytjjkhlphdbmdfaa", sum := "2e0a80f68ead70be32dc483f604dd961fbc16d076746d8b2f03b3074a738c6d2", func := "loop.example/g00252/laws.FnExactKeyRead", spec := "fnExactKeyRead", inPlace := ["math.Float64frombits", "math.Float64bits"], unfollowed := true, recurses := true, apart := false, narrowed := true }
def FnExactKeyReadUptoSaid : Prop := fnExactKeyReadUptoRow.holds Try.pinned (OpenSpec.upto fnExactKeyReadSpec)

/-- 'laws.FnKeys', WHERE WHAT IT READS IS OF BULK AT MOST 1048576: true; the input reads as it did. -/
def fnKeysUptoRow : OpenClaim := { program := "ytjjkhlphdbmdfaa", sum := "2e0a80f68ead70be32dc483f604dd961fbc16d076746d8b2f03b3074a738c6d2", func := "loop.example/g00252/laws.FnKeys", spec := "fnKeys", inPlace := ["math.Float64bits", "math.Float64frombits", "internal/bytealg.Compare"], unfollowed := true, recurses := true, apart := false, narrowed := true }
def FnKeysUptoSaid : Prop := fnKeysUptoRow.holds Try.pinned (OpenSpec.upto fnKeysSpec)

/-- 'laws.FnExactTupleBytes', WHERE WHAT IT READS IS OF BULK AT MOST 1048576: true; the input reads as it did. -/
def fnExactTupleBytesUptoRow : OpenClaim := { program := "ytjjkhlphdbmdfaa", sum := "2e0a80f68ead70be32dc483f604dd961fbc16d076746d8b2f03b3074a738c6d2", func := "loop.example/g00252/laws.FnExactTupleBytes", spec := "fnExactTupleBytes", inPlace := ["math.Float64bits"], apart := false, narrowed := true }
def FnExactTupleBytesUptoSaid : Prop := fnExactTupleBytesUptoRow.holds Try.pinned (OpenSpec.upto fnExactTupleBytesSpec)

/-- 'laws.FnExactTupleRead', WHERE WHAT IT READS IS OF BULK AT MOST 1048576: true; the input reads as it did. -/
def fnExactTupleReadUptoRow : OpenClaim := { program := "ytjjkhlphdbmdfaa", sum := "2e0a80f68ead70be32dc483f604dd961fbc16d076746d8b2f03b3074a738c6d2", func := "loop.example/g00252/laws.FnExactTupleRead", spec := "fnExactTupleRead", inPlace := ["math.Float64frombits", "math.Float64bits"], unfollowed := true, recurses := true, apart := false, narrowed := true }
def FnExactTupleReadUptoSaid : Prop := fnExactTupleReadUptoRow.holds Try.pinned (OpenSpec.upto fnExactTupleReadSpec)

/-- 'laws.FnTuples', WHERE WHAT IT READS IS OF BULK AT MOST 1048576: true; the input reads as it did. -/
def fnTuplesUptoRow : OpenClaim := { program := "ytjjkhlphdbmdfaa", sum := "2e0a80f68ead70be32dc483f604dd961fbc16d076746d8b2f03b3074a738c6d2", func := "loop.example/g00252/laws.FnTuples", spec := "fnTuples", inPlace := ["math.Float64bits", "math.Float64frombits"], unfollowed := true, recurses := true, apart := false, narrowed := true }
def FnTuplesUptoSaid : Prop := fnTuplesUptoRow.holds Try.pinned (OpenSpec.upto fnTuplesSpec)

end Rows
end Go.Proofs.Ytjjkhlphdbmdfaa
