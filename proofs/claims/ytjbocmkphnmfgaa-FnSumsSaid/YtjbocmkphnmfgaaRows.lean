/-
  No cell of these rows narrows 'for every input' (looked for: loops, veiled, ifaces, maps, wideKeys, modest, calm, conditions, laid).
  DERIVED. THE GIVEN ROWS OF THIS SEAT. 8 by the template 'for every input the law returns true; each argument reads behind the call as it read before'; 0 by the template 'total and deterministic' (their statements: YtjbocmkphnmfgaaTotals.lean).
  GIVEN WITH THE SEED: the statements are not yours to turn. If you find one false, say at which input.
  Laid BY PROGRAM, IN A SANDBOX (cutbox-rows.mjs): the forced cells as the released guide's own fill.sh prints them over the translation 81849640bc57ad3b… (all of the seat's roots in one cut). By AI agents, Wed Nov 11 2026. No macro, syntax, notation, axiom, sorry.
-/
import Derived.Test.YtjbocmkphnmfgaaChecked
import GoSem.Claim
import GoSem.ClaimJoined
import GoSem.ClaimMapViews
import Derived.JoinedTies
import Derived.KernelRfl
namespace Go.Proofs.Ytjbocmkphnmfgaa
/- THE CELL 'sum', in the pinned program and in every row, IS THE sha256 OF THE DUMP (.gsa) THAT YtjbocmkphnmfgaaProg.lean LOADS. Nothing in Lean hashes anything: it is a label: what it is worth is what the hold of that sum in a sandbox is worth. -/
noncomputable def Try.pinned : Pinned := { name := "ytjbocmkphnmfgaa", sum := "81849640bc57ad3b964aa4f5763af3acefaefceefdebc858c15662639058fc47", checked := Try.checked }
namespace Rows
def none {H : Type} : Left H := { results := [], args := [] }

/-- 'laws.FnExactFloatBits': WHATEVER THE INPUT: true; the input reads as it did. -/
def fnExactFloatBitsSpec : ChangeSpec := { name := "fnExactFloatBits", fn := fun _ => fun
  | [d] => { results := [.lit (.bool true)], args := [d] }
  | _ => none }
def fnExactFloatBitsRow : OpenClaim := { program := "ytjbocmkphnmfgaa", sum := "81849640bc57ad3b964aa4f5763af3acefaefceefdebc858c15662639058fc47", func := "loop.example/g00252/laws.FnExactFloatBits", spec := "fnExactFloatBits", inPlace := ["math.Float64bits"], apart := false }
def FnExactFloatBitsSaid : Prop := fnExactFloatBitsRow.holds Try.pinned (OpenSpec.ofChange fnExactFloatBitsSpec)

/-- ITS FALSE NEIGHBOUR: 'it returns false'. Refute it at one input. -/
def fnExactFloatBitsWrong : ChangeSpec := { name := "fnExactFloatBits", fn := fun _ => fun
  | [d] => { results := [.lit (.bool false)], args := [d] }
  | _ => none }
def FnExactFloatBitsWrongFalsely : Prop := fnExactFloatBitsRow.holds Try.pinned (OpenSpec.ofChange fnExactFloatBitsWrong)

/-- 'laws.FnExactFloatOf': WHATEVER THE INPUT: true; the input reads as it did. -/
def fnExactFloatOfSpec : ChangeSpec := { name := "fnExactFloatOf", fn := fun _ => fun
  | [d] => { results := [.lit (.bool true)], args := [d] }
  | _ => none }
def fnExactFloatOfRow : OpenClaim := { program := "ytjbocmkphnmfgaa", sum := "81849640bc57ad3b964aa4f5763af3acefaefceefdebc858c15662639058fc47", func := "loop.example/g00252/laws.FnExactFloatOf", spec := "fnExactFloatOf", inPlace := ["math.Float64frombits"], apart := false }
def FnExactFloatOfSaid : Prop := fnExactFloatOfRow.holds Try.pinned (OpenSpec.ofChange fnExactFloatOfSpec)

/-- ITS FALSE NEIGHBOUR: 'it returns false'. Refute it at one input. -/
def fnExactFloatOfWrong : ChangeSpec := { name := "fnExactFloatOf", fn := fun _ => fun
  | [d] => { results := [.lit (.bool false)], args := [d] }
  | _ => none }
def FnExactFloatOfWrongFalsely : Prop := fnExactFloatOfRow.holds Try.pinned (OpenSpec.ofChange fnExactFloatOfWrong)

/-- 'laws.FnExactFloatSum': WHATEVER THE INPUT: true; the input reads as it did. -/
def fnExactFloatSumSpec : ChangeSpec := { name := "fnExactFloatSum", fn := fun _ => fun
  | [d] => { results := [.lit (.bool true)], args := [d] }
  | _ => none }
def fnExactFloatSumRow : OpenClaim := { program := "ytjbocmkphnmfgaa", sum := "81849640bc57ad3b964aa4f5763af3acefaefceefdebc858c15662639058fc47", func := "loop.example/g00252/laws.FnExactFloatSum", spec := "fnExactFloatSum", inPlace := ["math.Float64frombits"], apart := false }
def FnExactFloatSumSaid : Prop := fnExactFloatSumRow.holds Try.pinned (OpenSpec.ofChange fnExactFloatSumSpec)

/-- ITS FALSE NEIGHBOUR: 'it returns false'. Refute it at one input. -/
def fnExactFloatSumWrong : ChangeSpec := { name := "fnExactFloatSum", fn := fun _ => fun
  | [d] => { results := [.lit (.bool false)], args := [d] }
  | _ => none }
def FnExactFloatSumWrongFalsely : Prop := fnExactFloatSumRow.holds Try.pinned (OpenSpec.ofChange fnExactFloatSumWrong)

/-- 'laws.FnExactFloatRank': WHATEVER THE INPUT: true; the input reads as it did. -/
def fnExactFloatRankSpec : ChangeSpec := { name := "fnExactFloatRank", fn := fun _ => fun
  | [d] => { results := [.lit (.bool true)], args := [d] }
  | _ => none }
def fnExactFloatRankRow : OpenClaim := { program := "ytjbocmkphnmfgaa", sum := "81849640bc57ad3b964aa4f5763af3acefaefceefdebc858c15662639058fc47", func := "loop.example/g00252/laws.FnExactFloatRank", spec := "fnExactFloatRank", inPlace := ["math.Float64bits"], apart := false }
def FnExactFloatRankSaid : Prop := fnExactFloatRankRow.holds Try.pinned (OpenSpec.ofChange fnExactFloatRankSpec)

/-- ITS FALSE NEIGHBOUR: 'it returns false'. Refute it at one input. -/
def fnExactFloatRankWrong : ChangeSpec := { name := "fnExactFloatRank", fn := fun _ => fun
  | [d] => { results := [.lit (.bool false)], args := [d] }
  | _ => none }
def FnExactFloatRankWrongFalsely : Prop := fnExactFloatRankRow.holds Try.pinned (OpenSpec.ofChange fnExactFloatRankWrong)

/-- 'laws.FnExactFloatCompare': WHATEVER THE INPUT: true; the input reads as it did. -/
def fnExactFloatCompareSpec : ChangeSpec := { name := "fnExactFloatCompare", fn := fun _ => fun
  | [d1, d2] => { results := [.lit (.bool true)], args := [d1, d2] }
  | _ => none }
def fnExactFloatCompareRow : OpenClaim := { program := "ytjbocmkphnmfgaa", sum := "81849640bc57ad3b964aa4f5763af3acefaefceefdebc858c15662639058fc47", func := "loop.example/g00252/laws.FnExactFloatCompare", spec := "fnExactFloatCompare", inPlace := ["math.Float64bits"], apart := false }
def FnExactFloatCompareSaid : Prop := fnExactFloatCompareRow.holds Try.pinned (OpenSpec.ofChange fnExactFloatCompareSpec)

/-- ITS FALSE NEIGHBOUR: 'it returns false'. Refute it at one input. -/
def fnExactFloatCompareWrong : ChangeSpec := { name := "fnExactFloatCompare", fn := fun _ => fun
  | [d1, d2] => { results := [.lit (.bool false)], args := [d1, d2] }
  | _ => none }
def FnExactFloatCompareWrongFalsely : Prop := fnExactFloatCompareRow.holds Try.pinned (OpenSpec.ofChange fnExactFloatCompareWrong)

/-- 'laws.FnExactFloatUnrank': WHATEVER THE INPUT: true; the input reads as it did. -/
def fnExactFloatUnrankSpec : ChangeSpec := { name := "fnExactFloatUnrank", fn := fun _ => fun
  | [d] => { results := [.lit (.bool true)], args := [d] }
  | _ => none }
def fnExactFloatUnrankRow : OpenClaim := { program := "ytjbocmkphnmfgaa", sum := "81849640bc57ad3b964aa4f5763af3acefaefceefdebc858c15662639058fc47", func := "loop.example/g00252/laws.FnExactFloatUnrank", spec := "fnExactFloatUnrank", inPlace := ["math.Float64frombits", "math.Float64bits"], apart := false }
def FnExactFloatUnrankSaid : Prop := fnExactFloatUnrankRow.holds Try.pinned (OpenSpec.ofChange fnExactFloatUnrankSpec)

/-- ITS FALSE NEIGHBOUR: 'it returns false'. Refute it at one input. -/
def fnExactFloatUnrankWrong : ChangeSpec := { name := "fnExactFloatUnrank", fn := fun _ => fun
  | [d] => { results := [.lit (.bool false)], args := [d] }
  | _ => none }
def FnExactFloatUnrankWrongFalsely : Prop := fnExactFloatUnrankRow.holds Try.pinned (OpenSpec.ofChange fnExactFloatUnrankWrong)

/-- 'laws.FnSums': WHATEVER THE INPUT: true; the input reads as it did. -/
def fnSumsSpec : ChangeSpec := { name := "fnSums", fn := fun _ => fun
  | [d] => { results := [.lit (.bool true)], args := [d] }
  | _ => none }
def fnSumsRow : OpenClaim := { program := "ytjbocmkphnmfgaa", sum := "81849640bc57ad3b964aa4f5763af3acefaefceefdebc858c15662639058fc47", func := "loop.example/g00252/laws.FnSums", spec := "fnSums", inPlace := ["math.Float64frombits", "math.Float64bits"], apart := false }
def FnSumsSaid : Prop := fnSumsRow.holds Try.pinned (OpenSpec.ofChange fnSumsSpec)

/-- ITS FALSE NEIGHBOUR: 'it returns false'. Refute it at one input. -/
def fnSumsWrong : ChangeSpec := { name := "fnSums", fn := fun _ => fun
  | [d] => { results := [.lit (.bool false)], args := [d] }
  | _ => none }
def FnSumsWrongFalsely : Prop := fnSumsRow.holds Try.pinned (OpenSpec.ofChange fnSumsWrong)

/-- 'laws.FnFloats': WHATEVER THE INPUT: true; the input reads as it did. -/
def fnFloatsSpec : ChangeSpec := { name := "fnFloats", fn := fun _ => fun
  | [d] => { results := [.lit (.bool true)], args := [d] }
  | _ => none }
def fnFloatsRow : OpenClaim := { program := "ytjbocmkphnmfgaa", sum := "81849640bc57ad3b964aa4f5763af3acefaefceefdebc858c15662639058fc47", func := "loop.example/g00252/laws.FnFloats", spec := "fnFloats", inPlace := ["math.Float64bits", "math.Float64frombits"], apart := false }
def FnFloatsSaid : Prop := fnFloatsRow.holds Try.pinned (OpenSpec.ofChange fnFloatsSpec)

/-- ITS FALSE NEIGHBOUR: 'it returns false'. Refute it at one input. -/
def fnFloatsWrong : ChangeSpec := { name := "fnFloats", fn := fun _ => fun
  | [d] => { results := [.lit (.bool false)], args := [d] }
  | _ => none }
def FnFloatsWrongFalsely : Prop := fnFloatsRow.holds Try.pinned (OpenSpec.ofChange fnFloatsWrong)

/- THE SECOND FORM. 'bulk': how many values and letters a reading holds, each counted each time it is reached (what is shared counts as often as it is met; a slice's spare places count too). A statement '..UptoSaid' is the law's where the arguments, and the package variables that the reading takes, are together of bulk at most 1048576: NARROWER than '..Said'. Prove '..Said' where nothing that the law and all that it calls make is longer than what came in: it says more and counts as full. Else prove '..UptoSaid'. A law counts once. -/
mutual
def uptoBulk {H : Type} : DataW H → Nat
  | .lit (.string bytes) => bytes.length + 1
  | .lit _ => 1
  | .nil => 1
  | .ptr d => uptoBulk d + 1
  | .slice elems spare => uptoBulkAll elems + uptoBulkAll spare + 1
  | .agg parts => uptoBulkAll parts + 1
  | .iface _ d => uptoBulk d + 1
  | .map entries => uptoBulkEntries entries + 1
  | .held _ => 1
def uptoBulkAll {H : Type} : List (DataW H) → Nat
  | [] => 0
  | d :: r => uptoBulk d + uptoBulkAll r
def uptoBulkEntries {H : Type} : List (Lit × DataW H) → Nat
  | [] => 0
  | x :: r => uptoBulkEntry x + uptoBulkEntries r
def uptoBulkEntry {H : Type} : Lit × DataW H → Nat
  | (.string bytes, d) => bytes.length + uptoBulk d + 1
  | (_, d) => uptoBulk d + 1
 end
def uptoSmall : (H : Type) → List (DataW H) → Bool := fun _ ds => decide (uptoBulkAll ds ≤ 1048576)
def OpenSpec.upto (s : _root_.Go.ChangeSpec) : _root_.Go.OpenSpec := { _root_.Go.OpenSpec.ofChange s with cond := some uptoSmall }

/-- 'laws.FnExactFloatBits', WHERE WHAT IT READS IS OF BULK AT MOST 1048576: true; the input reads as it did. -/
def fnExactFloatBitsUptoRow : OpenClaim := { program := "ytjbocmkphnmfgaa", sum := "81849640bc57ad3b964aa4f5763af3acefaefceefdebc858c15662639058fc47", func := "loop.example/g00252/laws.FnExactFloatBits", spec := "fnExactFloatBits", inPlace := ["math.Float64bits"], apart := false, narrowed := true }
def FnExactFloatBitsUptoSaid : Prop := fnExactFloatBitsUptoRow.holds Try.pinned (OpenSpec.upto fnExactFloatBitsSpec)

/-- 'laws.FnExactFloatOf', WHERE WHAT IT READS IS OF BULK AT MOST 1048576: true; the input reads as it did. -/
def fnExactFloatOfUptoRow : OpenClaim := { program := "ytjbocmkphnmfgaa", sum := "81849640bc57ad3b964aa4f5763af3acefaefceefdebc858c15662639058fc47", func := "loop.example/g00252/laws.FnExactFloatOf", spec := "fnExactFloatOf", inPlace := ["math.Float64frombits"], apart := false, narrowed := true }
def FnExactFloatOfUptoSaid : Prop := fnExactFloatOfUptoRow.holds Try.pinned (OpenSpec.upto fnExactFloatOfSpec)

/-- 'laws.FnExactFloatSum', WHERE WHAT IT READS IS OF BULK AT MOST 1048576: true; the input reads as it did. -/
def fnExactFloatSumUptoRow : OpenClaim := { program := "ytjbocmkphnmfgaa", sum := "81849640bc57ad3b964aa4f5763af3acefaefceefdebc858c15662639058fc47", func := "loop.example/g00252/laws.FnExactFloatSum", spec := "fnExactFloatSum", inPlace := ["math.Float64frombits"], apart := false, narrowed := true }
def FnExactFloatSumUptoSaid : Prop := fnExactFloatSumUptoRow.holds Try.pinned (OpenSpec.upto fnExactFloatSumSpec)

/-- 'laws.FnExactFloatRank', WHERE WHAT IT READS IS OF BULK AT MOST 1048576: true; the input reads as it did. -/
def fnExactFloatRankUptoRow : OpenClaim := { program := "ytjbocmkphnmfgaa", sum := "81849640bc57ad3b964aa4f5763af3acefaefceefdebc858c15662639058fc47", func := "loop.example/g00252/laws.FnExactFloatRank", spec := "fnExactFloatRank", inPlace := ["math.Float64bits"], apart := false, narrowed := true }
def FnExactFloatRankUptoSaid : Prop := fnExactFloatRankUptoRow.holds Try.pinned (OpenSpec.upto fnExactFloatRankSpec)

/-- 'laws.FnExactFloatCompare', WHERE WHAT IT READS IS OF BULK AT MOST 1048576: true; the input reads as it did. -/
def fnExactFloatCompareUptoRow : OpenClaim := { program := "ytjbocmkphnmfgaa", sum := "81849640bc57ad3b964aa4f5763af3acefaefceefdebc858c15662639058fc47", func := "loop.example/g00252/laws.FnExactFloatCompare", spec := "fnExactFloatCompare", inPlace := ["math.Float64bits"], apart := false, narrowed := true }
def FnExactFloatCompareUptoSaid : Prop := fnExactFloatCompareUptoRow.holds Try.pinned (OpenSpec.upto fnExactFloatCompareSpec)

/-- 'laws.FnExactFloatUnrank', WHERE WHAT IT READS IS OF BULK AT MOST 1048576: true; the input reads as it did. -/
def fnExactFloatUnrankUptoRow : OpenClaim := { program := "ytjbocmkphnmfgaa", sum := "81849640bc57ad3b964aa4f5763af3acefaefceefdebc858c15662639058fc47", func := "loop.example/g00252/laws.FnExactFloatUnrank", spec := "fnExactFloatUnrank", inPlace := ["math.Float64frombits", "math.Float64bits"], apart := false, narrowed := true }
def FnExactFloatUnrankUptoSaid : Prop := fnExactFloatUnrankUptoRow.holds Try.pinned (OpenSpec.upto fnExactFloatUnrankSpec)

/-- 'laws.FnSums', WHERE WHAT IT READS IS OF BULK AT MOST 1048576: true; the input reads as it did. -/
def fnSumsUptoRow : OpenClaim := { program := "ytjbocmkphnmfgaa", sum := "81849640bc57ad3b964aa4f5763af3acefaefceefdebc858c15662639058fc47", func := "loop.example/g00252/laws.FnSums", spec := "fnSums", inPlace := ["math.Float64frombits", "math.Float64bits"], apart := false, narrowed := true }
def FnSumsUptoSaid : Prop := fnSumsUptoRow.holds Try.pinned (OpenSpec.upto fnSumsSpec)

/-- 'laws.FnFloats', WHERE WHAT IT READS IS OF BULK AT MOST 1048576: true; the input reads as it did. -/
def fnFloatsUptoRow : OpenClaim := { program := "ytjbocmkphnmfgaa", sum := "81849640bc57ad3b964aa4f5763af3acefaefceefdebc858c15662639058fc47", func := "loop.example/g00252/laws.FnFloats", spec := "fnFloats", inPlace := ["math.Float64bits", "math.Float64frombits"], apart := false, narrowed := true }
def FnFloatsUptoSaid : Prop := fnFloatsUptoRow.holds Try.pinned (OpenSpec.upto fnFloatsSpec)

end Rows
end Go.Proofs.Ytjbocmkphnmfgaa
