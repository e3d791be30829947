/-
  No cell of these rows narrows 'for every input' (looked for: loops, veiled, ifaces, maps, wideKeys, modest, calm, conditions, laid).
  DERIVED. THE GIVEN ROWS OF THIS SEAT. 8 by the template 'for every input the law returns true; each argument reads behind the call as it read before'; 0 by the template 'total and deterministic' (their statements: YtokpniagnbaflaaTotals.lean).
  GIVEN WITH THE SEED: the statements are not yours to turn. If you find one false, say at which input.
  Laid BY PROGRAM, IN A SANDBOX (cutbox-rows.mjs): the forced cells as the released guide's own fill.sh prints them over the translation 134dc4be50163aaa… (all of the seat's roots in one cut). By AI agents, Wed Nov 11 2026. No macro, syntax, notation, axiom, sorry.
-/
import Derived.Test.YtokpniagnbaflaaChecked
import GoSem.Claim
import GoSem.ClaimJoined
import GoSem.ClaimMapViews
import Derived.JoinedTies
import Derived.KernelRfl
namespace Go.Proofs.Ytokpniagnbaflaa
/- THE CELL 'sum', in the pinned program and in every row, IS THE sha256 OF THE DUMP (.gsa) THAT YtokpniagnbaflaaProg.lean LOADS. Nothing in Lean hashes anything: it is a label: what it is worth is what the hold of that sum in a sandbox is worth. -/
noncomputable def Try.pinned : Pinned := { name := "ytokpniagnbaflaa", sum := "134dc4be50163aaa0dd62cf14e7b5450aa879c60879892c11cd6eee3fb696267", checked := Try.checked }
namespace Rows
def none {H : Type} : Left H := { results := [], args := [] }

/-- 'laws.FnExactPageUsed': WHATEVER THE INPUT: true; the input reads as it did. -/
def fnExactPageUsedSpec : ChangeSpec := { name := "fnExactPageUsed", fn := fun _ => fun
  | [d] => { results := [.lit (.bool true)], args := [d] }
  | _ => none }
def fnExactPageUsedRow : OpenClaim := { program := "ytokpniagnbaflaa", sum := "134dc4be50163aaa0dd62cf14e7b5450aa879c60879892c11cd6eee3fb696267", func := "loop.example/g00252/laws.FnExactPageUsed", spec := "fnExactPageUsed", apart := false }
def FnExactPageUsedSaid : Prop := fnExactPageUsedRow.holds Try.pinned (OpenSpec.ofChange fnExactPageUsedSpec)

/-- ITS FALSE NEIGHBOUR: 'it returns false'. Refute it at one input. -/
def fnExactPageUsedWrong : ChangeSpec := { name := "fnExactPageUsed", fn := fun _ => fun
  | [d] => { results := [.lit (.bool false)], args := [d] }
  | _ => none }
def FnExactPageUsedWrongFalsely : Prop := fnExactPageUsedRow.holds Try.pinned (OpenSpec.ofChange fnExactPageUsedWrong)

/-- 'laws.FnExactPagePlace': WHATEVER THE INPUT: true; the input reads as it did. -/
def fnExactPagePlaceSpec : ChangeSpec := { name := "fnExactPagePlace", fn := fun _ => fun
  | [d1, d2] => { results := [.lit (.bool true)], args := [d1, d2] }
  | _ => none }
def fnExactPagePlaceRow : OpenClaim := { program := "ytokpniagnbaflaa", sum := "134dc4be50163aaa0dd62cf14e7b5450aa879c60879892c11cd6eee3fb696267", func := "loop.example/g00252/laws.FnExactPagePlace", spec := "fnExactPagePlace", unfollowed := true, recurses := true, apart := false }
def FnExactPagePlaceSaid : Prop := fnExactPagePlaceRow.holds Try.pinned (OpenSpec.ofChange fnExactPagePlaceSpec)

/-- ITS FALSE NEIGHBOUR: 'it returns false'. Refute it at one input. -/
def fnExactPagePlaceWrong : ChangeSpec := { name := "fnExactPagePlace", fn := fun _ => fun
  | [d1, d2] => { results := [.lit (.bool false)], args := [d1, d2] }
  | _ => none }
def FnExactPagePlaceWrongFalsely : Prop := fnExactPagePlaceRow.holds Try.pinned (OpenSpec.ofChange fnExactPagePlaceWrong)

/-- 'laws.FnExactPageClear': WHATEVER THE INPUT: true; the input reads as it did. -/
def fnExactPageClearSpec : ChangeSpec := { name := "fnExactPageClear", fn := fun _ => fun
  | [d1, d2, d3] => { results := [.lit (.bool true)], args := [d1, d2, d3] }
  | _ => none }
def fnExactPageClearRow : OpenClaim := { program := "ytokpniagnbaflaa", sum := "134dc4be50163aaa0dd62cf14e7b5450aa879c60879892c11cd6eee3fb696267", func := "loop.example/g00252/laws.FnExactPageClear", spec := "fnExactPageClear", apart := false }
def FnExactPageClearSaid : Prop := fnExactPageClearRow.holds Try.pinned (OpenSpec.ofChange fnExactPageClearSpec)

/-- ITS FALSE NEIGHBOUR: 'it returns false'. Refute it at one input. -/
def fnExactPageClearWrong : ChangeSpec := { name := "fnExactPageClear", fn := fun _ => fun
  | [d1, d2, d3] => { results := [.lit (.bool false)], args := [d1, d2, d3] }
  | _ => none }
def FnExactPageClearWrongFalsely : Prop := fnExactPageClearRow.holds Try.pinned (OpenSpec.ofChange fnExactPageClearWrong)

/-- 'laws.FnExactPagePut': WHATEVER THE INPUT: true; the input reads as it did. -/
def fnExactPagePutSpec : ChangeSpec := { name := "fnExactPagePut", fn := fun _ => fun
  | [d1, d2, d3, d4] => { results := [.lit (.bool true)], args := [d1, d2, d3, d4] }
  | _ => none }
def fnExactPagePutRow : OpenClaim := { program := "ytokpniagnbaflaa", sum := "134dc4be50163aaa0dd62cf14e7b5450aa879c60879892c11cd6eee3fb696267", func := "loop.example/g00252/laws.FnExactPagePut", spec := "fnExactPagePut", apart := false }
def FnExactPagePutSaid : Prop := fnExactPagePutRow.holds Try.pinned (OpenSpec.ofChange fnExactPagePutSpec)

/-- ITS FALSE NEIGHBOUR: 'it returns false'. Refute it at one input. -/
def fnExactPagePutWrong : ChangeSpec := { name := "fnExactPagePut", fn := fun _ => fun
  | [d1, d2, d3, d4] => { results := [.lit (.bool false)], args := [d1, d2, d3, d4] }
  | _ => none }
def FnExactPagePutWrongFalsely : Prop := fnExactPagePutRow.holds Try.pinned (OpenSpec.ofChange fnExactPagePutWrong)

/-- 'laws.FnExactPageBytes': WHATEVER THE INPUT: true; the input reads as it did. -/
def fnExactPageBytesSpec : ChangeSpec := { name := "fnExactPageBytes", fn := fun _ => fun
  | [d] => { results := [.lit (.bool true)], args := [d] }
  | _ => none }
def fnExactPageBytesRow : OpenClaim := { program := "ytokpniagnbaflaa", sum := "134dc4be50163aaa0dd62cf14e7b5450aa879c60879892c11cd6eee3fb696267", func := "loop.example/g00252/laws.FnExactPageBytes", spec := "fnExactPageBytes", unfollowed := true, recurses := true, apart := false }
def FnExactPageBytesSaid : Prop := fnExactPageBytesRow.holds Try.pinned (OpenSpec.ofChange fnExactPageBytesSpec)

/-- ITS FALSE NEIGHBOUR: 'it returns false'. Refute it at one input. -/
def fnExactPageBytesWrong : ChangeSpec := { name := "fnExactPageBytes", fn := fun _ => fun
  | [d] => { results := [.lit (.bool false)], args := [d] }
  | _ => none }
def FnExactPageBytesWrongFalsely : Prop := fnExactPageBytesRow.holds Try.pinned (OpenSpec.ofChange fnExactPageBytesWrong)

/-- 'laws.FnExactPageRead': WHATEVER THE INPUT: true; the input reads as it did. -/
def fnExactPageReadSpec : ChangeSpec := { name := "fnExactPageRead", fn := fun _ => fun
  | [d] => { results := [.lit (.bool true)], args := [d] }
  | _ => none }
def fnExactPageReadRow : OpenClaim := { program := "ytokpniagnbaflaa", sum := "134dc4be50163aaa0dd62cf14e7b5450aa879c60879892c11cd6eee3fb696267", func := "loop.example/g00252/laws.FnExactPageRead", spec := "fnExactPageRead", unfollowed := true, recurses := true, apart := false }
def FnExactPageReadSaid : Prop := fnExactPageReadRow.holds Try.pinned (OpenSpec.ofChange fnExactPageReadSpec)

/-- ITS FALSE NEIGHBOUR: 'it returns false'. Refute it at one input. -/
def fnExactPageReadWrong : ChangeSpec := { name := "fnExactPageRead", fn := fun _ => fun
  | [d] => { results := [.lit (.bool false)], args := [d] }
  | _ => none }
def FnExactPageReadWrongFalsely : Prop := fnExactPageReadRow.holds Try.pinned (OpenSpec.ofChange fnExactPageReadWrong)

/-- 'laws.FnPages': WHATEVER THE INPUT: true; the input reads as it did. -/
def fnPagesSpec : ChangeSpec := { name := "fnPages", fn := fun _ => fun
  | [d] => { results := [.lit (.bool true)], args := [d] }
  | _ => none }
def fnPagesRow : OpenClaim := { program := "ytokpniagnbaflaa", sum := "134dc4be50163aaa0dd62cf14e7b5450aa879c60879892c11cd6eee3fb696267", func := "loop.example/g00252/laws.FnPages", spec := "fnPages", unfollowed := true, recurses := true, apart := false }
def FnPagesSaid : Prop := fnPagesRow.holds Try.pinned (OpenSpec.ofChange fnPagesSpec)

/-- ITS FALSE NEIGHBOUR: 'it returns false'. Refute it at one input. -/
def fnPagesWrong : ChangeSpec := { name := "fnPages", fn := fun _ => fun
  | [d] => { results := [.lit (.bool false)], args := [d] }
  | _ => none }
def FnPagesWrongFalsely : Prop := fnPagesRow.holds Try.pinned (OpenSpec.ofChange fnPagesWrong)

/-- 'laws.FnPlaces': WHATEVER THE INPUT: true; the input reads as it did. -/
def fnPlacesSpec : ChangeSpec := { name := "fnPlaces", fn := fun _ => fun
  | [d] => { results := [.lit (.bool true)], args := [d] }
  | _ => none }
def fnPlacesRow : OpenClaim := { program := "ytokpniagnbaflaa", sum := "134dc4be50163aaa0dd62cf14e7b5450aa879c60879892c11cd6eee3fb696267", func := "loop.example/g00252/laws.FnPlaces", spec := "fnPlaces", unfollowed := true, recurses := true, apart := false }
def FnPlacesSaid : Prop := fnPlacesRow.holds Try.pinned (OpenSpec.ofChange fnPlacesSpec)

/-- ITS FALSE NEIGHBOUR: 'it returns false'. Refute it at one input. -/
def fnPlacesWrong : ChangeSpec := { name := "fnPlaces", fn := fun _ => fun
  | [d] => { results := [.lit (.bool false)], args := [d] }
  | _ => none }
def FnPlacesWrongFalsely : Prop := fnPlacesRow.holds Try.pinned (OpenSpec.ofChange fnPlacesWrong)

/- THE SECOND FORM. 'bulk': how many values and letters a reading holds, each counted each time it is reached (what is shared counts as often as it is met; a slice's spare places count too). A statement '..UptoSaid' is the law's where the arguments, and the package variables that the reading takes, are together of bulk at most 1048576: NARROWER than '..Said'. Prove '..Said' where nothing that the law and all that it calls make is longer than what came in: it says more and counts as full. Else prove '..UptoSaid'. A law counts once. -/
mutual
def uptoBulk {H : Type} : DataW H → Nat
  | .lit (.string bytes) => bytes.length + 1
  | .lit _ => 1
  | .nil => 1
  | .ptr d => uptoBulk d + 1
  | .slice elems spare => uptoBulkAll elems + uptoBulkAll spare + 1
  | .agg parts => uptoBulkAll parts + 1
  | .iface _ d => uptoBulk d + 1
  | .map entries => uptoBulkEntries entries + 1
  | .held _ => 1
def uptoBulkAll {H : Type} : List (DataW H) → Nat
  | [] => 0
  | d :: r => uptoBulk d + uptoBulkAll r
def uptoBulkEntries {H : Type} : List (Lit × DataW H) → Nat
  | [] => 0
  | x :: r => uptoBulkEntry x + uptoBulkEntries r
def uptoBulkEntry {H : Type} : Lit × DataW H → Nat
  | (.string bytes, d) => bytes.length + uptoBulk d + 1
  | (_, d) => uptoBulk d + 1
 end
def uptoSmall : (H : Type) → List (DataW H) → Bool := fun _ ds => decide (uptoBulkAll ds ≤ 1048576)
def OpenSpec.upto (s : _root_.Go.ChangeSpec) : _root_.Go.OpenSpec := { _root_.Go.OpenSpec.ofChange s with cond := some uptoSmall }

/-- 'laws.FnExactPageUsed', WHERE WHAT IT READS IS OF BULK AT MOST 1048576: true; the input reads as it did. -/
def fnExactPageUsedUptoRow : OpenClaim := { program := "ytokpniagnbaflaa", sum := "134dc4be50163aaa0dd62cf14e7b5450aa879c60879892c11cd6eee3fb696267", func := "loop.example/g00252/laws.FnExactPageUsed", spec := "fnExactPageUsed", apart := false, narrowed := true }
def FnExactPageUsedUptoSaid : Prop := fnExactPageUsedUptoRow.holds Try.pinned (OpenSpec.upto fnExactPageUsedSpec)

/-- 'laws.FnExactPagePlace', WHERE WHAT IT READS IS OF BULK AT MOST 1048576: true; the input reads as it did. -/
def fnExactPagePlaceUptoRow : OpenClaim := { program := "ytokpniagnbaflaa", sum := "134dc4be50163aaa0dd62cf14e7b5450aa879c60879892c11cd6eee3fb696267", func := "loop.example/g00252/laws.FnExactPagePlace", spec := "fnExactPagePlace", unfollowed := true, recurses := true, apart := false, narrowed := true }
def FnExactPagePlaceUptoSaid : Prop := fnExactPagePlaceUptoRow.holds Try.pinned (OpenSpec.upto fnExactPagePlaceSpec)

/-- 'laws.FnExactPageClear', WHERE WHAT IT READS IS OF BULK AT MOST 1048576: true; the input reads as it did. -/
def fnExactPageClearUptoRow : OpenClaim := { program := "ytokpniagnbaflaa", sum := "134dc4be50163aaa0dd62cf14e7b5450aa879c60879892c11cd6eee3fb696267", func := "loop.example/g00252/laws.FnExactPageClear", spec := "fnExactPageClear", apart := false, narrowed := true }
def FnExactPageClearUptoSaid : Prop := fnExactPageClearUptoRow.holds Try.pinned (OpenSpec.upto fnExactPageClearSpec)

/-- 'laws.FnExactPagePut', WHERE WHAT IT READS IS OF BULK AT MOST 1048576: true; the input reads as it did. -/
def fnExactPagePutUptoRow : OpenClaim := { program := "ytokpniagnbaflaa", sum := "134dc4be50163aaa0dd62cf14e7b5450aa879c60879892c11cd6eee3fb696267", func := "loop.example/g00252/laws.FnExactPagePut", spec := "fnExactPagePut", apart := false, narrowed := true }
def FnExactPagePutUptoSaid : Prop := fnExactPagePutUptoRow.holds Try.pinned (OpenSpec.upto fnExactPagePutSpec)

/-- 'laws.FnExactPageBytes', WHERE WHAT IT READS IS OF BULK AT MOST 1048576: true; the input reads as it did. -/
def fnExactPageBytesUptoRow : OpenClaim := { program := "ytokpniagnbaflaa", sum := "134dc4be50163aaa0dd62cf14e7b5450aa879c60879892c11cd6eee3fb696267", func := "loop.example/g00252/laws.FnExactPageBytes", spec := "fnExactPageBytes", unfollowed := true, recurses := true, apart := false, narrowed := true }
def FnExactPageBytesUptoSaid : Prop := fnExactPageBytesUptoRow.holds Try.pinned (OpenSpec.upto fnExactPageBytesSpec)

/-- 'laws.FnExactPageRead', WHERE WHAT IT READS IS OF BULK AT MOST 1048576: true; the input reads as it did. -/
def fnExactPageReadUptoRow : OpenClaim := { program := "ytokpniagnbaflaa", sum := "134dc4be50163aaa0dd62cf14e7b5450aa879c60879892c11cd6eee3fb696267", func := "loop.example/g00252/laws.FnExactPageRead", spec := "fnExactPageRead", unfollowed := true, recurses := true, apart := false, narrowed := true }
def FnExactPageReadUptoSaid : Prop := fnExactPageReadUptoRow.holds Try.pinned (OpenSpec.upto fnExactPageReadSpec)

/-- 'laws.FnPages', WHERE WHAT IT READS IS OF BULK AT MOST 1048576: true; the input reads as it did. -/
def fnPagesUptoRow : OpenClaim := { program := "ytokpniagnbaflaa", sum := "134dc4be50163aaa0dd62cf14e7b5450aa879c60879892c11cd6eee3fb696267", func := "loop.example/g00252/laws.FnPages", spec := "fnPages", unfollowed := true, recurses := true, apart := false, narrowed := true }
def FnPagesUptoSaid : Prop := fnPagesUptoRow.holds Try.pinned (OpenSpec.upto fnPagesSpec)

/-- 'laws.FnPlaces', WHERE WHAT IT READS IS OF BULK AT MOST 1048576: true; the input reads as it did. -/
def fnPlacesUptoRow : OpenClaim := { program := "ytokpniagnbaflaa", sum := "134dc4be50163aaa0dd62cf14e7b5450aa879c60879892c11cd6eee3fb696267", func := "loop.example/g00252/laws.FnPlaces", spec := "fnPlaces", unfollowed := true, recurses := true, apart := false, narrowed := true }
def FnPlacesUptoSaid : Prop := fnPlacesUptoRow.holds Try.pinned (OpenSpec.upto fnPlacesSpec)

end Rows
end Go.Proofs.Ytokpniagnbaflaa
