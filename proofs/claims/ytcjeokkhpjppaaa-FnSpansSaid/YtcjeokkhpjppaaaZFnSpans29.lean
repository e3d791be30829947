import Derived.Test.YtcjeokkhpjppaaaProg
import Derived.Below
import Derived.Deep.Draws
import Derived.Deep.AppendLies
import Derived.Maps.AppendAt
import Derived.OwnWalk
import Derived.Laws.BytesArg
import Derived.Laws.MakeOwn
import Derived.Laws.OwnMore
import Derived.Deep.OwnRows
import Derived.Tactics
import Derived.Lib.ConvBytes
import Derived.Laws.Slices
import Derived.WalkKit
import Derived.KernelRfl
import Derived.RowKit3
import Derived.Deep.LoopGhost
import Derived.Deep.QuietTactic
import Derived.BigQuiet
import Derived.WideLaws
import Derived.Deep.DeepCutAuto
import Derived.Deep.CutBlock
import Derived.Deep.RegionHeld3
import Derived.Laws.Rows
import Derived.Lib.AppendStr
import Derived.ArgAppend
import Derived.Laws.IdiomCopy
import Derived.OrdersHeld
import Derived.Laws.BitsLemmas
import Derived.RowKit
import Derived.WalkSpells
import Derived.WalkLawsBesides
import Derived.Lib.BytesEntry
import Derived.Test.YtcjeokkhpjppaaaZFnSpans6
import Derived.Test.YtcjeokkhpjppaaaZFnSpans14
import Derived.Test.YtcjeokkhpjppaaaZFnSpans15
import Derived.Test.YtcjeokkhpjppaaaZFnSpans16
import Derived.Test.YtcjeokkhpjppaaaZFnSpans17
import Derived.Test.YtcjeokkhpjppaaaZFnSpans18
import Derived.Test.YtcjeokkhpjppaaaZFnSpans19
import Derived.Test.YtcjeokkhpjppaaaZFnSpans0
import Derived.Test.YtcjeokkhpjppaaaZFnSpans1
import Derived.Test.YtcjeokkhpjppaaaZFnSpans20
import Derived.Test.YtcjeokkhpjppaaaZFnSpans21
import Derived.Test.YtcjeokkhpjppaaaZFnSpans11
import Derived.Test.YtcjeokkhpjppaaaZFnSpans2
import Derived.Test.YtcjeokkhpjppaaaZFnSpans3
import Derived.Test.YtcjeokkhpjppaaaZFnSpans9
import Derived.Test.YtcjeokkhpjppaaaZFnSpans4
import Derived.Test.YtcjeokkhpjppaaaZFnSpans7
import Derived.Test.YtcjeokkhpjppaaaZFnSpans8
import Derived.Test.YtcjeokkhpjppaaaZFnSpans10
import Derived.Test.YtcjeokkhpjppaaaZFnSpans22
import Derived.Test.YtcjeokkhpjppaaaZFnSpans23
import Derived.Test.YtcjeokkhpjppaaaZFnSpans24
import Derived.Test.YtcjeokkhpjppaaaZFnSpans25
import Derived.Test.YtcjeokkhpjppaaaZFnSpans26
import Derived.Test.YtcjeokkhpjppaaaZFnSpans27
import Derived.Test.YtcjeokkhpjppaaaZFnSpans28
import Derived.Test.YtcjeokkhpjppaaaZFnSpans12
import Derived.Test.YtcjeokkhpjppaaaZFnSpans13
namespace Go.Proofs.Ytcjeokkhpjppaaa.PFnSpans
open Go.RowKit Go.Proofs.YtcjeokkhpjppaaaW.PrintWords Go.Proofs.YtcjeokkhpjppaaaW.PrintLast Go.Proofs.YtcjeokkhpjppaaaW.PrintMore
attribute [local go_sem] max2_int min2_int max_two min_two max_three min_three max_four min_four   -- for this text's walks alone
attribute [local go_sem high] fl_eql fl_neq fl_lss fl_leq fl_gtr fl_geq fl_add fl_sub fl_mul fl_quo fl_neg fl_ofInt fl_toInt fl_store sub_sign ext_bits fl_nan_quo fl_nan_add fl_nan_mul fl_nan_sub
open Go.Proofs.YtcjeokkhpjppaaaW.PrintWords renaming below_alloc → h1, pw_below_drewN → h2, below_drew1 → h3, below_set → h4, blk_drewN → b1, blk_drew → b2, blk_alloc → b3
set_option linter.unusedVariables false
set_option linter.unusedSimpArgs false
def errW : Option Int → Value
  | none => .nilIface
  | some c => .iface 0 (.int .i64 c)
theorem errW_none : errW none = .nilIface := rfl
theorem errW_some (c : Int) : errW (some c) = .iface 0 (.int .i64 c) := rfl
theorem info5 : (Try.prog.info? 5).map (fun i => (i.zero, i.size, i.bytes)) = some (some (.int .u8 0), 1, 1) := by kernel_rfl
end Go.Proofs.Ytcjeokkhpjppaaa.PFnSpans
