import Derived.Test.YtjjkhlphdbmdfaaProg
import Derived.Below
import Derived.Deep.Draws
import Derived.Deep.AppendLies
import Derived.Maps.AppendAt
import Derived.OwnWalk
import Derived.Laws.BytesArg
import Derived.Laws.MakeOwn
import Derived.Laws.OwnMore
import Derived.Deep.OwnRows
import Derived.Tactics
import Derived.Lib.ConvBytes
import Derived.Laws.Slices
import Derived.WalkKit
import Derived.KernelRfl
import Derived.RowKit3
import Derived.Deep.LoopGhost
import Derived.Deep.QuietTactic
import Derived.BigQuiet
import Derived.WideLaws
import Derived.Deep.DeepCutAuto
import Derived.Deep.CutBlock
import Derived.Deep.RegionHeld3
import Derived.Laws.Rows
import Derived.Lib.AppendStr
import Derived.ArgAppend
import Derived.Laws.IdiomCopy
import Derived.OrdersHeld
import Derived.Laws.BitsLemmas
import Derived.RowKit
import Derived.WalkSpells
import Derived.WalkLawsBesides
import Derived.Lib.BytesEntry
import Derived.Test.YtjjkhlphdbmdfaaZFnKeys6
import Derived.Test.YtjjkhlphdbmdfaaZFnKeys14
import Derived.Test.YtjjkhlphdbmdfaaZFnKeys15
import Derived.Test.YtjjkhlphdbmdfaaZFnKeys16
import Derived.Test.YtjjkhlphdbmdfaaZFnKeys17
import Derived.Test.YtjjkhlphdbmdfaaZFnKeys18
import Derived.Test.YtjjkhlphdbmdfaaZFnKeys19
import Derived.Test.YtjjkhlphdbmdfaaZFnKeys0
import Derived.Test.YtjjkhlphdbmdfaaZFnKeys1
import Derived.Test.YtjjkhlphdbmdfaaZFnKeys20
import Derived.Test.YtjjkhlphdbmdfaaZFnKeys21
import Derived.Test.YtjjkhlphdbmdfaaZFnKeys11
import Derived.Test.YtjjkhlphdbmdfaaZFnKeys2
import Derived.Test.YtjjkhlphdbmdfaaZFnKeys3
import Derived.Test.YtjjkhlphdbmdfaaZFnKeys9
import Derived.Test.YtjjkhlphdbmdfaaZFnKeys4
import Derived.Test.YtjjkhlphdbmdfaaZFnKeys7
import Derived.Test.YtjjkhlphdbmdfaaZFnKeys8
import Derived.Test.YtjjkhlphdbmdfaaZFnKeys10
import Derived.Test.YtjjkhlphdbmdfaaZFnKeys22
import Derived.Test.YtjjkhlphdbmdfaaZFnKeys23
import Derived.Test.YtjjkhlphdbmdfaaZFnKeys24
import Derived.Test.YtjjkhlphdbmdfaaZFnKeys25
import Derived.Test.YtjjkhlphdbmdfaaZFnKeys26
import Derived.Test.YtjjkhlphdbmdfaaZFnKeys27
import Derived.Test.YtjjkhlphdbmdfaaZFnKeys28
import Derived.Test.YtjjkhlphdbmdfaaZFnKeys12
import Derived.Test.YtjjkhlphdbmdfaaZFnKeys13
namespace Go.Proofs.Ytjjkhlphdbmdfaa.PFnKeys
open Go.RowKit Go.Proofs.YtjjkhlphdbmdfaaW.PrintWords Go.Proofs.YtjjkhlphdbmdfaaW.PrintLast Go.Proofs.YtjjkhlphdbmdfaaW.PrintMore
attribute [local go_sem] max2_int min2_int max_two min_two max_three min_three max_four min_four   -- for this text's walks alone
attribute [local go_sem high] fl_eql fl_neq fl_lss fl_leq fl_gtr fl_geq fl_add fl_sub fl_mul fl_quo fl_neg fl_ofInt fl_toInt fl_store sub_sign ext_bits ext_from fl_nan_quo fl_nan_add fl_nan_mul fl_nan_sub
open Go.Proofs.YtjjkhlphdbmdfaaW.PrintWords renaming below_alloc → h1, pw_below_drewN → h2, below_drew1 → h3, below_set → h4, blk_drewN → b1, blk_drew → b2, blk_alloc → b3
set_option linter.unusedVariables false
set_option linter.unusedSimpArgs false
def errW : Option Int → Value
  | none => .nilIface
  | some c => .iface 0 (.int .i64 c)
theorem errW_none : errW none = .nilIface := rfl
theorem errW_some (c : Int) : errW (some c) = .iface 0 (.int .i64 c) := rfl
theorem info5 : (Try.prog.info? 5).map (fun i => (i.zero, i.size, i.bytes)) = some (some (.int .u8 0), 1, 1) := by kernel_rfl
end Go.Proofs.Ytjjkhlphdbmdfaa.PFnKeys
