-- By this session's own program (wip/xprint.py), over the kit's print.
import Derived.Test.YtjjkhlphdbmdfaaProg
import Derived.Below
import Derived.Deep.Draws
import Derived.Deep.AppendLies
import Derived.Maps.AppendAt
import Derived.OwnWalk
import Derived.Laws.BytesArg
import Derived.Laws.MakeOwn
import Derived.Laws.OwnMore
import Derived.Deep.OwnRows
import Derived.Tactics
import Derived.Lib.ConvBytes
import Derived.Laws.Slices
import Derived.WalkKit
import Derived.KernelRfl
import Derived.RowKit3
import Derived.Deep.LoopGhost
import Derived.Deep.QuietTactic
import Derived.BigQuiet
import Derived.WideLaws
import Derived.Deep.DeepCutAuto
import Derived.Deep.CutBlock
import Derived.Deep.RegionHeld3
import Derived.Laws.Rows
import Derived.Lib.AppendStr
import Derived.ArgAppend
import Derived.Laws.IdiomCopy
import Derived.OrdersHeld
import Derived.Laws.BitsLemmas
import Derived.RowKit
import Derived.WalkSpells
import Derived.WalkLawsBesides
import Derived.Lib.BytesEntry
import Derived.Test.YtjjkhlphdbmdfaaXExt
import Derived.Test.YtjjkhlphdbmdfaaXLaw
import Derived.Test.YtjjkhlphdbmdfaaXShort
import Derived.Test.YtjjkhlphdbmdfaaXNan
import Derived.Test.YtjjkhlphdbmdfaaXIeee
import Derived.Test.YtjjkhlphdbmdfaaXCn
import Derived.Test.YtjjkhlphdbmdfaaWWords
import Derived.Test.YtjjkhlphdbmdfaaWLast
import Derived.Test.YtjjkhlphdbmdfaaWTab
import Derived.Test.YtjjkhlphdbmdfaaWFour
import Derived.Test.YtjjkhlphdbmdfaaWQPut
import Derived.Test.YtjjkhlphdbmdfaaWApart
import Derived.Test.YtjjkhlphdbmdfaaWArr
import Derived.Test.YtjjkhlphdbmdfaaWZeros
import Derived.Test.YtjjkhlphdbmdfaaWFoot
import Derived.Test.YtjjkhlphdbmdfaaWKept
import Derived.Test.YtjjkhlphdbmdfaaWShare
import Derived.Test.YtjjkhlphdbmdfaaWN
import Derived.Test.YtjjkhlphdbmdfaaWFootNe
import Derived.Test.YtjjkhlphdbmdfaaWAt
import Derived.Test.YtjjkhlphdbmdfaaWEqStruct
import Derived.Test.YtjjkhlphdbmdfaaWRepsOne
import Derived.Test.YtjjkhlphdbmdfaaWInv
import Derived.Test.YtjjkhlphdbmdfaaWInvWords
import Derived.Test.YtjjkhlphdbmdfaaWGuard
import Derived.Test.YtjjkhlphdbmdfaaWNEv
import Derived.Test.YtjjkhlphdbmdfaaWMore
namespace Go.Proofs.Ytjjkhlphdbmdfaa.PFnExactKeyRead
open Go.RowKit Go.Proofs.YtjjkhlphdbmdfaaW.PrintWords Go.Proofs.YtjjkhlphdbmdfaaW.PrintLast Go.Proofs.YtjjkhlphdbmdfaaW.PrintMore
attribute [local go_sem] max2_int min2_int max_two min_two max_three min_three max_four min_four   -- for this text's walks alone
attribute [local go_sem high] fl_eql fl_neq fl_lss fl_leq fl_gtr fl_geq fl_add fl_sub fl_mul fl_quo fl_neg fl_ofInt fl_toInt fl_store sub_sign ext_bits ext_from fl_nan_quo fl_nan_add fl_nan_mul fl_nan_sub
open Go.Proofs.YtjjkhlphdbmdfaaW.PrintWords renaming below_alloc → h1, pw_below_drewN → h2, below_drew1 → h3, below_set → h4, blk_drewN → b1, blk_drew → b2, blk_alloc → b3
set_option linter.unusedVariables false
set_option linter.unusedSimpArgs false



def errW : Option Int → Value
  | none => .nilIface
  | some c => .iface 0 (.int .i64 c)
theorem errW_none : errW none = .nilIface := rfl
theorem errW_some (c : Int) : errW (some c) = .iface 0 (.int .i64 c) := rfl

theorem info5 : (Try.prog.info? 5).map (fun i => (i.zero, i.size, i.bytes)) = some (some (.int .u8 0), 1, 1) := by kernel_rfl
-- the values' own types

end Go.Proofs.Ytjjkhlphdbmdfaa.PFnExactKeyRead
