-- By this session's own program (wip/xprint.py), over the kit's print.
import Derived.Test.YtcjeokkhpjppaaaProg
import Derived.Below
import Derived.Deep.Draws
import Derived.Deep.AppendLies
import Derived.Maps.AppendAt
import Derived.OwnWalk
import Derived.Laws.BytesArg
import Derived.Laws.MakeOwn
import Derived.Laws.OwnMore
import Derived.Deep.OwnRows
import Derived.Tactics
import Derived.Lib.ConvBytes
import Derived.Laws.Slices
import Derived.WalkKit
import Derived.KernelRfl
import Derived.RowKit3
import Derived.Deep.LoopGhost
import Derived.Deep.QuietTactic
import Derived.BigQuiet
import Derived.WideLaws
import Derived.Deep.DeepCutAuto
import Derived.Deep.CutBlock
import Derived.Deep.RegionHeld3
import Derived.Laws.Rows
import Derived.Lib.AppendStr
import Derived.ArgAppend
import Derived.Laws.IdiomCopy
import Derived.OrdersHeld
import Derived.Laws.BitsLemmas
import Derived.RowKit
import Derived.WalkSpells
import Derived.WalkLawsBesides
import Derived.Lib.BytesEntry
import Derived.Test.YtcjeokkhpjppaaaXExt
import Derived.Test.YtcjeokkhpjppaaaWWords
import Derived.Test.YtcjeokkhpjppaaaWLast
import Derived.Test.YtcjeokkhpjppaaaWTab
import Derived.Test.YtcjeokkhpjppaaaWFour
import Derived.Test.YtcjeokkhpjppaaaWQPut
import Derived.Test.YtcjeokkhpjppaaaWApart
import Derived.Test.YtcjeokkhpjppaaaWArr
import Derived.Test.YtcjeokkhpjppaaaWZeros
import Derived.Test.YtcjeokkhpjppaaaWFoot
import Derived.Test.YtcjeokkhpjppaaaWKept
import Derived.Test.YtcjeokkhpjppaaaWShare
import Derived.Test.YtcjeokkhpjppaaaWN
import Derived.Test.YtcjeokkhpjppaaaWFootNe
import Derived.Test.YtcjeokkhpjppaaaWAt
import Derived.Test.YtcjeokkhpjppaaaWEqStruct
import Derived.Test.YtcjeokkhpjppaaaWRepsOne
import Derived.Test.YtcjeokkhpjppaaaWInv
import Derived.Test.YtcjeokkhpjppaaaWInvWords
import Derived.Test.YtcjeokkhpjppaaaWGuard
import Derived.Test.YtcjeokkhpjppaaaWNEv
import Derived.Test.YtcjeokkhpjppaaaWMore
namespace Go.Proofs.Ytcjeokkhpjppaaa.PFnExactInSpan
open Go.RowKit Go.Proofs.YtcjeokkhpjppaaaW.PrintWords Go.Proofs.YtcjeokkhpjppaaaW.PrintLast Go.Proofs.YtcjeokkhpjppaaaW.PrintMore
attribute [local go_sem] max2_int min2_int max_two min_two max_three min_three max_four min_four   -- for this text's walks alone
attribute [local go_sem high] fl_eql fl_neq fl_lss fl_leq fl_gtr fl_geq fl_add fl_sub fl_mul fl_quo fl_neg fl_ofInt fl_toInt fl_store ext_bits
open Go.Proofs.YtcjeokkhpjppaaaW.PrintWords.Kd renaming R_alloc → ra1, R_drewN → ra2, R_drew → ra3, R_elder' → ra4, R_below → ra5, C_alloc → ra6, C_drewN → ra7, C_drew → ra8, R_reads' → ra9
open Go.Proofs.YtcjeokkhpjppaaaW.PrintWords renaming blk_drewN → rb1, blk_drew → rb2, blk_alloc → rb3, pw_below_drewN → rb4
set_option linter.unusedVariables false
set_option linter.unusedSimpArgs false



def errW : Option Int → Value
  | none => .nilIface
  | some c => .iface 0 (.int .i64 c)
theorem errW_none : errW none = .nilIface := rfl
theorem errW_some (c : Int) : errW (some c) = .iface 0 (.int .i64 c) := rfl

theorem info3 : (Try.prog.info? 3).map (fun i => (i.zero, i.size, i.bytes)) = some (some (.int .i64 0), 1, 8) := by kernel_rfl
theorem info5 : (Try.prog.info? 5).map (fun i => (i.zero, i.size, i.bytes)) = some (some (.int .u8 0), 1, 1) := by kernel_rfl
-- the values' own types

end Go.Proofs.Ytcjeokkhpjppaaa.PFnExactInSpan
