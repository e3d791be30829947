-- By this session's own program (wip/xprint.py), over the kit's print.
import Derived.Test.YtjbocmkphnmfgaaProg
import Derived.Below
import Derived.Deep.Draws
import Derived.Deep.AppendLies
import Derived.Maps.AppendAt
import Derived.OwnWalk
import Derived.Laws.BytesArg
import Derived.Laws.MakeOwn
import Derived.Laws.OwnMore
import Derived.Deep.OwnRows
import Derived.Tactics
import Derived.Lib.ConvBytes
import Derived.Laws.Slices
import Derived.WalkKit
import Derived.KernelRfl
import Derived.RowKit3
import Derived.Deep.LoopGhost
import Derived.Deep.QuietTactic
import Derived.BigQuiet
import Derived.WideLaws
import Derived.Deep.DeepCutAuto
import Derived.Deep.CutBlock
import Derived.Deep.RegionHeld3
import Derived.Laws.Rows
import Derived.Lib.AppendStr
import Derived.ArgAppend
import Derived.Laws.IdiomCopy
import Derived.OrdersHeld
import Derived.Laws.BitsLemmas
import Derived.RowKit
import Derived.WalkSpells
import Derived.WalkLawsBesides
import Derived.Lib.BytesEntry
import Derived.Test.YtjbocmkphnmfgaaXExt
import Derived.Test.YtjbocmkphnmfgaaXLaw
import Derived.Test.YtjbocmkphnmfgaaXNan
import Derived.Test.YtjbocmkphnmfgaaXIeee
import Derived.Test.YtjbocmkphnmfgaaXCn
import Derived.Test.YtjbocmkphnmfgaaWWords
import Derived.Test.YtjbocmkphnmfgaaWLast
import Derived.Test.YtjbocmkphnmfgaaWTab
import Derived.Test.YtjbocmkphnmfgaaWFour
import Derived.Test.YtjbocmkphnmfgaaWQPut
import Derived.Test.YtjbocmkphnmfgaaWApart
import Derived.Test.YtjbocmkphnmfgaaWArr
import Derived.Test.YtjbocmkphnmfgaaWZeros
import Derived.Test.YtjbocmkphnmfgaaWFoot
import Derived.Test.YtjbocmkphnmfgaaWKept
import Derived.Test.YtjbocmkphnmfgaaWShare
import Derived.Test.YtjbocmkphnmfgaaWN
import Derived.Test.YtjbocmkphnmfgaaWFootNe
import Derived.Test.YtjbocmkphnmfgaaWAt
import Derived.Test.YtjbocmkphnmfgaaWEqStruct
import Derived.Test.YtjbocmkphnmfgaaWRepsOne
import Derived.Test.YtjbocmkphnmfgaaWInv
import Derived.Test.YtjbocmkphnmfgaaWInvWords
import Derived.Test.YtjbocmkphnmfgaaWGuard
import Derived.Test.YtjbocmkphnmfgaaWNEv
import Derived.Test.YtjbocmkphnmfgaaWMore
namespace Go.Proofs.Ytjbocmkphnmfgaa.PFnSums
open Go.RowKit Go.Proofs.YtjbocmkphnmfgaaW.PrintWords Go.Proofs.YtjbocmkphnmfgaaW.PrintLast Go.Proofs.YtjbocmkphnmfgaaW.PrintMore
attribute [local go_sem] max2_int min2_int max_two min_two max_three min_three max_four min_four   -- for this text's walks alone
attribute [local go_sem high] fl_eql fl_neq fl_lss fl_leq fl_gtr fl_geq fl_add fl_sub fl_mul fl_quo fl_neg fl_ofInt fl_toInt fl_store sub_sign ext_bits ext_from fl_nan_quo fl_nan_add fl_nan_mul fl_nan_sub
set_option linter.unusedVariables false
set_option linter.unusedSimpArgs false



def errW : Option Int → Value
  | none => .nilIface
  | some c => .iface 0 (.int .i64 c)
theorem errW_none : errW none = .nilIface := rfl
theorem errW_some (c : Int) : errW (some c) = .iface 0 (.int .i64 c) := rfl

theorem info22 : (Try.prog.info? 22).map (fun i => (i.zero, i.size, i.bytes)) = some (some (.float .f64 0), 1, 8) := by kernel_rfl
-- the values' own types

end Go.Proofs.Ytjbocmkphnmfgaa.PFnSums
