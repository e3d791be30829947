import Derived.Test.YtjjkhlphdbmdfaaZFnTuples27
import Derived.Test.YtjjkhlphdbmdfaaZFnTuples23
namespace Go.Proofs.YtjjkhlphdbmdfaaW.PrintWords
open Go.RowKit
end Go.Proofs.YtjjkhlphdbmdfaaW.PrintWords
namespace Go.Proofs.YtjjkhlphdbmdfaaW.PrintLast
section
variable {ops : Array Oper} {a : Act} {o og : Oper} {g : Nat} {t : Tmp} {u : Bool}
end
end Go.Proofs.YtjjkhlphdbmdfaaW.PrintLast
