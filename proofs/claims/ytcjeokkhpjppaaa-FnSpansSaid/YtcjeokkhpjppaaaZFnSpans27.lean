import Derived.Test.YtcjeokkhpjppaaaZFnSpans26
import Derived.Test.YtcjeokkhpjppaaaZFnSpans22
namespace Go.Proofs.YtcjeokkhpjppaaaW.PrintWords
open Go.RowKit
end Go.Proofs.YtcjeokkhpjppaaaW.PrintWords
namespace Go.Proofs.YtcjeokkhpjppaaaW.PrintLast
section
variable {ops : Array Oper} {a : Act} {o og : Oper} {g : Nat} {t : Tmp} {u : Bool}
end
end Go.Proofs.YtcjeokkhpjppaaaW.PrintLast
