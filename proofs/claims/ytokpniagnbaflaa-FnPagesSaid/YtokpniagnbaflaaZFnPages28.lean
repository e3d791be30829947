import Derived.Test.YtokpniagnbaflaaZFnPages27
import Derived.Test.YtokpniagnbaflaaZFnPages23
namespace Go.Proofs.YtokpniagnbaflaaW.PrintWords
open Go.RowKit
end Go.Proofs.YtokpniagnbaflaaW.PrintWords
namespace Go.Proofs.YtokpniagnbaflaaW.PrintLast
section
variable{ops:Array Oper}{a:Act}{o og:Oper}{g:Nat}{t:Tmp}{u:Bool}
end
end Go.Proofs.YtokpniagnbaflaaW.PrintLast
