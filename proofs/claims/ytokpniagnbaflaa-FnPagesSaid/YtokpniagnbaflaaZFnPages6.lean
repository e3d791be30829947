/-
What a call of math.Float64bits and of math.Float64frombits gives: the float's bits, the float with these bits.
Conditions: none.
-/
import Derived.Test.YtokpniagnbaflaaZFnPages5
import Derived.Test.YtokpniagnbaflaaProg
import Derived.Laws.Externs
import Derived.KernelRfl
namespace Go.Proofs.YtokpniagnbaflaaW.PrintWords
end Go.Proofs.YtokpniagnbaflaaW.PrintWords
