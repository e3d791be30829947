/-
What a call of math.Float64bits and of math.Float64frombits gives: the float's bits, the float with these bits.
Conditions: none.
-/
import Derived.Test.YtkbclccnnllddaaXFlt
import Derived.Test.YtkbclccnnllddaaProg
import Derived.Laws.Externs
import Derived.KernelRfl
namespace Go.Proofs.YtkbclccnnllddaaW.PrintWords
end Go.Proofs.YtkbclccnnllddaaW.PrintWords
