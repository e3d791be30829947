import Derived.SizedLaws
import Derived.ChangeSlices
namespace Go.Proofs.YtjjkhlphdbmdfaaW.PrintWords
open Go.ChangeShapes Go.WideShapes
end Go.Proofs.YtjjkhlphdbmdfaaW.PrintWords
