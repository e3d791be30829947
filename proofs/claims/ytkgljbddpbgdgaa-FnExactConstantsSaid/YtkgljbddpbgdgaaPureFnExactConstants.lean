/-
The law FnExactConstants answers true: each constant of the program has the value that the reference gives.
Conditions: none beyond the bounds of the statement itself.
-/
import Derived.Test.YtkgljbddpbgdgaaPFnExactConstantsx1
set_option linter.unusedVariables false
set_option linter.unusedSimpArgs false
namespace Go.Proofs.Ytkgljbddpbgdgaa.Pure.ofFnExactConstants
open Go.RowKit Go.Proofs.Ytkgljbddpbgdgaa.PFnExactConstants Go.Proofs.YtkgljbddpbgdgaaW.PrintWords Go.Proofs.YtkgljbddpbgdgaaW.PrintLast Go.Proofs.YtkgljbddpbgdgaaW.PrintMore

theorem main : laws_FnExactConstants.Pure := by
  unfold laws_FnExactConstants.Pure laws_FnExactConstants.f
  rfl

end Go.Proofs.Ytkgljbddpbgdgaa.Pure.ofFnExactConstants
namespace Go.Proofs.Ytkgljbddpbgdgaa.Pure
open Go.Proofs.Ytkgljbddpbgdgaa.PFnExactConstants
theorem FnExactConstants : laws_FnExactConstants.Pure := ofFnExactConstants.main
end Go.Proofs.Ytkgljbddpbgdgaa.Pure
