/- The program's Constants answers as the reference's for all arguments, over the printed functions. Conditions: those of the statement alone. -/
import Derived.Test.YtfiddfbagbaofaaPFnExactConstantsx1
namespace Go.Proofs.Ytfiddfbagbaofaa.Pure
open Go.Proofs.Ytfiddfbagbaofaa.PFnExactConstants
theorem FnExactConstants : laws_FnExactConstants.Pure := rfl
end Go.Proofs.Ytfiddfbagbaofaa.Pure
