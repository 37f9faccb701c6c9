/- The translation with caches answers as its model. Conditions: those in each statement. -/
import Derived.Test.YtfiddfbagbaofaaGI
import Derived.KernelRfl
import Derived.Test.YtfiddfbagbaofaaV3
namespace Go.Proofs.Ytfiddfbagbaofaa.V
open Go
abbrev Cch := Tl × Tl × Tl
/-- The entry that is kept of a table entry. -/
def entM (l va satp p : Int) : En := (true, l, tagM va l, asidM satp, bitM p 5, p)
end Go.Proofs.Ytfiddfbagbaofaa.V
namespace Go.Proofs.Ytfiddfbagbaofaa.V
open Go
set_option linter.unusedVariables false
end Go.Proofs.Ytfiddfbagbaofaa.V
namespace Go.Proofs.Ytfiddfbagbaofaa.V
open Go
set_option linter.unusedSimpArgs false
end Go.Proofs.Ytfiddfbagbaofaa.V
