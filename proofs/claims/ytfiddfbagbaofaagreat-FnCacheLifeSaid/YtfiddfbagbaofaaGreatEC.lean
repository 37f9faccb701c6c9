/- Drawing scripts: pointers. Conditions: those in each statement. -/
import Derived.Test.YtfiddfbagbaofaaGreatEB
import Derived.Test.YtfiddfbagbaofaaGreatGU
import Derived.KernelRfl
namespace Go.Proofs.YtfiddfbagbaofaaGreat.V
open Go
def kEC0 : Known := [(86, ynl), (84, zwk)]
set_option linter.unusedVariables false
set_option linter.unusedSimpArgs false
set_option linter.unusedVariables false
theorem zug : zaz Tryz.prog kEC0 := .cons (by kernel_rfl) ynm <| .cons (by kernel_rfl) zwl .nil
end Go.Proofs.YtfiddfbagbaofaaGreat.V
