/- Drawing scripts: pointers. Conditions: those in each statement. -/
import Derived.Test.YtfiddfbagbaofaaGreatEB
import Derived.Test.YtfiddfbagbaofaaGreatGU
import Derived.KernelRfl
namespace Go.Proofs.YtfiddfbagbaofaaGreat.V
open Go
def kEC0:Known:=[(86,yqx),(84,zyh)]
set_option linter.unusedVariables false
set_option linter.unusedSimpArgs false
set_option linter.unusedVariables false
theorem zv4:zaw Tryz.prog kEC0 := .cons (by kernel_rfl) yqy <| .cons (by kernel_rfl) zyi .nil
end Go.Proofs.YtfiddfbagbaofaaGreat.V
