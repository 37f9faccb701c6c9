/- Drawing scripts: pointers. Conditions: those in each statement. -/
import Derived.Test.YtfiddfbagbaofaaGreatEB
import Derived.Test.YtfiddfbagbaofaaGreatGU
import Derived.KernelRfl
namespace Go.Proofs.YtfiddfbagbaofaaGreat.V
open Go
def kEC0:Known:=[(86,yrf),(84,zyo)]
set_option linter.unusedVariables false
set_option linter.unusedSimpArgs false
set_option linter.unusedVariables false
theorem zv7:zay Tryz.prog kEC0 := .cons (by kernel_rfl) yrg <| .cons (by kernel_rfl) zyp .nil
end Go.Proofs.YtfiddfbagbaofaaGreat.V
