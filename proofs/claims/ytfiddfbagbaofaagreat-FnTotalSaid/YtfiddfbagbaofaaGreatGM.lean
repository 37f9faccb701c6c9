/- The law on walking returns true. Conditions: those in each statement. -/
import Derived.Test.YtfiddfbagbaofaaGreatGL
import Derived.KernelRfl
namespace Go.Proofs.YtfiddfbagbaofaaGreat.V
open Go
def kM:Known:=[
 (124,zai [byP,u64,u64] [wrP] (fun t=>some (zaj t.1∧U64 t.2.1∧U64 t.2.2)) (fun t=>zcf t.1 t.2.1 t.2.2))]++kK2
set_option linter.unusedVariables false
set_option linter.unusedSimpArgs false
theorem yna:zar Tryz.prog kM := .cons (by kernel_rfl) yn6 <| zto
end Go.Proofs.YtfiddfbagbaofaaGreat.V
