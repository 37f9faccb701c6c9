/- The law on walking returns true. Conditions: those in each statement. -/
import Derived.Test.YtfiddfbagbaofaaGreatGL
import Derived.KernelRfl
namespace Go.Proofs.YtfiddfbagbaofaaGreat.V
open Go
def kM:Known:=[
 (124,zag [byP,u64,u64] [wrP] (fun t=>some (zan t.1∧U64 t.2.1∧U64 t.2.2)) (fun t=>zbx t.1 t.2.1 t.2.2))]++kK2
set_option linter.unusedVariables false
set_option linter.unusedSimpArgs false
theorem yfa:zay Tryz.prog kM := .cons (by kernel_rfl) ylz <| zse
theorem zux(m:By)(root va:Int):(zbx m root va).2.2.2.length≤3:=by
 unfold zbx
 split
 · exact zcy m va 3 _
 · exact Nat.zero_le _
end Go.Proofs.YtfiddfbagbaofaaGreat.V
