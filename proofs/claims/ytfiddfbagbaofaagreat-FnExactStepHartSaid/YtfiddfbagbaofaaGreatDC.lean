/- The reference's reading of a script answers as the model. Conditions: those in each statement. -/
import Derived.Test.YtfiddfbagbaofaaGreatDB
import Derived.KernelRfl
namespace Go.Proofs.YtfiddfbagbaofaaGreat.V
open Go
def hA(b:By)(M:Nat)(ra:Av)(pc mo:Int)(su mx:Bool)(sa tv em:Int):List Av:=[.sl 3 1 0 M,ra,.v (.int .u64 pc),.v (.int .i64 mo),.v (.bool su),.v (.bool mx),.v (.int .u64 sa),.v (.int .u64 tv),.v (.int .u64 0),.v (.int .i64 em),.v (.int .i64 0),.v (.int .u64 0)]++(tlA (zox (atB b 0)).1 (zox (atB b 0)).2.1 5 (zz3 (atB b 0))++(tlA (zox (atB b 1)).1 (zox (atB b 1)).2.1 6 (zz3 (atB b 1))++tlA (zox (atB b 2)).1 (zox (atB b 2)).2.1 7 (zz3 (atB b 2))))
def hF(b:By)(M:Nat):List Av:=hA b M (.sl 4 1 0 8) (dPc b) (yys b) (dSum b) (dMxr b) (dSatp b) (dTvec b) (yys b)
set_option linter.unusedVariables false
set_option linter.unusedSimpArgs false
set_option linter.unusedVariables false
end Go.Proofs.YtfiddfbagbaofaaGreat.V
