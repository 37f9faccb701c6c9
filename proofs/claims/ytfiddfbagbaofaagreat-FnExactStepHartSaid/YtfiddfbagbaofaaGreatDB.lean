/- The program's reading of a script answers as its model. Conditions: those in each statement. -/
import Derived.Test.YtfiddfbagbaofaaGreatDA
import Derived.KernelRfl
namespace Go.Proofs.YtfiddfbagbaofaaGreat.V
open Go
def dPc(b:By):Int:=zda (ymv b 7 8)
def yys(b:By):Int:=if atB b 4 % 4=3 then 1 else atB b 4 % 4
def dSum(b:By):Bool:=atB b 4/4 % 2==1
def dMxr(b:By):Bool:=atB b 4/8 % 2==1
def dSatp(b:By):Int:=if zbh (zda (ymv b 23 8))=true then zda (ymv b 23 8) else 0
def dTvec(b:By):Int:=zda (ymv b 15 8)/4*4
set_option linter.unusedVariables false
set_option linter.unusedSimpArgs false
set_option linter.unusedVariables false
end Go.Proofs.YtfiddfbagbaofaaGreat.V
