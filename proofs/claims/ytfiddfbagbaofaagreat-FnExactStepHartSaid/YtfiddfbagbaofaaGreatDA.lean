/- Reading scripts, byte by byte, answers as its models. Conditions: those in each statement. -/
import Derived.Test.YtfiddfbagbaofaaGreatHA
import Derived.KernelRfl
namespace Go.Proofs.YtfiddfbagbaofaaGreat.V
open Go
def atB(b:By)(p:Nat):Int:=b.getD p 0
def ymv(b:By)(p k:Nat):By:=(List.range k).map fun j=>atB b (p+j)
def zz3(y:Int):Nat:=(2 ^ (y % 4).toNat*(1+y/4 % 4)).toNat
def zox(y:Int):Tl:=(2 ^ (y % 4).toNat,1+y/4 % 4,List.replicate (zz3 y) zE)
set_option linter.unusedVariables false
set_option linter.unusedSimpArgs false
theorem or_comm(x y:Int):bits .or .u64 x y=bits .or .u64 y x:=by
 show IntKind.u64.wrap ((BitVec.ofInt 64 x ||| BitVec.ofInt 64 y).toNat:Int)=IntKind.u64.wrap ((BitVec.ofInt 64 y ||| BitVec.ofInt 64 x).toNat:Int)
 rw[BitVec.or_comm]
theorem pow8(i:Nat):(2:Int) ^ (8*i)=256 ^ i:=by rw[Int.pow_mul];rfl
end Go.Proofs.YtfiddfbagbaofaaGreat.V
