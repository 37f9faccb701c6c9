/- Draws of memories, fifth part, answer as their models. Conditions: those in each statement. -/
import Derived.Test.YtfiddfbagbaofaaGreatGT
import Derived.KernelRfl
namespace Go.Proofs.YtfiddfbagbaofaaGreat.V
open Go
def kU0:Known:=[(84,zyo),(181,yjm),(166,memS),(81,newS)]
def FU0:Dict:=mkD kU0 [] []
def zff(m:By)(i h:Int):Heap:=[.fix (zll m.length i h) true (some 244),.arr [.i .u8] m false]
def ysz(m:By)(i h k:Int):Prop:=znh Tryz.prog FU0 .none Tryz.f86 [.ptr 0 0,.v (.int .i64 k)] (zff m i h) (.v (.bool (byM m i h % k==0))) (zff m (iN m.length i) (hN h))
def yrf:Sum:=fun args H=>match args,H with
 | [.ptr 0 0,.v (.int .i64 k)],[.fix [.sl 1 1 0 n,.v (.int .i64 i),.v (.int .i64 h)] true (some 244),.arr sh m false] =>
  if e:sh=[.i .u8] then some (some (n=(e ▸ m:List (El [.i .u8])).length∧zbe (e ▸ m:List (El [.i .u8])) i∧1≤k∧k≤256),.v (.bool (byM (e ▸ m:List (El [.i .u8])) i h % k==0)),[.fix (zll n (iN n i) (hN h)) true (some 244),.arr [.i .u8] (e ▸ m:List (El [.i .u8])) false]) else none
 | _,_=>none
set_option linter.unusedVariables false
theorem yb2(m:By)(i h k:Int):ysz m i h k=(
 (List.length m=List.length m∧zbe m i∧(1:Int)≤k∧k≤(256:Int)) ∧
   (byM m i h % k==(0:Int))=(byM m i h % k==(0:Int))∧(0:Nat)=(0:Nat)∧List.length m=List.length m∧iN (List.length m) i=iN (List.length m) i∧hN h=hN h∧m=m):=by kernel_rfl
set_option linter.unusedSimpArgs false
theorem zct(x:Int):U64 (IntKind.u64.wrap x):=by unfold U64;rw[IntKind.wrap_u64];omega
theorem ynr(m:By)(i h:Int):∀k,U64 (zhh m i h k)
 | 0=>by unfold zhh U64;omega
 | k+1=>by unfold zhh;exact zct _
theorem zbm{m:By}{i:Int}(h:zbe m i):zbe m (iN m.length i):=zro h 1
theorem ytz:DictOk Tryz.prog FU0:=za1 (.cons (by kernel_rfl) zyp (.cons (by kernel_rfl) zyd (.cons (by kernel_rfl) yf3 (.cons (by kernel_rfl) yos .nil)))) .nil .nil
theorem yrg:Sound Tryz.prog 86 yrf:=by
 refine zde mixed Tryz.func86 (by kernel_rfl) (by kernel_rfl) ytz (fun args H p v H' h hp => ?_)
 unfold yrf at h
 split at h
 case h_2=>cases h
 rename_i k n i hh sh m
 split at h
 case isFalse=>cases h
 rename_i hsh
 subst hsh
 simp only[Option.some.injEq,Prod.mk.injEq] at h
 obtain⟨rfl,rfl,rfl⟩:=h
 obtain⟨rfl,hc,k1,k2⟩:n=m.length∧zbe m i∧1≤k∧k≤256:=hp
 exact⟨.none,zah (yb2 m i hh k) ⟨⟨rfl,hc,k1,k2⟩,rfl,rfl,rfl,rfl,rfl,rfl⟩⟩
end Go.Proofs.YtfiddfbagbaofaaGreat.V
