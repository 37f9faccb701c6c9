/- Draws of memories, second part, answer as their models. Conditions: those in each statement. -/
import Derived.Test.YtfiddfbagbaofaaGreatGQ
import Derived.KernelRfl
namespace Go.Proofs.YtfiddfbagbaofaaGreat.V
open Go
def FQ1:Dict:=mkD [(168,yj9)] [] []
def yhs(m:By)(i h n:Int):Prop:=znh Tryz.prog FQ1 .none Tryz.f84 [.ptr 0 0,.v (.int .i64 n)] [.fix (zll m.length i h) true (some 244),.arr [.i .u8] m true] (.v (.int .i64 (byM m i h % n))) [.fix (zll m.length (iN m.length i) (hN h)) true (some 244),.arr [.i .u8] m true]
def yhr(m:By)(i h n:Int):Prop:=znh Tryz.prog FQ1 .none Tryz.f84 [.ptr 0 0,.v (.int .i64 n)] [.fix (zll m.length i h) true (some 244),.arr [.i .u8] m false] (.v (.int .i64 (byM m i h % n))) [.fix (zll m.length (iN m.length i) (hN h)) true (some 244),.arr [.i .u8] m false]
def zyo:Sum:=fun args H=>match args,H with
 | [.ptr 0 0,.v (.int .i64 k)],[.fix [.sl 1 1 0 n,.v (.int .i64 i),.v (.int .i64 h)] true (some 244),.arr sh m o] =>
  if e:sh=[.i .u8] then some (some (n=(e ▸ m:List (El [.i .u8])).length∧zbe (e ▸ m:List (El [.i .u8])) i∧1≤k∧k≤256),.v (.int .i64 (byM (e ▸ m:List (El [.i .u8])) i h % k)),[.fix (zll n (iN n i) (hN h)) true (some 244),.arr [.i .u8] (e ▸ m:List (El [.i .u8])) o]) else none
 | _,_=>none
set_option linter.unusedVariables false
theorem zth(m:By)(i h n:Int):yhs m i h n=(
 (decide (n≤(256:Int))=true →
     (List.length m=List.length m∧zbe m i) ∧
       n≠(0:Int)∧byM m i h % n=(byM m i h).tmod n∧(0:Nat)=(0:Nat)∧List.length m=List.length m∧iN (List.length m) i=iN (List.length m) i∧hN h=hN h∧m=m) ∧
   (decide (n≤(256:Int))=false →
     (List.length m=List.length m∧zbe m i) ∧
       (List.length m=List.length m∧zbe m (iN (List.length m) i)) ∧
         (List.length m=List.length m∧zbe m (iN (List.length m) (iN (List.length m) i))) ∧
           n≠(0:Int) ∧
             byM m i h % n =
                 (IntKind.i64.wrap
                       (IntKind.i64.wrap (IntKind.i64.wrap (byM m i h*(65536:Int))+IntKind.i64.wrap (byM m (iN (List.length m) i) (hN h)*(256:Int))) +
                         byM m (iN (List.length m) (iN (List.length m) i)) (hN (hN h)))).tmod
                   n ∧
               (0:Nat)=(0:Nat)∧List.length m=List.length m∧iN (List.length m) i=iN (List.length m) (iN (List.length m) (iN (List.length m) i))∧hN h=hN (hN (hN h))∧m=m)):=by kernel_rfl
theorem ztg(m:By)(i h n:Int):yhr m i h n=(
 (decide (n≤(256:Int))=true →
     (List.length m=List.length m∧zbe m i) ∧
       n≠(0:Int)∧byM m i h % n=(byM m i h).tmod n∧(0:Nat)=(0:Nat)∧List.length m=List.length m∧iN (List.length m) i=iN (List.length m) i∧hN h=hN h∧m=m) ∧
   (decide (n≤(256:Int))=false →
     (List.length m=List.length m∧zbe m i) ∧
       (List.length m=List.length m∧zbe m (iN (List.length m) i)) ∧
         (List.length m=List.length m∧zbe m (iN (List.length m) (iN (List.length m) i))) ∧
           n≠(0:Int) ∧
             byM m i h % n =
                 (IntKind.i64.wrap
                       (IntKind.i64.wrap (IntKind.i64.wrap (byM m i h*(65536:Int))+IntKind.i64.wrap (byM m (iN (List.length m) i) (hN h)*(256:Int))) +
                         byM m (iN (List.length m) (iN (List.length m) i)) (hN (hN h)))).tmod
                   n ∧
               (0:Nat)=(0:Nat)∧List.length m=List.length m∧iN (List.length m) i=iN (List.length m) (iN (List.length m) (iN (List.length m) i))∧hN h=hN (hN (hN h))∧m=m)):=by kernel_rfl
set_option linter.unusedSimpArgs false
theorem yc5:DictOk Tryz.prog FQ1:=za1 (.cons (by kernel_rfl) ydw .nil) .nil .nil
theorem zyp:Sound Tryz.prog 84 zyo:=by
 refine zde mixed Tryz.func84 (by kernel_rfl) (by kernel_rfl) yc5 (fun args H p v H' h hp => ?_)
 unfold zyo at h
 split at h
 case h_2=>cases h
 rename_i k n i hh sh m o
 split at h
 case isFalse=>cases h
 rename_i hsh
 subst hsh
 simp only[Option.some.injEq,Prod.mk.injEq] at h
 obtain⟨rfl,rfl,rfl⟩:=h
 obtain⟨rfl,hc,k1,k2⟩:n=m.length∧zbe m i∧1≤k∧k≤256:=hp
 have e:=zcq (y:=k) (zlh m i hh).1
 cases o with
 | true=>exact⟨.none,zah (zth m i hh k) ⟨fun _=>⟨⟨rfl,hc⟩,by omega,e.symm,rfl,rfl,rfl,rfl,rfl⟩,fun q=>absurd k2 (of_decide_eq_false q)⟩⟩
 | false=>exact⟨.none,zah (ztg m i hh k) ⟨fun _=>⟨⟨rfl,hc⟩,by omega,e.symm,rfl,rfl,rfl,rfl,rfl⟩,fun q=>absurd k2 (of_decide_eq_false q)⟩⟩
end Go.Proofs.YtfiddfbagbaofaaGreat.V
