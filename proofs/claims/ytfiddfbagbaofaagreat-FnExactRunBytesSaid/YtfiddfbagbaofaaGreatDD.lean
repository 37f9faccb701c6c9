/- Scripts told equal, marked and held, and the law on reading them. Conditions: those in each statement. -/
import Derived.Test.YtfiddfbagbaofaaGreatDC
import Derived.KernelRfl
namespace Go.Proofs.YtfiddfbagbaofaaGreat.V
open Go
def zds(k:Int)(n:Nat):List Int:=(List.range n).map fun i:Nat=>k+(i:Int)
def zna(m:Us)(k:Int):LoopS where
 α:=Nat
 I i:=i≤m.length
 sl i:=slots 20 [(0,.sl 0 1 0 m.length),(1,.v (.int .i64 (k+i))),(5,.v (.int .i64 i))]
 H i:=[.arr [.i .u64] (zds k i++m.drop i) true]
 fams:=[{ β:=Unit,out:=fun _ _=>True,ex := .ext 0,sl:=fun _=>slots 20 [(1,.v (.int .i64 (k+m.length)))],H:=fun _=>[.arr [.i .u64] (zds k m.length) true] }]
def zyt(m:Us)(k:Int)(i:Nat):Prop:=zam Tryz.prog F0 (.one 2 (zna m k)) 1 (zag Tryz.f106 0) (zna m k) (fun i:Nat=>m.length-i) i
def ykx(m:Us)(k:Int):Prop:=zon Tryz.prog F0 (.one 2 (zna m k)) Tryz.f106 [usP,i64] [i64] (m,k) ((zds k m.length,k),k+m.length)
def zmu(m:Us)(k:Int):LoopS where
 α:=Nat
 I i:=i≤m.length
 sl i:=slots 22 [(0,.sl 0 1 0 m.length),(1,.v (.int .i64 (k+i))),(5,.v (.int .i64 i))]
 H _:=[.arr [.i .u64] m false]
 fams:=[{ β:=Unit,out:=fun _ _=>True,ex := .ext 0,sl:=fun _=>slots 22 [(1,.v (.int .i64 (k+m.length)))],H:=fun _=>[.arr [.i .u64] m false] }]
def zyf(m:Us)(k:Int)(i:Nat):Prop:=zam Tryz.prog F0 (.one 2 (zmu m k)) 1 (zag Tryz.f109 0) (zmu m k) (fun i:Nat=>m.length-i) i
def ykj(m:Us)(k:Int):Prop:=zal Tryz.prog F0 (.one 2 (zmu m k)) Tryz.f109 [usP,i64] [i64] (m,k) (k+m.length)
def kDD1:Known:=[
 (106,yam [usP,i64] [i64] (fun t=>some (zdd t.1.length t.2)) (fun t=>((zds t.2 t.1.length,t.2),t.2+t.1.length))),
 (109,zai [usP,i64] [i64] (fun t=>some (zdd t.1.length t.2∧t.1=zds t.2 t.1.length)) (fun t=>t.2+t.1.length))]
def InN(n:Int):Prop:=0≤n∧n≤549755813888
set_option linter.unusedVariables false
theorem zow(m:Us)(k:Int)(i:Nat):zyt m k i=(
 (decide ((↑i:Int)<(↑(List.length m):Int))=true→((0:Int)≤(↑i:Int)∧(↑i:Int)<(↑(List.length m):Int))∧(0:Nat)+(↑i:Int).toNat<(zds k i++List.drop i m).length∧∃(y:Nat),((0:Nat)=(0:Nat) ∧
 List.length m=List.length m∧k+(↑y:Int)=IntKind.i64.wrap (k+(↑i:Int)+(1:Int))∧(↑y:Int)=IntKind.i64.wrap ((↑i:Int)+(1:Int))∧zds k y++List.drop y m=(zds k i++List.drop i m).set ((0:Nat)+(↑i :
 Int).toNat) (IntKind.u64.wrap (k+(↑i:Int))))∧y≤List.length m∧List.length m-y<List.length m-i∧∀(z:Unit),True→True)∧(decide ((↑i:Int)<(↑(List.length m):Int))=false→∃(z:Unit),(k+(↑(List.length m) :
 Int)=k+(↑i:Int)∧zds k (List.length m)=zds k i++List.drop i m)∧True)):=by kernel_rfl
theorem zvl(m:Us)(k:Int):ykx m k=(
 ∃(x:Nat),((0:Nat)=(0:Nat)∧List.length m=List.length m∧k+(↑x:Int)=k∧(↑x:Int)=(0:Int)∧zds k x++List.drop x m=m)∧x≤List.length m∧∀(z:Unit),True→k+(↑(List.length m):PmT [i64])=k +
 (↑(List.length m):Int)∧zds k (List.length m)=zds k (List.length m)):=by kernel_rfl
theorem zoq(m:Us)(k:Int)(i:Nat):zyf m k i=(
 (decide ((↑i:Int)<(↑(List.length m):Int))=true→((0:Int)≤(↑i:Int)∧(↑i:Int)<(↑(List.length m):Int))∧(0:Nat)+(↑i:Int).toNat<List.length m∧((List.getD m ((0:Nat)+(↑i:Int).toNat) (El.zero [Ty.i
 IntKind.u64]) != IntKind.u64.wrap (k+(↑i:Int)))=true→False)∧((List.getD m ((0:Nat)+(↑i:Int).toNat) (El.zero [Ty.i IntKind.u64]) != IntKind.u64.wrap (k+(↑i:Int)))=false→∃(y:Nat),((0:Nat)=(0:Nat) ∧
 List.length m=List.length m∧k+(↑y:Int)=IntKind.i64.wrap (k+(↑i:Int)+(1:Int))∧(↑y:Int)=IntKind.i64.wrap ((↑i:Int)+(1:Int))∧m=m)∧y≤List.length m∧List.length m-y<List.length m-i∧∀(z:Unit),
 True→True))∧(decide ((↑i:Int)<(↑(List.length m):Int))=false→∃(z:Unit),(k+(↑(List.length m):Int)=k+(↑i:Int)∧m=m)∧True)):=by kernel_rfl
theorem zu3(m:Us)(k:Int):ykj m k=(
 ∃(x:Nat),((0:Nat)=(0:Nat)∧List.length m=List.length m∧k+(↑x:Int)=k∧(↑x:Int)=(0:Int)∧m=m)∧x≤List.length m∧∀(z:Unit),True→k+(↑(List.length m):PmT [i64])=k+(↑(List.length m):Int)∧m=m):=by kernel_rfl
set_option linter.unusedSimpArgs false
set_option linter.unusedVariables false
theorem zhi(k:Int)(n:Nat):(zds k n).length=n:=by simp[zds]
theorem ycb(k:Int)(n:Nat):zds k (n+1)=zds k n++[k+n]:=by simp[zds,List.range_succ]
theorem yhv(k:Int){n i:Nat}(h:i<n):(zds k n).getD i 0=k+i:=by
 unfold zds
 rw[List.getD_eq_getElem?_getD,List.getElem?_map,List.getElem?_range h]
 rfl
theorem yhy:Sound Tryz.prog 106 (yam [usP,i64] [i64] (fun t=>some (zdd t.1.length t.2)) (fun t=>((zds t.2 t.1.length,t.2),t.2+t.1.length))):=by
 refine zlq mixed Tryz.func106 (by kernel_rfl) (b:=zag Tryz.f106 0) (k:=2) (by kernel_rfl) (by kernel_rfl) (by kernel_rfl) zdc (fun t h => ?_)
 obtain⟨m,k⟩:Us × Int:=t
 obtain⟨h,h1,h2⟩:zdd m.length k:=h
 have hs:m.length≤2097152:=h
 refine⟨.one 2 (zna m k),zna m k,fun i:Nat=>m.length-i,za3 _ _,fun  (i:Nat) hi=>zab (zow m k i) ?_,zab (zvl m k) ?_⟩
 · have hi:i≤m.length:=hi
   refine⟨fun g => ?_,fun g => ?_⟩
   · have g:(i:Int)<m.length:=of_decide_eq_true g
     rw[zcj h (by omega),zaa (n:=k+i+1) (by omega) (by omega),zah (n:=k+i) (by omega) (by omega),show 0+(i:Int).toNat=i by omega,yap _ _ _ (zhi k i) (by omega)]
     exact⟨⟨by omega,by omega⟩,by simp[zhi];omega,i+1,⟨rfl,rfl,by omega,rfl,by rw[ycb]⟩,by omega,by omega,fun _ _=>trivial⟩
   · have g:¬ (i:Int)<m.length:=of_decide_eq_false g
     have:i=m.length:=by omega
     subst this
     exact⟨(),⟨rfl,by simp⟩,trivial⟩
 · exact⟨0,⟨rfl,rfl,by simp,rfl,rfl⟩,by omega,fun _ _=>⟨rfl,rfl⟩⟩
theorem ygr:Sound Tryz.prog 109 (zai [usP,i64] [i64] (fun t=>some (zdd t.1.length t.2∧t.1=zds t.2 t.1.length)) (fun t=>t.2+t.1.length)):=by
 refine zbl mixed Tryz.func109 (by kernel_rfl) (b:=zag Tryz.f109 0) (k:=2) (by kernel_rfl) (by kernel_rfl) (by kernel_rfl) zdc (fun t h => ?_)
 obtain⟨m,k⟩:Us × Int:=t
 obtain⟨⟨h,h1,h2⟩,h3⟩:zdd m.length k∧m=zds k m.length:=h
 have hs:m.length≤2097152:=h
 refine⟨.one 2 (zmu m k),zmu m k,fun i:Nat=>m.length-i,za3 _ _,fun  (i:Nat) hi=>zab (zoq m k i) ?_,zab (zu3 m k) ?_⟩
 · have hi:i≤m.length:=hi
   refine⟨fun g => ?_,fun g => ?_⟩
   · have g:(i:Int)<m.length:=of_decide_eq_true g
     have e:List.getD m i (El.zero [Ty.i IntKind.u64])=k+i:=by rw[h3];exact yhv k (by omega)
     rw[zcj h (by omega),zaa (n:=k+i+1) (by omega) (by omega),zah (n:=k+i) (by omega) (by omega),show 0+(i:Int).toNat=i by omega,e]
     exact⟨⟨by omega,by omega⟩,by omega,fun e=>by simp at e,fun _=>⟨i+1,⟨rfl,rfl,by omega,rfl,rfl⟩,by omega,by omega,fun _ _=>trivial⟩⟩
   · have g:¬ (i:Int)<m.length:=of_decide_eq_false g
     have:i=m.length:=by omega
     subst this
     exact⟨(),⟨rfl,rfl⟩,trivial⟩
 · exact⟨0,⟨rfl,rfl,by simp,rfl,rfl⟩,by omega,fun _ _=>⟨rfl,rfl⟩⟩
theorem yt0:zar Tryz.prog kDD1 := .cons (by kernel_rfl) yhy <| .cons (by kernel_rfl) ygr .nil
end Go.Proofs.YtfiddfbagbaofaaGreat.V
