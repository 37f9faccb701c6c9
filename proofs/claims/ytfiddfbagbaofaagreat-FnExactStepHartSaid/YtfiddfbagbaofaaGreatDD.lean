/- Scripts told equal, marked and held, and the law on reading them. Conditions: those in each statement. -/
import Derived.Test.YtfiddfbagbaofaaGreatDC
import Derived.KernelRfl
namespace Go.Proofs.YtfiddfbagbaofaaGreat.V
open Go
def zb5(k:Int)(n:Nat):List Int:=(List.range n).map fun i:Nat=>k+(i:Int)
def zmu(m:Us)(k:Int):LoopS where
 α:=Nat
 I i:=i≤m.length
 sl i:=slots 20 [(0,.sl 0 1 0 m.length),(1,.v (.int .i64 (k+i))),(5,.v (.int .i64 i))]
 H i:=[.arr [.i .u64] (zb5 k i++m.drop i) true]
 fams:=[{ β:=Unit,out:=fun _ _=>True,ex := .ext 0,sl:=fun _=>slots 20 [(1,.v (.int .i64 (k+m.length)))],H:=fun _=>[.arr [.i .u64] (zb5 k m.length) true] }]
def zyt(m:Us)(k:Int)(i:Nat):Prop:=zao Tryz.prog F0 (.one 2 (zmu m k)) 1 (zak Tryz.f106 0) (zmu m k) (fun i:Nat=>m.length-i) i
def ykw(m:Us)(k:Int):Prop:=zkc Tryz.prog F0 (.one 2 (zmu m k)) Tryz.f106 [usP,i64] [i64] (m,k) ((zb5 k m.length,k),k+m.length)
def zme(m:Us)(k:Int):LoopS where
 α:=Nat
 I i:=i≤m.length
 sl i:=slots 22 [(0,.sl 0 1 0 m.length),(1,.v (.int .i64 (k+i))),(5,.v (.int .i64 i))]
 H _:=[.arr [.i .u64] m false]
 fams:=[{ β:=Unit,out:=fun _ _=>True,ex := .ext 0,sl:=fun _=>slots 22 [(1,.v (.int .i64 (k+m.length)))],H:=fun _=>[.arr [.i .u64] m false] }]
def zyc(m:Us)(k:Int)(i:Nat):Prop:=zao Tryz.prog F0 (.one 2 (zme m k)) 1 (zak Tryz.f109 0) (zme m k) (fun i:Nat=>m.length-i) i
def yke(m:Us)(k:Int):Prop:=zag Tryz.prog F0 (.one 2 (zme m k)) Tryz.f109 [usP,i64] [i64] (m,k) (k+m.length)
def kDD1:Known:=[
 (106,zo8 [usP,i64] [i64] (fun t=>some (zb8 t.1.length t.2)) (fun t=>((zb5 t.2 t.1.length,t.2),t.2+t.1.length))),
 (109,zad [usP,i64] [i64] (fun t=>some (zb8 t.1.length t.2∧t.1=zb5 t.2 t.1.length)) (fun t=>t.2+t.1.length))]
def FDD1:Dict:=mkD (kDD1++kHA2++kY1++kB3) [] []
def zs7(h:Ha)(n:Int):Ha:=(zcd (n) (h.1).length,zb5 (n+(h.1).length) (h.2.1).length,h.2.2.1,h.2.2.2.1,h.2.2.2.2.1,h.2.2.2.2.2.1,h.2.2.2.2.2.2.1,h.2.2.2.2.2.2.2.1,h.2.2.2.2.2.2.2.2.1,h.2.2.2.2.2.2.2.2.2.1,h.2.2.2.2.2.2.2.2.2.2.1,h.2.2.2.2.2.2.2.2.2.2.2.1,h.2.2.2.2.2.2.2.2.2.2.2.2.1,h.2.2.2.2.2.2.2.2.2.2.2.2.2.1,zan (n+(h.1).length+(h.2.1).length) (h.2.2.2.2.2.2.2.2.2.2.2.2.2.2.1).length,h.2.2.2.2.2.2.2.2.2.2.2.2.2.2.2.1,h.2.2.2.2.2.2.2.2.2.2.2.2.2.2.2.2.1,zan (n+(h.1).length+(h.2.1).length+6*(h.2.2.2.2.2.2.2.2.2.2.2.2.2.2.1).length) (h.2.2.2.2.2.2.2.2.2.2.2.2.2.2.2.2.2.1).length,h.2.2.2.2.2.2.2.2.2.2.2.2.2.2.2.2.2.2.1,h.2.2.2.2.2.2.2.2.2.2.2.2.2.2.2.2.2.2.2.1,zan (n+(h.1).length+(h.2.1).length+6*(h.2.2.2.2.2.2.2.2.2.2.2.2.2.2.1).length+6*(h.2.2.2.2.2.2.2.2.2.2.2.2.2.2.2.2.2.1).length) (h.2.2.2.2.2.2.2.2.2.2.2.2.2.2.2.2.2.2.2.2).length)
def zku(h:Ha)(n:Int):Int:=n+(h.1).length+(h.2.1).length+6*(h.2.2.2.2.2.2.2.2.2.2.2.2.2.2.1).length+6*(h.2.2.2.2.2.2.2.2.2.2.2.2.2.2.2.2.2.1).length+6*(h.2.2.2.2.2.2.2.2.2.2.2.2.2.2.2.2.2.2.2.2).length
def InN(n:Int):Prop:=0≤n∧n≤549755813888
def ypy(m:By)(u:Us)(pc:Int)(mo:Int)(su:Bool)(mx:Bool)(sa:Int)(tv:Int)(ep:Int)(em:Int)(ca:Int)(tl:Int)(s1:Int)(w1:Int)(m1:Es)(s2:Int)(w2:Int)(m2:Es)(s3:Int)(w3:Int)(m3:Es)(n:Int):Prop:=zkc Tryz.prog FDD1 .none Tryz.f54 [haP,i64] [i64] ((m,u,pc,mo,su,mx,sa,tv,ep,em,ca,tl,s1,w1,m1,s2,w2,m2,s3,w3,m3),n) ((zs7 (m,u,pc,mo,su,mx,sa,tv,ep,em,ca,tl,s1,w1,m1,s2,w2,m2,s3,w3,m3) n,n),zku (m,u,pc,mo,su,mx,sa,tv,ep,em,ca,tl,s1,w1,m1,s2,w2,m2,s3,w3,m3) n)
def ypm(m:By)(u:Us)(pc:Int)(mo:Int)(su:Bool)(mx:Bool)(sa:Int)(tv:Int)(ep:Int)(em:Int)(ca:Int)(tl:Int)(s1:Int)(w1:Int)(m1:Es)(s2:Int)(w2:Int)(m2:Es)(s3:Int)(w3:Int)(m3:Es)(n:Int):Prop:=zag Tryz.prog FDD1 .none Tryz.f152 [haP,i64] [i64] ((m,u,pc,mo,su,mx,sa,tv,ep,em,ca,tl,s1,w1,m1,s2,w2,m2,s3,w3,m3),n) (zku (m,u,pc,mo,su,mx,sa,tv,ep,em,ca,tl,s1,w1,m1,s2,w2,m2,s3,w3,m3) n)
def kDD2:Known:=[
 (54,zo8 [haP,i64] [i64] (fun t=>some (SzH t.1∧InN t.2)) (fun t=>((zs7 t.1 t.2,t.2),zku t.1 t.2))),
 (152,zad [haP,i64] [i64] (fun t=>some ((SzH t.1∧InN t.2)∧t.1=zs7 t.1 t.2)) (fun t=>zku t.1 t.2))]
set_option linter.unusedVariables false
theorem zoh(m:Us)(k:Int)(i:Nat):zyt m k i=(
 (decide ((↑i:Int)<(↑(List.length m):Int))=true→((0:Int)≤(↑i:Int)∧(↑i:Int)<(↑(List.length m):Int))∧(0:Nat)+(↑i:Int).toNat<(zb5 k i++List.drop i m).length∧∃(y:Nat),((0:Nat)=(0:Nat) ∧
 List.length m=List.length m∧k+(↑y:Int)=IntKind.i64.wrap (k+(↑i:Int)+(1:Int))∧(↑y:Int)=IntKind.i64.wrap ((↑i:Int)+(1:Int))∧zb5 k y++List.drop y m=(zb5 k i++List.drop i m).set ((0:Nat)+(↑i :
 Int).toNat) (IntKind.u64.wrap (k+(↑i:Int))))∧y≤List.length m∧List.length m-y<List.length m-i∧∀(z:Unit),True→True)∧(decide ((↑i:Int)<(↑(List.length m):Int))=false→∃(z:Unit),(k+(↑(List.length m) :
 Int)=k+(↑i:Int)∧zb5 k (List.length m)=zb5 k i++List.drop i m)∧True)):=by kernel_rfl
theorem zu1(m:Us)(k:Int):ykw m k=(
 ∃(x:Nat),((0:Nat)=(0:Nat)∧List.length m=List.length m∧k+(↑x:Int)=k∧(↑x:Int)=(0:Int)∧zb5 k x++List.drop x m=m)∧x≤List.length m∧∀(z:Unit),True→k+(↑(List.length m):PmT [i64])=k +
 (↑(List.length m):Int)∧zb5 k (List.length m)=zb5 k (List.length m)):=by kernel_rfl
theorem zob(m:Us)(k:Int)(i:Nat):zyc m k i=(
 (decide ((↑i:Int)<(↑(List.length m):Int))=true→((0:Int)≤(↑i:Int)∧(↑i:Int)<(↑(List.length m):Int))∧(0:Nat)+(↑i:Int).toNat<List.length m∧((List.getD m ((0:Nat)+(↑i:Int).toNat) (El.zero [Ty.i
 IntKind.u64]) != IntKind.u64.wrap (k+(↑i:Int)))=true→False)∧((List.getD m ((0:Nat)+(↑i:Int).toNat) (El.zero [Ty.i IntKind.u64]) != IntKind.u64.wrap (k+(↑i:Int)))=false→∃(y:Nat),((0:Nat)=(0:Nat) ∧
 List.length m=List.length m∧k+(↑y:Int)=IntKind.i64.wrap (k+(↑i:Int)+(1:Int))∧(↑y:Int)=IntKind.i64.wrap ((↑i:Int)+(1:Int))∧m=m)∧y≤List.length m∧List.length m-y<List.length m-i∧∀(z:Unit),
 True→True))∧(decide ((↑i:Int)<(↑(List.length m):Int))=false→∃(z:Unit),(k+(↑(List.length m):Int)=k+(↑i:Int)∧m=m)∧True)):=by kernel_rfl
theorem zui(m:Us)(k:Int):yke m k=(
 ∃(x:Nat),((0:Nat)=(0:Nat)∧List.length m=List.length m∧k+(↑x:Int)=k∧(↑x:Int)=(0:Int)∧m=m)∧x≤List.length m∧∀(z:Unit),True→k+(↑(List.length m):PmT [i64])=k+(↑(List.length m):Int)∧m=m):=by kernel_rfl
theorem zys(m:By)(u:Us)(pc:Int)(mo:Int)(su:Bool)(mx:Bool)(sa:Int)(tv:Int)(ep:Int)(em:Int)(ca:Int)(tl:Int)(s1:Int)(w1:Int)(m1:Es)(s2:Int)(w2:Int)(m2:Es)(s3:Int)(w3:Int)(m3:Es)(n:Int):ypy m u pc mo su mx sa tv ep em ca tl s1 w1 m1 s2 w2 m2 s3 w3 m3 n=(
 (List.length m=List.length m∧zb8 (List.length m) n)∧(List.length u=List.length u∧zb8 (List.length u) (n+(↑(List.length m):PmT [i64])))∧(List.length m1=List.length m1∧List.length m2=List.length m2∧List.length m3 =
 List.length m3∧zr2 ((s1,w1,m1),(s2,w2,m2),s3,w3,m3) (n+(↑(List.length m):PmT [i64])+(↑(List.length u):PmT [i64])))∧n+(↑(List.length m):Int)+(↑(List.length u):Int)+(6:Int)*(↑(List.length m1):Int)+(6 :
 Int)*(↑(List.length m2):Int)+(6:Int)*(↑(List.length m3):Int)=n+(↑(List.length m):PmT [i64])+(↑(List.length u):PmT [i64])+(6:PmT [i64])*(↑(List.length m1):PmT [i64])+(6:PmT [i64])*(↑(List.length m2):PmT
 [i64])+(6:PmT [i64])*(↑(List.length m3):PmT [i64])∧zcd n (List.length m)=zcd n (List.length m)∧zb5 (n+(↑(List.length m):Int)) (List.length u)=zb5 (n+(↑(List.length m):PmT [i64])) (List.length u)∧zan (n +
 (↑(List.length m):Int)+(↑(List.length u):Int)) (List.length m1)=zan (n+(↑(List.length m):PmT [i64])+(↑(List.length u):PmT [i64])) (List.length m1)∧zan (n+(↑(List.length m):Int)+(↑(List.length u):Int)+(6 :
 Int)*(↑(List.length m1):Int)) (List.length m2)=zan (n+(↑(List.length m):PmT [i64])+(↑(List.length u):PmT [i64])+(6:Int)*(↑(List.length m1):Int)) (List.length m2)∧zan (n+(↑(List.length m):Int) +
 (↑(List.length u):Int)+(6:Int)*(↑(List.length m1):Int)+(6:Int)*(↑(List.length m2):Int)) (List.length m3)=zan (n+(↑(List.length m):PmT [i64])+(↑(List.length u):PmT [i64])+(6:Int)*(↑(List.length m1):Int)
 + (6:Int)*(↑(List.length m2):Int)) (List.length m3)):=by kernel_rfl
theorem zyb(m:By)(u:Us)(pc:Int)(mo:Int)(su:Bool)(mx:Bool)(sa:Int)(tv:Int)(ep:Int)(em:Int)(ca:Int)(tl:Int)(s1:Int)(w1:Int)(m1:Es)(s2:Int)(w2:Int)(m2:Es)(s3:Int)(w3:Int)(m3:Es)(n:Int):ypm m u pc mo su mx sa tv ep em ca tl s1 w1 m1 s2 w2 m2 s3 w3 m3 n=(
 (List.length m=List.length m∧zb8 (List.length m) n∧m=zcd n (List.length m))∧(decide (n+(↑(List.length m):PmT [i64])<(0:Int))=true→n+(↑(List.length m):Int)+(↑(List.length u):Int)+(6:Int)*(↑(List.length
 m1):Int)+(6:Int)*(↑(List.length m2):Int)+(6:Int)*(↑(List.length m3):Int)=(-1:Int)∧m=m∧u=u∧m1=m1∧m2=m2∧m3=m3)∧(decide (n+(↑(List.length m):PmT [i64])<(0:Int))=false→(List.length u =
 List.length u∧zb8 (List.length u) (n+(↑(List.length m):PmT [i64]))∧u=zb5 (n+(↑(List.length m):PmT [i64])) (List.length u))∧(decide (n+(↑(List.length m):PmT [i64])+(↑(List.length u):PmT [i64])<(0:Int))=true
 → n+(↑(List.length m):Int)+(↑(List.length u):Int)+(6:Int)*(↑(List.length m1):Int)+(6:Int)*(↑(List.length m2):Int)+(6:Int)*(↑(List.length m3):Int)=(-1:Int)∧m=m∧u=u∧m1=m1∧m2=m2∧m3=m3) ∧
 (decide (n+(↑(List.length m):PmT [i64])+(↑(List.length u):PmT [i64])<(0:Int))=false→(List.length m1=List.length m1∧List.length m2=List.length m2∧List.length m3=List.length m3∧zr2 ((s1,w1,m1),(s2,w2,m2),
 s3,w3,m3) (n+(↑(List.length m):PmT [i64])+(↑(List.length u):PmT [i64]))∧((s1,w1,m1),(s2,w2,m2),s3,w3,m3)=((s1,w1,zan (n+(↑(List.length m):PmT [i64])+(↑(List.length u):PmT [i64])) (List.length m1)),(s2,
 w2,zan (n+(↑(List.length m):PmT [i64])+(↑(List.length u):PmT [i64])+(6:Int)*(↑(List.length m1):Int)) (List.length m2)),s3,w3,zan (n+(↑(List.length m):PmT [i64])+(↑(List.length u):PmT [i64])+(6:Int) *
 (↑(List.length m1):Int)+(6:Int)*(↑(List.length m2):Int)) (List.length m3)))∧(decide (n+(↑(List.length m):PmT [i64])+(↑(List.length u):PmT [i64])+(6:PmT [i64])*(↑(List.length m1):PmT [i64])+(6:PmT [i64]) *
 (↑(List.length m2):PmT [i64])+(6:PmT [i64])*(↑(List.length m3):PmT [i64])<(0:Int))=true→n+(↑(List.length m):Int)+(↑(List.length u):Int)+(6:Int)*(↑(List.length m1):Int)+(6:Int)*(↑(List.length m2) :
 Int)+(6:Int)*(↑(List.length m3):Int)=(-1:Int)∧m=m∧u=u∧m1=m1∧m2=m2∧m3=m3)∧(decide (n+(↑(List.length m):PmT [i64])+(↑(List.length u):PmT [i64])+(6:PmT [i64])*(↑(List.length m1):PmT [i64])+(6
 : PmT [i64])*(↑(List.length m2):PmT [i64])+(6:PmT [i64])*(↑(List.length m3):PmT [i64])<(0:Int))=false→n+(↑(List.length m):Int)+(↑(List.length u):Int)+(6:Int)*(↑(List.length m1):Int)+(6:Int) *
 (↑(List.length m2):Int)+(6:Int)*(↑(List.length m3):Int)=n+(↑(List.length m):PmT [i64])+(↑(List.length u):PmT [i64])+(6:PmT [i64])*(↑(List.length m1):PmT [i64])+(6:PmT [i64])*(↑(List.length m2):PmT [i64])
 + (6:PmT [i64])*(↑(List.length m3):PmT [i64])∧m=m∧u=u∧m1=m1∧m2=m2∧m3=m3)))):=by kernel_rfl
set_option linter.unusedSimpArgs false
set_option linter.unusedVariables false
theorem zg2(k:Int)(n:Nat):(zb5 k n).length=n:=by simp[zb5]
theorem yca(k:Int)(n:Nat):zb5 k (n+1)=zb5 k n++[k+n]:=by simp[zb5,List.range_succ]
theorem yhx(k:Int){n i:Nat}(h:i<n):(zb5 k n).getD i 0=k+i:=by
 unfold zb5
 rw[List.getD_eq_getElem?_getD,List.getElem?_map,List.getElem?_range h]
 rfl
theorem yh0:Sound Tryz.prog 106 (zo8 [usP,i64] [i64] (fun t=>some (zb8 t.1.length t.2)) (fun t=>((zb5 t.2 t.1.length,t.2),t.2+t.1.length))):=by
 refine zla mixed Tryz.func106 (by kernel_rfl) (b:=zak Tryz.f106 0) (k:=2) (by kernel_rfl) (by kernel_rfl) (by kernel_rfl) zcg (fun t h => ?_)
 obtain⟨m,k⟩:Us × Int:=t
 obtain⟨h,h1,h2⟩:zb8 m.length k:=h
 have hs:m.length≤2097152:=h
 refine⟨.one 2 (zmu m k),zmu m k,fun i:Nat=>m.length-i,za1 _ _,fun  (i:Nat) hi=>zae (zoh m k i) ?_,zae (zu1 m k) ?_⟩
 · have hi:i≤m.length:=hi
   refine⟨fun g => ?_,fun g => ?_⟩
   · have g:(i:Int)<m.length:=of_decide_eq_true g
     rw[zbn h (by omega),zac (n:=k+i+1) (by omega) (by omega),zah (n:=k+i) (by omega) (by omega),show 0+(i:Int).toNat=i by omega,yao _ _ _ (zg2 k i) (by omega)]
     exact⟨⟨by omega,by omega⟩,by simp[zg2];omega,i+1,⟨rfl,rfl,by omega,rfl,by rw[yca]⟩,by omega,by omega,fun _ _=>trivial⟩
   · have g:¬ (i:Int)<m.length:=of_decide_eq_false g
     have:i=m.length:=by omega
     subst this
     exact⟨(),⟨rfl,by simp⟩,trivial⟩
 · exact⟨0,⟨rfl,rfl,by simp,rfl,rfl⟩,by omega,fun _ _=>⟨rfl,rfl⟩⟩
theorem ygr:Sound Tryz.prog 109 (zad [usP,i64] [i64] (fun t=>some (zb8 t.1.length t.2∧t.1=zb5 t.2 t.1.length)) (fun t=>t.2+t.1.length)):=by
 refine zbf mixed Tryz.func109 (by kernel_rfl) (b:=zak Tryz.f109 0) (k:=2) (by kernel_rfl) (by kernel_rfl) (by kernel_rfl) zcg (fun t h => ?_)
 obtain⟨m,k⟩:Us × Int:=t
 obtain⟨⟨h,h1,h2⟩,h3⟩:zb8 m.length k∧m=zb5 k m.length:=h
 have hs:m.length≤2097152:=h
 refine⟨.one 2 (zme m k),zme m k,fun i:Nat=>m.length-i,za1 _ _,fun  (i:Nat) hi=>zae (zob m k i) ?_,zae (zui m k) ?_⟩
 · have hi:i≤m.length:=hi
   refine⟨fun g => ?_,fun g => ?_⟩
   · have g:(i:Int)<m.length:=of_decide_eq_true g
     have e:List.getD m i (El.zero [Ty.i IntKind.u64])=k+i:=by rw[h3];exact yhx k (by omega)
     rw[zbn h (by omega),zac (n:=k+i+1) (by omega) (by omega),zah (n:=k+i) (by omega) (by omega),show 0+(i:Int).toNat=i by omega,e]
     exact⟨⟨by omega,by omega⟩,by omega,fun e=>by simp at e,fun _=>⟨i+1,⟨rfl,rfl,by omega,rfl,rfl⟩,by omega,by omega,fun _ _=>trivial⟩⟩
   · have g:¬ (i:Int)<m.length:=of_decide_eq_false g
     have:i=m.length:=by omega
     subst this
     exact⟨(),⟨rfl,rfl⟩,trivial⟩
 · exact⟨0,⟨rfl,rfl,by simp,rfl,rfl⟩,by omega,fun _ _=>⟨rfl,rfl⟩⟩
theorem yuv:zar Tryz.prog kDD1 := .cons (by kernel_rfl) yh0 <| .cons (by kernel_rfl) ygr .nil
theorem yel:DictOk Tryz.prog FDD1:=zaw (((yuv.append zw7).append yah).append zd6) .nil .nil
theorem yn0:Sound Tryz.prog 54 (zo8 [haP,i64] [i64] (fun t=>some (SzH t.1∧InN t.2)) (fun t=>((zs7 t.1 t.2,t.2),zku t.1 t.2))):=by
 refine zi4 mixed Tryz.func54 (by kernel_rfl) (by kernel_rfl) yel (fun t h => ?_)
 obtain⟨⟨m,u,pc,mo,su,mx,sa,tv,ep,em,ca,tl,s1,w1,m1,s2,w2,m2,s3,w3,m3⟩,n⟩:Ha × Int:=t
 obtain⟨⟨h1,h2,h3,h4,h5⟩,h6,h7⟩:(SzR m.length∧SzR u.length∧SzR m1.length∧SzR m2.length∧SzR m3.length)∧0≤n∧n≤549755813888:=h
 have h1':m.length≤2097152:=h1
 have h2':u.length≤2097152:=h2
 have k1:zb8 m.length n:=⟨h1,h6,by omega⟩
 have k2:zb8 u.length (n+(m.length:Int)):=⟨h2,by omega,by omega⟩
 have k3:zr2 ((s1,w1,m1),(s2,w2,m2),(s3,w3,m3)) (n+(m.length:Int)+(u.length:Int)):=⟨⟨h3,h4,h5⟩,by omega,by omega⟩
 refine⟨.none,zae (zys m u pc mo su mx sa tv ep em ca tl s1 w1 m1 s2 w2 m2 s3 w3 m3 n) ?_⟩
 simp[k1,k2,k3]
theorem yni:Sound Tryz.prog 152 (zad [haP,i64] [i64] (fun t=>some ((SzH t.1∧InN t.2)∧t.1=zs7 t.1 t.2)) (fun t=>zku t.1 t.2)):=by
 refine zab mixed Tryz.func152 (by kernel_rfl) (by kernel_rfl) yel (fun t h => ?_)
 obtain⟨⟨m,u,pc,mo,su,mx,sa,tv,ep,em,ca,tl,s1,w1,m1,s2,w2,m2,s3,w3,m3⟩,n⟩:Ha × Int:=t
 obtain⟨⟨⟨h1,h2,h3,h4,h5⟩,h6,h7⟩,he⟩:((SzR m.length∧SzR u.length∧SzR m1.length∧SzR m2.length∧SzR m3.length)∧0≤n∧n≤549755813888)∧(m,u,pc,mo,su,mx,sa,tv,ep,em,ca,tl,s1,w1,m1,s2,w2,m2,s3,w3,m3)=zs7 (m,u,pc,mo,su,mx,sa,tv,ep,em,ca,tl,s1,w1,m1,s2,w2,m2,s3,w3,m3) n:=h
 have hm:m=zcd n m.length:=congrArg (fun t:Ha=>t.1) he
 have hu:u=zb5 (n+(m.length:Int)) u.length:=congrArg (fun t:Ha=>t.2.1) he
 have hc:((s1,w1,m1),(s2,w2,m2),(s3,w3,m3))=zs6 ((s1,w1,m1),(s2,w2,m2),(s3,w3,m3)) (n+(m.length:Int)+(u.length:Int)):=congrArg (fun t:Ha=>toC t.2.2.2.2.2.2.2.2.2.2.2.2) he
 have h1':m.length≤2097152:=h1
 have h2':u.length≤2097152:=h2
 have k1:zb8 m.length n:=⟨h1,h6,by omega⟩
 have k2:zb8 u.length (n+(m.length:Int)):=⟨h2,by omega,by omega⟩
 have k3:zr2 ((s1,w1,m1),(s2,w2,m2),(s3,w3,m3)) (n+(m.length:Int)+(u.length:Int)):=⟨⟨h3,h4,h5⟩,by omega,by omega⟩
 refine zae (zyb m u pc mo su mx sa tv ep em ca tl s1 w1 m1 s2 w2 m2 s3 w3 m3 n) ⟨⟨rfl,k1,hm⟩,fun q => ?_,fun _=>⟨⟨rfl,k2,hu⟩,fun q => ?_,fun _=>⟨⟨rfl,rfl,rfl,k3,hc⟩,fun q => ?_,fun _ => ?_⟩⟩⟩
 · exact absurd (show n+(m.length:Int)<0 from of_decide_eq_true q) (by omega)
 · exact absurd (show n+(m.length:Int)+(u.length:Int)<0 from of_decide_eq_true q) (by omega)
 · exact absurd (show n+(m.length:Int)+(u.length:Int)+6*(m1.length:Int)+6*(m2.length:Int)+6*(m3.length:Int)<0 from of_decide_eq_true q) (by omega)
 · repeat' apply And.intro
   all_goals rfl
theorem yg5:zar Tryz.prog kDD2 := .cons (by kernel_rfl) yn0 <| .cons (by kernel_rfl) yni .nil
end Go.Proofs.YtfiddfbagbaofaaGreat.V
