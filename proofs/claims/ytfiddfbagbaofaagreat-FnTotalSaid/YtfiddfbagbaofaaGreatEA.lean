/- The reference's step, its smallest parts. Conditions: those in each statement. -/
import Derived.Test.YtfiddfbagbaofaaGreatDC
import Derived.KernelRfl
namespace Go.Proofs.YtfiddfbagbaofaaGreat.V
open Go
def FEA:Dict:=mkD (kY1++kY0) [] []
def zcq(t:Tl)(k:Int):Tl:=(t.1,t.2.1,t.2.2.set (k % t.2.2.length).toNat zE)
def yks(m:By)(u:Us)(pc:Int)(mo:Int)(su:Bool)(mx:Bool)(sa:Int)(tv:Int)(ep:Int)(em:Int)(ca:Int)(tl:Int)(s1:Int)(w1:Int)(m1:Es)(s2:Int)(w2:Int)(m2:Es)(s3:Int)(w3:Int)(m3:Es):Prop:=zal Tryz.prog FEA .none Tryz.f160 [haP] [haP] (m,u,pc,mo,su,mx,sa,tv,ep,em,ca,tl,s1,w1,m1,s2,w2,m2,s3,w3,m3) (m,u,pc,mo,su,mx,sa,tv,ep,em,ca,tl,s1,w1,m1,s2,w2,m2,s3,w3,m3)
def ydg(s w:Int)(m:Es)(k:Int):Prop:=zal Tryz.prog FEA .none Tryz.f161 [tlP,i64] [tlP] ((s,w,m),k) (zcq (s,w,m) k)
def yo5(m:By)(u:Us)(pc:Int)(mo:Int)(su:Bool)(mx:Bool)(sa:Int)(tv:Int)(ep:Int)(em:Int)(ca:Int)(tl:Int)(s1:Int)(w1:Int)(m1:Es)(s2:Int)(w2:Int)(m2:Es)(s3:Int)(w3:Int)(m3:Es):Prop:=zal Tryz.prog FEA .none Tryz.f163 [haP] [zg4] (m,u,pc,mo,su,mx,sa,tv,ep,em,ca,tl,s1,w1,m1,s2,w2,m2,s3,w3,m3) (mo,su,mx,sa)
set_option linter.unusedVariables false
theorem zvc(m:By)(u:Us)(pc:Int)(mo:Int)(su:Bool)(mx:Bool)(sa:Int)(tv:Int)(ep:Int)(em:Int)(ca:Int)(tl:Int)(s1:Int)(w1:Int)(m1:Es)(s2:Int)(w2:Int)(m2:Es)(s3:Int)(w3:Int)(m3:Es):yks m u pc mo su mx sa tv ep em ca tl s1 w1 m1 s2 w2 m2 s3 w3 m3=(
 let A0:=List.length u;
 let A1:=List.length m;
 let A2(a b c:Prop):=a∧b∧c;
 let A3(a:Nat):=(0:Nat)+a;
 let A4(a:Es):=List.length a=List.length a;
 let A5(a b c d e:Prop):=A2 a b (A2 c d e);
 let A6:=(0:Nat)=0;
 let A7(a b:Nat):=A2 (A3 a≤a) ((0:Nat)≤0) (A3 b≤1073741824);
 let A8:=(List.take A0 (List.drop 0 u)).length;
 let A9:=(List.take A1 (List.drop 0 m)).length;
 let Aa(a b:Int)(c:Es):=(a,b,c);
 A2 (A7 A1 A9) (A7 A0 A8) (A5 (A4 m1∧A2 (A4 m2) (A4 m3) (SzC (Aa s1 w1 m1,Aa s2 w2 m2,Aa s3 w3 m3))) A6 (A1=A3 A9) A6 (A5 (A0=A3 A8) (pc=pc) (mo=mo) (su=su) (A5 (mx=mx) (sa=sa) (tv=tv) (ep=ep) (A5 (em=em) (ca=ca)
  (tl=tl) (s1=s1) (A5 (w1=w1) A6 (A4 m1) (s2=s2) (A5 (w2=w2) A6 (A4 m2) (s3=s3) (A5 (w3=w3) A6 (A4 m3) (m=m) (A5 (u=u) (m1=m1) (m2=m2) (m3=m3) (A5 (m=[]++List.take A1 (List.drop 0 m)) (u=[]++List.take
  A0 (List.drop 0 u)) (m1=m1) (m2=m2) (m3=m3))))))))))):=by kernel_rfl
theorem zr2(s w:Int)(m:Es)(k:Int):ydg s w m k=(
 (List.length m=List.length m∧SzR (List.length m))∧(↑(List.length m):Int)≠0∧((0:Int)≤k.tmod (↑(List.length m):Int)∧k.tmod (↑(List.length m):Int)<(↑(List.length m):Int))∧0+(k.tmod (↑(List.length
 m):Int)).toNat<List.length m∧s=s∧w=w∧(0:Nat)=0∧(List.set m (k % (↑(List.length m):Int)).toNat zE).length=List.length m∧m=m∧List.set m (k % (↑(List.length m):Int)).toNat zE=List.set m ((0:Nat) +
 (k.tmod (↑(List.length m):Int)).toNat) (false,0,0,0,false,0)):=by kernel_rfl
theorem zyn(m:By)(u:Us)(pc:Int)(mo:Int)(su:Bool)(mx:Bool)(sa:Int)(tv:Int)(ep:Int)(em:Int)(ca:Int)(tl:Int)(s1:Int)(w1:Int)(m1:Es)(s2:Int)(w2:Int)(m2:Es)(s3:Int)(w3:Int)(m3:Es):yo5 m u pc mo su mx sa tv ep em ca tl s1 w1 m1 s2 w2 m2 s3 w3 m3=(
 mo=mo∧su=su∧mx=mx∧sa=sa∧m=m∧u=u∧m1=m1∧m2=m2∧m3=m3):=by kernel_rfl
set_option linter.unusedSimpArgs false
set_option linter.unusedVariables false
theorem yei:DictOk Tryz.prog FEA:=zay (yq1.append yq0) .nil .nil
theorem yhj:Sound Tryz.prog 160 (zai [haP] [haP] (fun h=>some (SzH h)) (fun h=>h)):=by
 refine zad mixed Tryz.func160 (by kernel_rfl) (by kernel_rfl) yei (fun t h => ?_)
 obtain⟨m,u,pc,mo,su,mx,sa,tv,ep,em,ca,tl,s1,w1,m1,s2,w2,m2,s3,w3,m3⟩:Ha:=t
 obtain⟨h1,h2,h3,h4,h5⟩:SzR m.length∧SzR u.length∧SzR m1.length∧SzR m2.length∧SzR m3.length:=h
 have k1:m.length≤1073741824:=Nat.le_trans h1 (by decide)
 have k2:u.length≤1073741824:=Nat.le_trans h2 (by decide)
 have k3:SzC ((s1,w1,m1),(s2,w2,m2),(s3,w3,m3)):=⟨h3,h4,h5⟩
 refine zab (zvc m u pc mo su mx sa tv ep em ca tl s1 w1 m1 s2 w2 m2 s3 w3 m3) ?_
 conv=>zeta
 exact (by simp[k1,k2,k3])
theorem yb7:Sound Tryz.prog 161 (zai [tlP,i64] [tlP] (fun t=>some (SzR t.1.2.2.length∧1≤t.1.2.2.length∧0≤t.2)) (fun t=>zcq t.1 t.2)):=by
 refine zad mixed Tryz.func161 (by kernel_rfl) (by kernel_rfl) yei (fun t h => ?_)
 obtain⟨⟨s,w,m⟩,k⟩:Tl × Int:=t
 obtain⟨h1,h2,h3⟩:SzR m.length∧1≤m.length∧0≤k:=h
 have e:k.tmod (m.length:Int)=k % (m.length:Int):=Int.tmod_eq_emod_of_nonneg h3
 have e0:0≤k % (m.length:Int):=Int.emod_nonneg _ (by omega)
 have e1:k % (m.length:Int)<(m.length:Int):=Int.emod_lt_of_pos _ (by omega)
 refine zab (zr2 s w m k) ?_
 rw[e,Nat.zero_add,List.length_set]
 refine⟨⟨rfl,h1⟩,by omega,⟨e0,e1⟩,by omega, ?_⟩
 repeat' apply And.intro
 all_goals rfl
theorem ynf:Sound Tryz.prog 163 (zai [haP] [zg4] (fun _=>none) (fun h=>(h.2.2.2.1,h.2.2.2.2.1,h.2.2.2.2.2.1,h.2.2.2.2.2.2.1))):=by
 refine zad mixed Tryz.func163 (by kernel_rfl) (by kernel_rfl) yei (fun t _ => ?_)
 obtain⟨m,u,pc,mo,su,mx,sa,tv,ep,em,ca,tl,s1,w1,m1,s2,w2,m2,s3,w3,m3⟩:Ha:=t
 exact zab (zyn m u pc mo su mx sa tv ep em ca tl s1 w1 m1 s2 w2 m2 s3 w3 m3) (by simp)
end Go.Proofs.YtfiddfbagbaofaaGreat.V
