/- StepHart's law. Conditions: those in each statement. -/
import Derived.Test.YtfiddfbagbaofaaGreatIG
import Derived.Test.YtfiddfbagbaofaaGreatDD
import Derived.KernelRfl
namespace Go.Proofs.YtfiddfbagbaofaaGreat.V
open Go
-- flat
def yq4(t:Sr):Prop:=SzH t.2.2.2
def zo6(t:Sr)(n:Int):Sr:=(t.1,t.2.1,t.2.2.1,zs7 t.2.2.2 n)
def FIH1:Dict:=mkD (kDD2++kHA2) [] []
def ywz(ok:Bool)(cs tw:Int)(m:By)(u:Us)(pc:Int)(mo:Int)(su:Bool)(mx:Bool)(sa:Int)(tv:Int)(ep:Int)(em:Int)(ca:Int)(tl:Int)(s1:Int)(w1:Int)(m1:Es)(s2:Int)(w2:Int)(m2:Es)(s3:Int)(w3:Int)(m3:Es):Prop:=zag Tryz.prog FIH1 .none Tryz.f52 [srP,srP] [bl] ((ok,cs,tw,m,u,pc,mo,su,mx,sa,tv,ep,em,ca,tl,s1,w1,m1,s2,w2,m2,s3,w3,m3),(ok,cs,tw,m,u,pc,mo,su,mx,sa,tv,ep,em,ca,tl,s1,w1,m1,s2,w2,m2,s3,w3,m3)) true
def ykv(ok:Bool)(cs tw:Int)(m:By)(u:Us)(pc:Int)(mo:Int)(su:Bool)(mx:Bool)(sa:Int)(tv:Int)(ep:Int)(em:Int)(ca:Int)(tl:Int)(s1:Int)(w1:Int)(m1:Es)(s2:Int)(w2:Int)(m2:Es)(s3:Int)(w3:Int)(m3:Es)(n:Int):Prop:=zkc Tryz.prog FIH1 .none Tryz.f55 [srP,i64] [i64] ((ok,cs,tw,m,u,pc,mo,su,mx,sa,tv,ep,em,ca,tl,s1,w1,m1,s2,w2,m2,s3,w3,m3),n) ((zo6 (ok,cs,tw,m,u,pc,mo,su,mx,sa,tv,ep,em,ca,tl,s1,w1,m1,s2,w2,m2,s3,w3,m3) n,n),zku (m,u,pc,mo,su,mx,sa,tv,ep,em,ca,tl,s1,w1,m1,s2,w2,m2,s3,w3,m3) n)
def ykd(ok:Bool)(cs tw:Int)(m:By)(u:Us)(pc:Int)(mo:Int)(su:Bool)(mx:Bool)(sa:Int)(tv:Int)(ep:Int)(em:Int)(ca:Int)(tl:Int)(s1:Int)(w1:Int)(m1:Es)(s2:Int)(w2:Int)(m2:Es)(s3:Int)(w3:Int)(m3:Es)(n:Int):Prop:=zag Tryz.prog FIH1 .none Tryz.f56 [srP,i64] [i64] ((ok,cs,tw,m,u,pc,mo,su,mx,sa,tv,ep,em,ca,tl,s1,w1,m1,s2,w2,m2,s3,w3,m3),n) (zku (m,u,pc,mo,su,mx,sa,tv,ep,em,ca,tl,s1,w1,m1,s2,w2,m2,s3,w3,m3) n)
def kIH1:Known:=[
 (52,zad [srP,srP] [bl] (fun t=>some (t.1=t.2∧yq4 t.1)) (fun _=>true)),
 (55,zo8 [srP,i64] [i64] (fun t=>some (yq4 t.1∧InN t.2)) (fun t=>((zo6 t.1 t.2,t.2),zku t.1.2.2.2 t.2))),
 (56,zad [srP,i64] [i64] (fun t=>some ((yq4 t.1∧InN t.2)∧t.1=zo6 t.1 t.2)) (fun t=>zku t.1.2.2.2 t.2)),
 (51,zad [haP,bl,i64] [srP] (fun t=>some (HaR t.1∧I64 t.2.2)) (fun t=>zaa t.1 t.2.1 t.2.2)),
 (49,zad [haP,bl,i64] [srP] (fun t=>some (HaR t.1∧I64 t.2.2)) (fun t=>zaa t.1 t.2.1 t.2.2))]
def FIH2:Dict:=mkD (kIH1++kDD2++kHA2) [] []
def zyo(m:By)(u:Us)(pc:Int)(mo:Int)(su:Bool)(mx:Bool)(sa:Int)(tv:Int)(ep:Int)(em:Int)(ca:Int)(tl:Int)(s1:Int)(w1:Int)(m1:Es)(s2:Int)(w2:Int)(m2:Es)(s3:Int)(w3:Int)(m3:Es)(pl:Bool)(pk:Int):Prop:=zag Tryz.prog FIH2 .none Tryz.f11 [haP,bl,i64] [bl] ((m,u,pc,mo,su,mx,sa,tv,ep,em,ca,tl,s1,w1,m1,s2,w2,m2,s3,w3,m3),pl,pk) true
set_option linter.unusedVariables false
set_option maxRecDepth 10000
theorem yc9(ok:Bool)(cs tw:Int)(m:By)(u:Us)(pc:Int)(mo:Int)(su:Bool)(mx:Bool)(sa:Int)(tv:Int)(ep:Int)(em:Int)(ca:Int)(tl:Int)(s1:Int)(w1:Int)(m1:Es)(s2:Int)(w2:Int)(m2:Es)(s3:Int)(w3:Int)(m3:Es):ywz ok cs tw m u pc mo su mx sa tv ep em ca tl s1 w1 m1 s2 w2 m2 s3 w3 m3=(
 let A0:=List.length u;
 let A1:=List.length m;
 let A2(a:Es):=List.length a=List.length a;
 let A3(a b c d e:Prop):=a∧b∧c∧d∧e;
 let A4(a b:Prop):=a→b∧m=m∧A3 (u=u) (m1=m1) (m2=m2) (m3=m3) (A3 (m=m) (u=u) (m1=m1) (m2=m2) (m3=m3));
 let A5(a:Prop)(b:Int)(c:Prop):=a→A4 ((b != b)=true) (true=false)∧c;
 let A6(a:Bool):=A4 ((!a)=true) (true=false);
 let A7:=(m,u,pc,mo,su,mx,sa,tv,ep,em,ca,tl,s1,w1,m1,s2,w2,m2,s3,w3,m3);
 let A8(a b:Int)(c:Es):=(a,b,c);
 A6 (ok==ok)∧A5 ((!ok==ok)=false) cs (A5 ((cs != cs)=false) tw ((tw != tw)=false→(A1=A1∧A3 (A0=A0) (A2 m1) (A2 m2) (A2 m3) (A3 (A1=A1) (A0=A0) (A2 m1) (A2 m2) (A3 (A2 m3) (A7=A7) (SzR A1) (SzR A0) (SzC (A8 s1 w1 m1,
  A8 s2 w2 m2,A8 s3 w3 m3)))))∧A6 true∧A4 ((!true)=false) (true=true)))):=by kernel_rfl
theorem zu0(ok:Bool)(cs tw:Int)(m:By)(u:Us)(pc:Int)(mo:Int)(su:Bool)(mx:Bool)(sa:Int)(tv:Int)(ep:Int)(em:Int)(ca:Int)(tl:Int)(s1:Int)(w1:Int)(m1:Es)(s2:Int)(w2:Int)(m2:Es)(s3:Int)(w3:Int)(m3:Es)(n:Int):ykv ok cs tw m u pc mo su mx sa tv ep em ca tl s1 w1 m1 s2 w2 m2 s3 w3 m3 n=(
 (List.length m=List.length m∧List.length u=List.length u∧List.length m1=List.length m1∧List.length m2=List.length m2∧List.length m3=List.length m3∧(SzR (List.length m)∧SzR (List.length u)∧SzC ((s1,w1,m1),(s2,w2,
 m2),s3,w3,m3))∧InN n)∧n+(↑(List.length m):Int)+(↑(List.length u):Int)+(6:Int)*(↑(List.length m1):Int)+(6:Int)*(↑(List.length m2):Int)+(6:Int)*(↑(List.length m3):Int)=n+(↑(List.length m):Int) +
 (↑(List.length u):Int)+(6:Int)*(↑(List.length m1):Int)+(6:Int)*(↑(List.length m2):Int)+(6:Int)*(↑(List.length m3):Int)∧zcd n (List.length m)=zcd n (List.length m)∧zb5 (n+(↑(List.length m):Int))
 (List.length u)=zb5 (n+(↑(List.length m):Int)) (List.length u)∧zan (n+(↑(List.length m):Int)+(↑(List.length u):Int)) (List.length m1)=zan (n+(↑(List.length m):Int)+(↑(List.length u):Int)) (List.length m1) ∧
 zan (n+(↑(List.length m):Int)+(↑(List.length u):Int)+(6:Int)*(↑(List.length m1):Int)) (List.length m2)=zan (n+(↑(List.length m):Int)+(↑(List.length u):Int)+(6:Int)*(↑(List.length m1):Int))
 (List.length m2)∧zan (n+(↑(List.length m):Int)+(↑(List.length u):Int)+(6:Int)*(↑(List.length m1):Int)+(6:Int)*(↑(List.length m2):Int)) (List.length m3)=zan (n+(↑(List.length m):Int)+(↑(List.length u)
 : Int)+(6:Int)*(↑(List.length m1):Int)+(6:Int)*(↑(List.length m2):Int)) (List.length m3)):=by kernel_rfl
theorem zuh(ok:Bool)(cs tw:Int)(m:By)(u:Us)(pc:Int)(mo:Int)(su:Bool)(mx:Bool)(sa:Int)(tv:Int)(ep:Int)(em:Int)(ca:Int)(tl:Int)(s1:Int)(w1:Int)(m1:Es)(s2:Int)(w2:Int)(m2:Es)(s3:Int)(w3:Int)(m3:Es)(n:Int):ykd ok cs tw m u pc mo su mx sa tv ep em ca tl s1 w1 m1 s2 w2 m2 s3 w3 m3 n=(
 let A0:=List.length u;
 let A1(a:Int)(b:Es):=a+(6:Int)*(↑(List.length b):Int);
 let A2(a:Int)(b:Es):=zan a (List.length b);
 let A3:=n+(↑(List.length m):Int);
 let A4:=List.length m;
 let A5:=A3+(↑A0:Int);
 let A6(a:Es):=List.length a=List.length a;
 let A7:=A1 (A1 (A1 A5 m1) m2) m3;
 let A8(a b c:Prop):=a∧b∧c;
 let A9(a b:Int)(c:Es):=(a,b,c);
 let Aa(a:Bool)(b:Int):=decide (A7<(0:Int))=a→A7=b∧A8 (m=m) (u=u) (A8 (m1=m1) (m2=m2) (m3=m3));
 A8 (A8 (A4=A4) (A0=A0) (A8 (A6 m1) (A6 m2) (A8 (List.length m3=List.length m3) (A8 (SzR A4) (SzR A0) (SzC (A9 s1 w1 m1,A9 s2 w2 m2,A9 s3 w3 m3))∧InN n) ((m,u,pc,mo,su,mx,sa,tv,ep,em,ca,tl,s1,w1,m1,s2,w2,m2,s3,
  w3,m3)=(zcd n A4,zb5 A3 A0,pc,mo,su,mx,sa,tv,ep,em,ca,tl,s1,w1,A2 A5 m1,s2,w2,A2 (A1 A5 m1) m2,A9 s3 w3 (A2 (A1 (A1 A5 m1) m2) m3)))))) (Aa true (-(1:Int))) (Aa false A7)):=by kernel_rfl
theorem zoe(m:By)(u:Us)(pc:Int)(mo:Int)(su:Bool)(mx:Bool)(sa:Int)(tv:Int)(ep:Int)(em:Int)(ca:Int)(tl:Int)(s1:Int)(w1:Int)(m1:Es)(s2:Int)(w2:Int)(m2:Es)(s3:Int)(w3:Int)(m3:Es)(pl:Bool)(pk:Int):zyo m u pc mo su mx sa tv ep em ca tl s1 w1 m1 s2 w2 m2 s3 w3 m3 pl pk=(
 let A0:=(m,u,pc,mo,su,mx,sa,tv,ep,em,ca,tl,s1,w1,m1,s2,w2,m2,s3,w3,m3);
 let A1:=(zaa A0 pl pk).snd;
 let A2:=A1.snd.snd.snd.snd.snd.snd;
 let A3:=A2.snd.snd.snd.snd.snd.snd.snd.snd;
 let A4:=A3.snd.snd;
 let A5(a:Int)(b:Nat):=a+(↑b:Int);
 let A6(a:Nat)(b:Es):=a=List.length b;
 let A7(a:Es):=A6 (List.length a) a;
 let A8(a:Nat):=A5 (1:Int) a;
 let A9:=List.length u;
 let Aa:=List.length m;
 let Ab:=List.length A1.snd.snd.fst;
 let Ac:=A4.snd.snd.snd;
 let Ad:=Ac.snd;
 let Ae(a:Int)(b:Nat):=List.length (zan a b);
 let Af:=List.length A1.snd.snd.snd.fst;
 let Ah(a b c:Prop):=a∧b∧c;
 let Ai(a b c d e:Prop):=Ah a b (Ah c d e);
 let Aj(a:Int)(b:Nat):=a+(6:Int)*(↑b:Int);
 let Ak:=A5 (A8 Ab) Af;
 let Al(a:Nat):=a≤(9223372036854775807:Nat);
 let Am:=List.length A4.fst;
 let An(a b:Int)(c:Es):=(a,b,c);
 let Ao(a b c d e f g:Prop):=Ah a b (Ai c d e f g);
 let Ap:=Aj Ak Am;
 let Aq:=List.length Ac.fst;
 let Ar(a b:Int)(c:Nat):=Aj a (Ae b c);
 let Au:=List.length Ad.snd.snd;
 let Aw(a b c d e f:Prop):=a∧Ai b c d e f;
 let Ax:=List.length (zcd (1:Int) Ab);
 let Ay:=Aj Ap Aq;
 let Az:=(zb5 (A8 Ab) Af).length;
 let AB(a:Es):=Al (List.length a);
 let AC:=true=false;
 let AD(a b c:Prop):=Aa=Aa∧Ao (A9=A9) (A7 m1) (A7 m2) (A7 m3) a b c;
 let AE:=A5 (A8 Ax) Az;
 let AF:=zaa A0 pl pk;
 let AG:=InN (1:Int);
 let AH:=A3.fst;
 let AI:=A3.snd.fst;
 let AJ:=A4.snd.fst;
 let AK:=A4.snd.snd.fst;
 let AL(a:Nat)(b c d e:Prop):=Ai (a=a) b c d e;
 let AM(a:Bool)(b:Prop):=a=false→b;
 let AN:=SzC ((AH,AI,A4.fst),(AJ,AK,Ac.fst),Ad);
 let AO(a:Bool)(b:Prop):=a=true→Aw b (m=m) (u=u) (m1=m1) (m2=m2) (m3=m3);
 let AP:=SzC (An s1 w1 m1,An s2 w2 m2,An s3 w3 m3);
 let AQ:=Ar (Ar (Ar AE Ak Am) Ap Aq) Ay Au != Aj Ay Au;
 let AR:=A1.snd.snd.snd.snd.fst;
 let AS:=A1.snd.snd.snd.snd.snd.fst;
 let AT:=Aw (Ab=Ab) (Af=Af) (Am=Am) (Aq=Aq) (Au=Au) (AL Ab (Af=Af) (Am=Am) (Aq=Aq) (AL Au (AF=AF) (SzR Ab) (SzR Af) AN));
 let AU:=A2.snd.snd.snd.snd.fst;
 let AV:=A2.snd.snd.fst;
 let AW:=A2.snd.snd.snd.fst;
 let AX(a:Int)(b:Nat):=(Ad.fst,Ad.snd.fst,zan a b);
 let AY:=A2.snd.snd.snd.snd.snd.fst;
 let AZ:=A2.snd.snd.snd.snd.snd.snd.fst;
 let A157:=A2.snd.snd.snd.snd.snd.snd.snd.fst;
 let A158:=Ar AE Ak Am;
 let A159(a b c:Prop):=Ah a (AO (!true) AC) (AM (!true) (b∧c));
 let A160:=AD (SzR Aa) (SzR A9) (SzC (An s1 w1 m1,An s2 w2 m2,An s3 w3 m3));
 let A161:=AD (HaR A0) ((-(9223372036854775808:Int))≤pk) (pk<(9223372036854775808:Int));
 Ah (AD (Ai (Al Aa) (Al A9) (AB m1) (AB m2) (AB m3)) ((0:PmT [i64])≤(1048576:Int)) ((1048576:Int)≤(1048576:PmT [i64]))) (AO (decide ((szH Aa A9 (An s1 w1 m1,An s2 w2 m2,An s3 w3 m3) (1048576:Int))<(0:Int))) (true=true))
  (AM (decide ((szH Aa A9 (An s1 w1 m1,An s2 w2 m2,An s3 w3 m3) (1048576:Int))<(0:Int))) (Ao A160 A161 A160 A161 AT (AO (!true) AC) (AM (!true) (A160∧A159 (Aw (Aa=Aa) (A9=A9) (A7 m1) (A7 m2) (A7 m3) (AL Aa (A9=A9) (A7 m1) (A7
  m2) (Ai (A7 m3) (A0=A0) (SzR Aa) (SzR A9) AP))) (Ao (Aa=Aa) (A9=A9) (A7 m1) (A7 m2) (A7 m3) (Ah (SzR Aa) (SzR A9) AP) AG) (A159 ((!false)=true→Aw (Ab=Ab) (Af=Af) (Am=Am) (Aq=Aq) (Au=Au) (AL Ab (Af=Af) (Am=Am) (Aq =
  Aq) (AL Au (AF=AF) (SzR Ab) (SzR Af) AN))) (Ao (Ab=Ab) (Af=Af) (Am=Am) (Aq=Aq) (Au=Au) (Ah (SzR Ab) (SzR Af) AN) AG) (Ah (Ao (Ab=Ax) (Af=Az) (A6 Am (zan Ak Am)) (A6 Aq (zan Ap Aq)) (A6 Au (zan Ay Au)) (Ah (SzR Ax)
  (SzR Az) (SzC ((AH,AI,zan Ak Am),(AJ,AK,zan Ap Aq),AX Ay Au))∧AG) ((AF.fst,A1.fst,A1.snd.fst,zcd (1:Int) Ab,zb5 (A8 Ab) Af,AR,AS,A2.fst,A2.snd.fst,AV,AW,AU,AY,AZ,A157,AH,AI,zan Ak Am,AJ,AK,zan
  Ap Aq,Ad.fst,Ad.snd.fst,zan Ay Au)=(AF.fst,A1.fst,A1.snd.fst,zcd (1:Int) Ax,zb5 (A8 Ax) Az,AR,AS,A2.fst,A2.snd.fst,AV,AW,AU,AY,AZ,A157,AH,AI,zan AE (Ae Ak Am),AJ,AK,zan A158 (Ae Ap Aq),AX (Ar A158 Ap
  Aq) (Ae Ay Au)))) (AO false AC) (AM false (AO AQ AC∧AM AQ (Ai A160 A161 AT (AO (!true) AC) ((!true)=false→Aw (true=true) (m=m) (u=u) (m1=m1) (m2=m2) (m3=m3)))))))))))):=by kernel_rfl
set_option linter.unusedSimpArgs false
set_option linter.unusedVariables false
theorem ybo:Sound Tryz.prog 202 (zad [usP] [usP] (fun u=>some (SzR u.length)) (fun u=>u)):=by
 refine zab mixed Tryz.func202 (by kernel_rfl) (by kernel_rfl) (zaw .nil .nil .nil) (fun  (u:Us) h => ?_)
 have h:SzR u.length:=h
 unfold SzR at h
 refine zae (zrc u) ⟨fun g=>⟨rfl,g,rfl,List.length_eq_zero_iff.1 g⟩,⟨by omega,by omega,by simp;omega⟩,rfl,by simp,rfl,by simp⟩
theorem yu7:zar Tryz.prog kIF0 := .cons (by kernel_rfl) zzx (.cons (by kernel_rfl) ybo (.cons (by kernel_rfl) zse .nil))
theorem ygm:Sound Tryz.prog 149 (zad [haP] [haP] (fun h=>some (SzH h)) (fun h=>h)):=by
 refine zab mixed Tryz.func149 (by kernel_rfl) (by kernel_rfl) (zaw yu7 .nil .nil) (fun t h => ?_)
 obtain⟨m,u,pc,mo,su,mx,sa,tv,ep,em,ca,tl,s1,w1,m1,s2,w2,m2,s3,w3,m3⟩:Ha:=t
 obtain⟨h1,h2,h3,h4,h5⟩:SzR m.length∧SzR u.length∧SzR m1.length∧SzR m2.length∧SzR m3.length:=h
 exact zae (zue m u pc mo su mx sa tv ep em ca tl s1 w1 m1 s2 w2 m2 s3 w3 m3) (by simp[h1,h2,h3,h4,h5])
theorem yu8:zar Tryz.prog kIF1 := .cons (by kernel_rfl) yae (.cons (by kernel_rfl) ya3 (.cons (by kernel_rfl) ygm (.cons (by kernel_rfl) (zel yaj1) (.cons (by kernel_rfl) yhm .nil))))
theorem yes:DictOk Tryz.prog yto:=zaw yu8 (.cons (by kernel_rfl) (fun k=>zel (mk_ok (mkN k))) .nil) .nil
theorem yr7(h:Ha)(pk:Int):(bif bif !zea h then true else decide (pk<0) then true else decide (pk>255)) = !yn7 h pk:=by
 unfold yn7
 cases zea h<;>by_cases a:pk<0<;>by_cases b:pk>255<;>simp[a,b]<;>omega
theorem yjl{h:Ha}(hv:zea h=true):h.2.1.length=8∧h.2.1.getD 0 0=0∧(0≤h.2.2.2.1∧h.2.2.2.1≤2)∧(0≤h.2.2.2.2.2.2.2.2.2.1∧h.2.2.2.2.2.2.2.2.2.1≤2)∧zbr (toC h.2.2.2.2.2.2.2.2.2.2.2.2)=true:=by
 unfold zea at hv
 simp only[Bool.and_eq_true,decide_eq_true_eq,beq_iff_eq] at hv
 obtain⟨⟨⟨⟨⟨⟨⟨⟨⟨⟨⟨⟨⟨-, -⟩, -⟩,a4⟩,a5⟩,a6⟩,a7⟩,a8⟩,a9⟩, -⟩, -⟩, -⟩, -⟩,a14⟩:=hv
 exact⟨by omega,a5,⟨a6,a7⟩,⟨a8,a9⟩,a14⟩
theorem yh9{h:Ha}{pk:Int}(hr:HaR h)(hk:yn7 h pk=true):HaV h∧(Rn.ofH h).u.getD 0 0=0∧0≤pk∧pk≤255:=by
 unfold yn7 at hk
 simp only[Bool.and_eq_true,decide_eq_true_eq] at hk
 obtain⟨⟨a,b⟩,c⟩:=hk
 obtain⟨v1,v2,v3,v4,v5⟩:=yjl a
 exact⟨⟨hr,v1,v5,v3,v4⟩,v2,b,c⟩
theorem yri{h:Ha}(hr:HaR h):SzH h:=⟨hr.1.1,hr.2.1,hr.2.2.2.2.2.2.2.2.2.2.2.1.2.2.1,hr.2.2.2.2.2.2.2.2.2.2.2.2.1.2.2.1,hr.2.2.2.2.2.2.2.2.2.2.2.2.2.2.2.1⟩
theorem yo2{h:Ha}{pl:Bool}{pk:Int}(hr:HaR h):yq4 (zaa h pl pk):=by
 unfold zaa
 split
 · rename_i q
   obtain⟨v, -,p0,p1⟩:=yh9 hr q
   exact yri (v.next p0 p1 pl).1
 · exact⟨Nat.zero_le _,Nat.zero_le _,Nat.zero_le _,Nat.zero_le _,Nat.zero_le _⟩
theorem yip{M:Tm}{pl:Bool}{pk:Int}(T:Tel M pl pk){r:Rn}(h:Run pl pk r):zh4 M (r.hp r.pc) r.c:=by
 obtain⟨⟨a1,a2,a3,a4,a5,a6,a7,a8,a9,a10,a11,a12⟩,hl, -⟩:=h.R
 exact⟨⟨a1,hl,a3,a4,h.V.2.1,a6,a7,a8,h.V.2.2.1,a10,a11⟩,a6,h.V.2.1.1,h.V.2.1.2,0,T.inv 3 h.R h.V h.pl h.pk⟩
theorem zz5(h:Ha)(pk:Int):((Rn.ofH h).first false pk).hp ((Rn.ofH h).first false pk).pc={ ((Rn.ofH h).hp (Rn.ofH h).pc) with k:=evK (toC (Rn.ofH h).k) pk }∧((Rn.ofH h).first false pk).c=(Rn.ofH h).c:=by
 unfold evK Rn.first
 by_cases q:pk≥128
 · rw[if_pos q,if_pos (by simp[q])];exact⟨rfl,rfl⟩
 · rw[if_neg q,if_neg (by simp[q])];exact⟨rfl,rfl⟩
theorem zz6(h:Ha)(pk:Int):((Rn.ofH h).first true pk).hp ((Rn.ofH h).first true pk).pc=(Rn.ofH h).hp (Rn.ofH h).pc∧((Rn.ofH h).first true pk).c=(Rn.ofH h).c:=by
 unfold Rn.first
 rw[if_neg (by simp)]
 exact⟨rfl,rfl⟩
theorem ygx:Sound Tryz.prog 51 (zad [haP,bl,i64] [srP] (fun t=>some (HaR t.1∧I64 t.2.2)) (fun t=>zaa t.1 t.2.1 t.2.2)):=by
 refine zab mixed Tryz.func51 (by kernel_rfl) (by kernel_rfl) yes (fun t h => ?_)
 obtain⟨⟨m,u,pc,mo,su,mx,sa,tv,ep,em,ca,tl,s1,w1,m1,s2,w2,m2,s3,w3,m3⟩,pl,pk⟩:Ha × Bool × Int:=t
 obtain⟨hr,hI⟩:HaR (m,u,pc,mo,su,mx,sa,tv,ep,em,ca,tl,s1,w1,m1,s2,w2,m2,s3,w3,m3)∧I64 pk:=h
 have hb:=yr7 (m,u,pc,mo,su,mx,sa,tv,ep,em,ca,tl,s1,w1,m1,s2,w2,m2,s3,w3,m3) pk
 by_cases q:yn7 (m,u,pc,mo,su,mx,sa,tv,ep,em,ca,tl,s1,w1,m1,s2,w2,m2,s3,w3,m3) pk=true
 · obtain⟨v,hu,p0,p1⟩:=yh9 hr q
   have hm:zaa (m,u,pc,mo,su,mx,sa,tv,ep,em,ca,tl,s1,w1,m1,s2,w2,m2,s3,w3,m3) pl pk=(true,(zck (Rn.ofH (m,u,pc,mo,su,mx,sa,tv,ep,em,ca,tl,s1,w1,m1,s2,w2,m2,s3,w3,m3)) pl pk).cs,(zck (Rn.ofH (m,u,pc,mo,su,mx,sa,tv,ep,em,ca,tl,s1,w1,m1,s2,w2,m2,s3,w3,m3)) pl pk).tw,(zck (Rn.ofH (m,u,pc,mo,su,mx,sa,tv,ep,em,ca,tl,s1,w1,m1,s2,w2,m2,s3,w3,m3)) pl pk).h):=if_pos q
   show zag Tryz.prog yto .none Tryz.f51 [haP,bl,i64] [srP] ((m,u,pc,mo,su,mx,sa,tv,ep,em,ca,tl,s1,w1,m1,s2,w2,m2,s3,w3,m3),pl,pk) (zaa (m,u,pc,mo,su,mx,sa,tv,ep,em,ca,tl,s1,w1,m1,s2,w2,m2,s3,w3,m3) pl pk)
   rw[hm]
   rw[q] at hb
   have hca:CaR (Hn.mk m u pc mo su mx sa tv ep em ca tl ((s1,w1,m1),(s2,w2,m2),s3,w3,m3) [] []) pk:=by
    obtain⟨g1,g2,g3⟩:=zdu.1 v.2.2.1
    have l1:=zf0 g1
    have l2:=zf0 g2
    have l3:=zf0 g3
    exact⟨p0,p1,⟨l1.1,Nat.le_trans l1.2 (by decide)⟩,⟨l2.1,Nat.le_trans l2.2 (by decide)⟩,⟨l3.1,Nat.le_trans l3.2 (by decide)⟩⟩
   have hsz:=yri hr
   refine zae (zks m u pc mo su mx sa tv ep em ca tl s1 w1 m1 s2 w2 m2 s3 w3 m3 pl pk true (zck (Rn.ofH (m,u,pc,mo,su,mx,sa,tv,ep,em,ca,tl,s1,w1,m1,s2,w2,m2,s3,w3,m3)) pl pk).cs (zck (Rn.ofH (m,u,pc,mo,su,mx,sa,tv,ep,em,ca,tl,s1,w1,m1,s2,w2,m2,s3,w3,m3)) pl pk).tw (zck (Rn.ofH (m,u,pc,mo,su,mx,sa,tv,ep,em,ca,tl,s1,w1,m1,s2,w2,m2,s3,w3,m3)) pl pk)) ?_
   conv=>zeta
   refine⟨⟨rfl,rfl,rfl,rfl,rfl,hr⟩,fun c => ?_,fun _=>⟨⟨rfl,rfl,rfl,rfl,rfl,hsz⟩, ?_,fun c => ?_,fun c => ?_⟩⟩
   · rw[hb] at c;cases c
   · cases pl with
     | false=>exact .inl ⟨rfl,rfl,hca⟩
     | true=>exact .inr ⟨rfl,rfl,hca⟩
   · obtain⟨-,rfl, -⟩:=c
     have e:zd9 (caT pk) (Hn.mk m u pc mo su mx sa tv ep em ca tl (evK ((s1,w1,m1),(s2,w2,m2),s3,w3,m3) pk) [] [])=_:=yv2 v hu p0 p1
     obtain⟨h1, -⟩:=zit v hu p0 p1 false
     have hq:=yip (ysp p0 p1) h1
     rw[(zz5 (m,u,pc,mo,su,mx,sa,tv,ep,em,ca,tl,s1,w1,m1,s2,w2,m2,s3,w3,m3) pk).1,(zz5 (m,u,pc,mo,su,mx,sa,tv,ep,em,ca,tl,s1,w1,m1,s2,w2,m2,s3,w3,m3) pk).2] at hq
     rw[e]
     refine⟨⟨rfl,hq⟩, ?_⟩
     repeat' apply And.intro
     all_goals rfl
   · obtain⟨-,rfl, -⟩:=c
     have e:zd9 plT (Hn.mk m u pc mo su mx sa tv ep em ca tl ((s1,w1,m1),(s2,w2,m2),s3,w3,m3) [] [])=_:=yv3 v hu p0 p1
     obtain⟨h1, -⟩:=zit v hu p0 p1 true
     have hq:=yip (ysq pk) h1
     rw[(zz6 (m,u,pc,mo,su,mx,sa,tv,ep,em,ca,tl,s1,w1,m1,s2,w2,m2,s3,w3,m3) pk).1,(zz6 (m,u,pc,mo,su,mx,sa,tv,ep,em,ca,tl,s1,w1,m1,s2,w2,m2,s3,w3,m3) pk).2] at hq
     rw[e]
     refine⟨⟨rfl,hq⟩, ?_⟩
     repeat' apply And.intro
     all_goals rfl
 · have hm:zaa (m,u,pc,mo,su,mx,sa,tv,ep,em,ca,tl,s1,w1,m1,s2,w2,m2,s3,w3,m3) pl pk=(false,0,0,(Rn.ofH ([],[],0,0,false,false,0,0,0,0,0,0,0,0,[],0,0,[],0,0,[])).h):=if_neg q
   show zag Tryz.prog yto .none Tryz.f51 [haP,bl,i64] [srP] ((m,u,pc,mo,su,mx,sa,tv,ep,em,ca,tl,s1,w1,m1,s2,w2,m2,s3,w3,m3),pl,pk) (zaa (m,u,pc,mo,su,mx,sa,tv,ep,em,ca,tl,s1,w1,m1,s2,w2,m2,s3,w3,m3) pl pk)
   rw[hm]
   have q:yn7 (m,u,pc,mo,su,mx,sa,tv,ep,em,ca,tl,s1,w1,m1,s2,w2,m2,s3,w3,m3) pk=false:=by simpa using q
   rw[q] at hb
   refine zae (zks m u pc mo su mx sa tv ep em ca tl s1 w1 m1 s2 w2 m2 s3 w3 m3 pl pk false 0 0 (Rn.ofH ([],[],0,0,false,false,0,0,0,0,0,0,0,0,[],0,0,[],0,0,[]))) ?_
   conv=>zeta
   refine⟨⟨rfl,rfl,rfl,rfl,rfl,hr⟩,fun _ => ?_,fun c => ?_⟩
   · repeat' apply And.intro
     all_goals rfl
   · rw[hb] at c;cases c
theorem yis:Sound Tryz.prog 49 (zad [haP,bl,i64] [srP] (fun t=>some (HaR t.1∧I64 t.2.2)) (fun t=>zaa t.1 t.2.1 t.2.2)):=by
 refine zab mixed Tryz.func49 (by kernel_rfl) (by kernel_rfl) yes (fun t h => ?_)
 obtain⟨⟨m,u,pc,mo,su,mx,sa,tv,ep,em,ca,tl,s1,w1,m1,s2,w2,m2,s3,w3,m3⟩,pl,pk⟩:Ha × Bool × Int:=t
 obtain⟨hr,hI⟩:HaR (m,u,pc,mo,su,mx,sa,tv,ep,em,ca,tl,s1,w1,m1,s2,w2,m2,s3,w3,m3)∧I64 pk:=h
 have hb:=yr7 (m,u,pc,mo,su,mx,sa,tv,ep,em,ca,tl,s1,w1,m1,s2,w2,m2,s3,w3,m3) pk
 by_cases q:yn7 (m,u,pc,mo,su,mx,sa,tv,ep,em,ca,tl,s1,w1,m1,s2,w2,m2,s3,w3,m3) pk=true
 · obtain⟨v,hu,p0,p1⟩:=yh9 hr q
   have hm:zaa (m,u,pc,mo,su,mx,sa,tv,ep,em,ca,tl,s1,w1,m1,s2,w2,m2,s3,w3,m3) pl pk=(true,(zck (Rn.ofH (m,u,pc,mo,su,mx,sa,tv,ep,em,ca,tl,s1,w1,m1,s2,w2,m2,s3,w3,m3)) pl pk).cs,(zck (Rn.ofH (m,u,pc,mo,su,mx,sa,tv,ep,em,ca,tl,s1,w1,m1,s2,w2,m2,s3,w3,m3)) pl pk).tw,(zck (Rn.ofH (m,u,pc,mo,su,mx,sa,tv,ep,em,ca,tl,s1,w1,m1,s2,w2,m2,s3,w3,m3)) pl pk).h):=if_pos q
   show zag Tryz.prog yto .none Tryz.f49 [haP,bl,i64] [srP] ((m,u,pc,mo,su,mx,sa,tv,ep,em,ca,tl,s1,w1,m1,s2,w2,m2,s3,w3,m3),pl,pk) (zaa (m,u,pc,mo,su,mx,sa,tv,ep,em,ca,tl,s1,w1,m1,s2,w2,m2,s3,w3,m3) pl pk)
   rw[hm]
   rw[q] at hb
   refine zae (zkt m u pc mo su mx sa tv ep em ca tl s1 w1 m1 s2 w2 m2 s3 w3 m3 pl pk true (zck (Rn.ofH (m,u,pc,mo,su,mx,sa,tv,ep,em,ca,tl,s1,w1,m1,s2,w2,m2,s3,w3,m3)) pl pk).cs (zck (Rn.ofH (m,u,pc,mo,su,mx,sa,tv,ep,em,ca,tl,s1,w1,m1,s2,w2,m2,s3,w3,m3)) pl pk).tw (zck (Rn.ofH (m,u,pc,mo,su,mx,sa,tv,ep,em,ca,tl,s1,w1,m1,s2,w2,m2,s3,w3,m3)) pl pk)) ?_
   conv=>zeta
   refine⟨⟨rfl,rfl,rfl,rfl,rfl,hr⟩,fun c => ?_,fun _=>⟨⟨rfl,rfl,rfl,rfl,rfl,v.step p0 p1⟩, ?_⟩⟩
   · rw[hb] at c;cases c
   · repeat' apply And.intro
     all_goals rfl
 · have hm:zaa (m,u,pc,mo,su,mx,sa,tv,ep,em,ca,tl,s1,w1,m1,s2,w2,m2,s3,w3,m3) pl pk=(false,0,0,(Rn.ofH ([],[],0,0,false,false,0,0,0,0,0,0,0,0,[],0,0,[],0,0,[])).h):=if_neg q
   show zag Tryz.prog yto .none Tryz.f49 [haP,bl,i64] [srP] ((m,u,pc,mo,su,mx,sa,tv,ep,em,ca,tl,s1,w1,m1,s2,w2,m2,s3,w3,m3),pl,pk) (zaa (m,u,pc,mo,su,mx,sa,tv,ep,em,ca,tl,s1,w1,m1,s2,w2,m2,s3,w3,m3) pl pk)
   rw[hm]
   have q:yn7 (m,u,pc,mo,su,mx,sa,tv,ep,em,ca,tl,s1,w1,m1,s2,w2,m2,s3,w3,m3) pk=false:=by simpa using q
   rw[q] at hb
   refine zae (zkt m u pc mo su mx sa tv ep em ca tl s1 w1 m1 s2 w2 m2 s3 w3 m3 pl pk false 0 0 (Rn.ofH ([],[],0,0,false,false,0,0,0,0,0,0,0,0,[],0,0,[],0,0,[]))) ?_
   conv=>zeta
   refine⟨⟨rfl,rfl,rfl,rfl,rfl,hr⟩,fun _ => ?_,fun c => ?_⟩
   · repeat' apply And.intro
     all_goals rfl
   · rw[hb] at c;cases c
theorem zv2:DictOk Tryz.prog FIH1:=zaw (yg5.append zw7) .nil .nil
theorem yuf:Sound Tryz.prog 52 (zad [srP,srP] [bl] (fun t=>some (t.1=t.2∧yq4 t.1)) (fun _=>true)):=by
 refine zab mixed Tryz.func52 (by kernel_rfl) (by kernel_rfl) zv2 (fun t h => ?_)
 obtain⟨a,b⟩:Sr × Sr:=t
 obtain⟨rfl,h⟩:a=b∧yq4 a:=h
 obtain⟨ok,cs,tw,m,u,pc,mo,su,mx,sa,tv,ep,em,ca,tl,s1,w1,m1,s2,w2,m2,s3,w3,m3⟩:=a
 obtain⟨h1,h2,h3⟩:SzR m.length∧SzR u.length∧SzC ((s1,w1,m1),(s2,w2,m2),(s3,w3,m3)):=h
 refine zae (yc9 ok cs tw m u pc mo su mx sa tv ep em ca tl s1 w1 m1 s2 w2 m2 s3 w3 m3) ?_
 conv=>zeta
 exact (by simp[h1,h2,h3])
theorem yhz:Sound Tryz.prog 55 (zo8 [srP,i64] [i64] (fun t=>some (yq4 t.1∧InN t.2)) (fun t=>((zo6 t.1 t.2,t.2),zku t.1.2.2.2 t.2))):=by
 refine zi4 mixed Tryz.func55 (by kernel_rfl) (by kernel_rfl) zv2 (fun t h => ?_)
 obtain⟨⟨ok,cs,tw,m,u,pc,mo,su,mx,sa,tv,ep,em,ca,tl,s1,w1,m1,s2,w2,m2,s3,w3,m3⟩,n⟩:Sr × Int:=t
 obtain⟨⟨h1,h2,h3⟩,k0⟩:(SzR m.length∧SzR u.length∧SzC ((s1,w1,m1),(s2,w2,m2),(s3,w3,m3)))∧InN n:=h
 exact⟨.none,zae (zu0 ok cs tw m u pc mo su mx sa tv ep em ca tl s1 w1 m1 s2 w2 m2 s3 w3 m3 n) (by simp[h1,h2,h3,k0])⟩
theorem ygq:Sound Tryz.prog 56 (zad [srP,i64] [i64] (fun t=>some ((yq4 t.1∧InN t.2)∧t.1=zo6 t.1 t.2)) (fun t=>zku t.1.2.2.2 t.2)):=by
 refine zab mixed Tryz.func56 (by kernel_rfl) (by kernel_rfl) zv2 (fun t h => ?_)
 obtain⟨⟨ok,cs,tw,m,u,pc,mo,su,mx,sa,tv,ep,em,ca,tl,s1,w1,m1,s2,w2,m2,s3,w3,m3⟩,n⟩:Sr × Int:=t
 obtain⟨⟨⟨h1,h2,h3⟩,k0⟩,he⟩:((SzR m.length∧SzR u.length∧SzC ((s1,w1,m1),(s2,w2,m2),(s3,w3,m3)))∧InN n)∧(ok,cs,tw,m,u,pc,mo,su,mx,sa,tv,ep,em,ca,tl,s1,w1,m1,s2,w2,m2,s3,w3,m3)=zo6 (ok,cs,tw,m,u,pc,mo,su,mx,sa,tv,ep,em,ca,tl,s1,w1,m1,s2,w2,m2,s3,w3,m3) n:=h
 have hh:(m,u,pc,mo,su,mx,sa,tv,ep,em,ca,tl,s1,w1,m1,s2,w2,m2,s3,w3,m3)=zs7 (m,u,pc,mo,su,mx,sa,tv,ep,em,ca,tl,s1,w1,m1,s2,w2,m2,s3,w3,m3) n:=congrArg (fun t:Sr=>t.2.2.2) he
 have k1:0≤n:=k0.1
 refine zae (zuh ok cs tw m u pc mo su mx sa tv ep em ca tl s1 w1 m1 s2 w2 m2 s3 w3 m3 n) ?_
 conv=>zeta
 refine⟨⟨rfl,rfl,rfl,rfl,rfl,⟨⟨h1,h2,h3⟩,k0⟩,hh⟩,fun q => ?_,fun _ => ?_⟩
 · exact absurd (show n+(m.length:Int)+(u.length:Int)+6*(m1.length:Int)+6*(m2.length:Int)+6*(m3.length:Int)<0 from of_decide_eq_true q) (by omega)
 · repeat' apply And.intro
   all_goals rfl
theorem yu9:zar Tryz.prog kIH1 := .cons (by kernel_rfl) yuf <| .cons (by kernel_rfl) yhz <| .cons (by kernel_rfl) ygq <| .cons (by kernel_rfl) ygx <| .cons (by kernel_rfl) yis .nil
theorem ytp:DictOk Tryz.prog FIH2:=zaw ((yu9.append yg5).append zw7) .nil .nil
theorem lawStepH_ok:Canon Tryz.prog 11 [haP,bl,i64] [bl] (WfPs [haP,bl,i64]) (fun _=>true):=by
 refine zwk mixed Tryz.func11 (by kernel_rfl) (by kernel_rfl) ytp (fun t h => ?_)
 obtain⟨⟨m,u,pc,mo,su,mx,sa,tv,ep,em,ca,tl,s1,w1,m1,s2,w2,m2,s3,w3,m3⟩,pl,pk⟩:Ha × Bool × Int:=t
 obtain⟨a1,a2,a3,a4, -, -,a7,a8,a9,a10,a11,a12,b1,b2,b3,b4,b5,b6,b7,b8,b9⟩:=h.1
 have hpk:I64 pk:=zhd h.2.2
 have l1:m.length≤9223372036854775807:=a1.1
 have l2:u.length≤9223372036854775807:=a2.1
 have l3:m1.length≤9223372036854775807:=b3.1
 have l4:m2.length≤9223372036854775807:=b6.1
 have l5:m3.length≤9223372036854775807:=b9.1
 refine⟨.none,zae (zoe m u pc mo su mx sa tv ep em ca tl s1 w1 m1 s2 w2 m2 s3 w3 m3 pl pk) ?_⟩
 conv=>zeta
 refine⟨⟨rfl,rfl,rfl,rfl,rfl,⟨l1,l2,l3,l4,l5⟩,by show (0:Int)≤_;omega,by show _≤(1048576:Int);omega⟩,fun _=>⟨rfl,rfl,rfl,rfl,rfl,rfl⟩,fun q => ?_⟩
 have q:=of_decide_eq_false q
 obtain⟨z1,z2,z3,z4,z5⟩:=yv9 (by omega) q
 have z3:SzR m1.length:=z3
 have z4:SzR m2.length:=z4
 have z5:SzR m3.length:=z5
 have hr:HaR (m,u,pc,mo,su,mx,sa,tv,ep,em,ca,tl,s1,w1,m1,s2,w2,m2,s3,w3,m3) :=
  ⟨⟨z1,yqo a1⟩,z2,wf_us a2,zjl a3,zhd a4,zjl a7,zjl a8,zjl a9,zhd a10,zhd a11,zjl a12,⟨zhd b1,zhd b2,z3,fun e he=>yxp (b3.2 e he)⟩,⟨zhd b4,zhd b5,z4,fun e he=>yxp (b6.2 e he)⟩,⟨zhd b7,zhd b8,z5,fun e he=>yxp (b9.2 e he)⟩⟩
 have hz:=yo2 (pl:=pl) (pk:=pk) hr
 have in1:InN 1:=⟨by decide,by decide⟩
 have k3:SzC ((s1,w1,m1),(s2,w2,m2),(s3,w3,m3)):=⟨z3,z4,z5⟩
 clear a1 a2 a3 a4 a7 a8 a9 a10 a11 a12 b1 b2 b3 b4 b5 b6 b7 b8 b9 h q
 generalize zaa (m,u,pc,mo,su,mx,sa,tv,ep,em,ca,tl,s1,w1,m1,s2,w2,m2,s3,w3,m3) pl pk=Z at hz ⊢
 obtain⟨ok,cs,tw,n0,n1,n2,n3,n4,n5,n6,n7,n8,n9,n10,n11,n12,n13,n14,n15,n16,n17,n18,n19,n20⟩:Sr:=Z
 obtain⟨h1,h2,h3,h4,h5⟩:SzR n0.length∧SzR n1.length∧SzR n14.length∧SzR n17.length∧SzR n20.length:=hz
 have k4:SzC ((n12,n13,n14),(n15,n16,n17),(n18,n19,n20)):=⟨h3,h4,h5⟩
 simp[z1,z2,z3,z4,z5,k3,k4,hr,hpk,in1,h1,h2,h3,h4,h5,zdg,zg3,zg2]
 exact⟨hpk,⟨by simpa[zdg] using h3,by simpa[zdg] using h4,by simpa[zdg] using h5⟩,hpk⟩
end Go.Proofs.YtfiddfbagbaofaaGreat.V
