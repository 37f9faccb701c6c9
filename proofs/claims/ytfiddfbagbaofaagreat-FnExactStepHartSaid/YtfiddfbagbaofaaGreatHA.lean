/- Harts that are valid answer as their model; the law on them returns true. Conditions: those in each statement. -/
import Derived.Test.YtfiddfbagbaofaaGreatGY
import Derived.KernelRfl
namespace Go.Proofs.YtfiddfbagbaofaaGreat.V
open Go
abbrev usP:Pm := .one (.sl [.i .u64])
abbrev Us:=List Int
abbrev haC:List Cs:=[.sl [.i .u8],.sl [.i .u64],.i .u64,.i .i64,.b,.b,.i .u64,.i .u64,.i .u64,.i .i64,.i .i64,.i .u64,.i .i64,.i .i64,.sl shE,.i .i64,.i .i64,.sl shE,.i .i64,.i .i64,.sl shE]
abbrev haP:Pm := .st haC
abbrev Ha:=By × Us × Int × Int × Bool × Bool × Int × Int × Int × Int × Int × Int × Cf
def zbh(s:Int):Bool:=s/1152921504606846976==0||s/1152921504606846976==8
def HaR(h:Ha):Prop:=zaz h.1∧SzR h.2.1.length∧(∀r ∈ h.2.1,U64 r)∧U64 h.2.2.1∧I64 h.2.2.2.1∧U64 h.2.2.2.2.2.2.1∧U64 h.2.2.2.2.2.2.2.1∧U64 h.2.2.2.2.2.2.2.2.1∧I64 h.2.2.2.2.2.2.2.2.2.1∧I64 h.2.2.2.2.2.2.2.2.2.2.1∧U64 h.2.2.2.2.2.2.2.2.2.2.2.1∧ChR (toC h.2.2.2.2.2.2.2.2.2.2.2.2)
def zea(h:Ha):Bool:=((h.1.length:Int).tmod 64==0)&&decide ((h.1.length:Int)≥64)&&decide ((h.1.length:Int)≤4096)&&((h.2.1.length:Int)==8)&&(h.2.1.getD 0 0==0)&&decide (h.2.2.2.1≥0)&&decide (h.2.2.2.1≤2)&&decide (h.2.2.2.2.2.2.2.2.2.1≥0)&&decide (h.2.2.2.2.2.2.2.2.2.1≤2)&&zbh h.2.2.2.2.2.2.1&&(h.2.2.2.2.2.2.2.1.tmod 4==0)&&decide (h.2.2.2.2.2.2.2.2.2.2.1≥0)&&decide (h.2.2.2.2.2.2.2.2.2.2.1≤63)&&zbr (toC h.2.2.2.2.2.2.2.2.2.2.2.2)
def szH(a b:Nat)(k:Cch)(n:Int):Int:=if szM a n<0 then -1 else if szM b (szM a n)<0 then -1 else szC k (szM b (szM a n))
def yxd(m:By)(k:Int):Prop:=zag Tryz.prog FY0 .none Tryz.f143 [byP,i64] [i64] (m,k) (szM m.length k)
def yxf(m:Us)(k:Int):Prop:=zag Tryz.prog FY0 .none Tryz.f144 [usP,i64] [i64] (m,k) (szM m.length k)
def yla(s:Int):Prop:=zag Tryz.prog FY0 .none Tryz.f156 [u64] [bl] s (zbh s)
def ydy(s:Int):Prop:=zag Tryz.prog FE3 .none Tryz.f80 [u64] [bl] s (zbh s)
def yjh(m:Us):LoopS where
 α:=Nat
 I i:=i≤m.length
 sl i:=slots 22 [(0,.sl 0 1 0 m.length),(3,.sl 1 1 0 m.length),(4,.v (.int .i64 i))]
 H i:=[.arr [.i .u64] m false,.arr [.i .u64] (m.take i++List.replicate (m.length-i) (0:Int)) true]
 fams:=[{ β:=Unit,out:=fun _ _=>True,ex := .ext 0,sl:=fun _=>slots 22 [(3,.sl 1 1 0 m.length)],H:=fun _=>[.arr [.i .u64] m false,.arr [.i .u64] m true] }]
def ylt(m:Us)(i:Nat):Prop:=zao Tryz.prog F0 (.one 3 (yjh m)) 1 (zak Tryz.f147 0) (yjh m) (fun i:Nat=>m.length-i) i
def yxj(m:Us):Prop:=zag Tryz.prog F0 (.one 3 (yjh m)) Tryz.f147 [usP] [usP] m m
def yf1(m n:Us):LoopS where
 α:=Nat
 I i:=i≤m.length
 sl i:=slots 26 [(0,.sl 0 1 0 m.length),(1,.sl 1 1 0 n.length),(5,.v (.int .i64 i))]
 H _:=[.arr [.i .u64] m false,.arr [.i .u64] n false]
 fams:=[{ β:=Unit,out:=fun _ _=>True,ex := .ext 0,sl:=fun _=>slots 26 [],H:=fun _=>[.arr [.i .u64] m false,.arr [.i .u64] n false] }]
def yj1(m n:Us)(i:Nat):Prop:=zao Tryz.prog F0 (.one 4 (yf1 m n)) 2 (zak Tryz.f104 0) (yf1 m n) (fun i:Nat=>m.length-i) i
def yw0(m n:Us):Prop:=zag Tryz.prog F0 (.one 4 (yf1 m n)) Tryz.f104 [usP,usP] [bl] (m,n) true
def kHA1:Known:=[
 (143,zad [byP,i64] [i64] (fun t=>some (t.1.length≤maxLen∧0≤t.2∧t.2≤1048576)) (fun t=>szM t.1.length t.2)),
 (144,zad [usP,i64] [i64] (fun t=>some (t.1.length≤maxLen∧0≤t.2∧t.2≤1048576)) (fun t=>szM t.1.length t.2)),
 (156,zad [u64] [bl] (fun s=>some (U64 s)) zbh),
 (80,zad [u64] [bl] (fun s=>some (U64 s)) zbh),
 (147,zad [usP] [usP] (fun m=>some (SzR m.length)) (fun m=>m)),
 (104,zad [usP,usP] [bl] (fun t=>some (t.1=t.2∧SzR t.1.length)) (fun _=>true))]
def yxu:Dict:=mkD (kHA1++kY1++kB3) [] []
def ybc1(m:By)(u:Us)(pc:Int)(mo:Int)(su:Bool)(mx:Bool)(sa:Int)(tv:Int)(ep:Int)(em:Int)(ca:Int)(tl:Int)(s1:Int)(w1:Int)(m1:Es)(s2:Int)(w2:Int)(m2:Es)(s3:Int)(w3:Int)(m3:Es)(n:Int):Prop:=zag Tryz.prog yxu .none Tryz.f48 [haP,i64] [i64] ((m,u,pc,mo,su,mx,sa,tv,ep,em,ca,tl,s1,w1,m1,s2,w2,m2,s3,w3,m3),n) (szH m.length u.length ((s1,w1,m1),(s2,w2,m2),(s3,w3,m3)) n)
def ybf1(m:By)(u:Us)(pc:Int)(mo:Int)(su:Bool)(mx:Bool)(sa:Int)(tv:Int)(ep:Int)(em:Int)(ca:Int)(tl:Int)(s1:Int)(w1:Int)(m1:Es)(s2:Int)(w2:Int)(m2:Es)(s3:Int)(w3:Int)(m3:Es):Prop:=zag Tryz.prog yxu .none Tryz.f50 [haP] [haP] (m,u,pc,mo,su,mx,sa,tv,ep,em,ca,tl,s1,w1,m1,s2,w2,m2,s3,w3,m3) (m,u,pc,mo,su,mx,sa,tv,ep,em,ca,tl,s1,w1,m1,s2,w2,m2,s3,w3,m3)
def ya01(m:By)(u:Us)(pc:Int)(mo:Int)(su:Bool)(mx:Bool)(sa:Int)(tv:Int)(ep:Int)(em:Int)(ca:Int)(tl:Int)(s1:Int)(w1:Int)(m1:Es)(s2:Int)(w2:Int)(m2:Es)(s3:Int)(w3:Int)(m3:Es):Prop:=zag Tryz.prog yxu .none Tryz.f53 [haP,haP] [bl] ((m,u,pc,mo,su,mx,sa,tv,ep,em,ca,tl,s1,w1,m1,s2,w2,m2,s3,w3,m3),(m,u,pc,mo,su,mx,sa,tv,ep,em,ca,tl,s1,w1,m1,s2,w2,m2,s3,w3,m3)) true
def ypq(m:By)(u:Us)(pc:Int)(mo:Int)(su:Bool)(mx:Bool)(sa:Int)(tv:Int)(ep:Int)(em:Int)(ca:Int)(tl:Int)(s1:Int)(w1:Int)(m1:Es)(s2:Int)(w2:Int)(m2:Es)(s3:Int)(w3:Int)(m3:Es):Prop:=zag Tryz.prog yxu .none Tryz.f62 [haP] [bl] (m,u,pc,mo,su,mx,sa,tv,ep,em,ca,tl,s1,w1,m1,s2,w2,m2,s3,w3,m3) (zea (m,u,pc,mo,su,mx,sa,tv,ep,em,ca,tl,s1,w1,m1,s2,w2,m2,s3,w3,m3))
def yqf(m:By)(u:Us)(pc:Int)(mo:Int)(su:Bool)(mx:Bool)(sa:Int)(tv:Int)(ep:Int)(em:Int)(ca:Int)(tl:Int)(s1:Int)(w1:Int)(m1:Es)(s2:Int)(w2:Int)(m2:Es)(s3:Int)(w3:Int)(m3:Es):Prop:=zag Tryz.prog yxu .none Tryz.f146 [haP] [bl] (m,u,pc,mo,su,mx,sa,tv,ep,em,ca,tl,s1,w1,m1,s2,w2,m2,s3,w3,m3) (zea (m,u,pc,mo,su,mx,sa,tv,ep,em,ca,tl,s1,w1,m1,s2,w2,m2,s3,w3,m3))
def SzH(h:Ha):Prop:=SzR h.1.length∧SzR h.2.1.length∧SzC (toC h.2.2.2.2.2.2.2.2.2.2.2.2)
def kHA2:Known:=[
 (48,zad [haP,i64] [i64] (fun t=>some ((t.1.1.length≤maxLen∧t.1.2.1.length≤maxLen∧(toC t.1.2.2.2.2.2.2.2.2.2.2.2.2).1.2.2.length≤maxLen∧(toC t.1.2.2.2.2.2.2.2.2.2.2.2.2).2.1.2.2.length≤maxLen∧(toC t.1.2.2.2.2.2.2.2.2.2.2.2.2).2.2.2.2.length≤maxLen)∧0≤t.2∧t.2≤1048576)) (fun t=>szH t.1.1.length t.1.2.1.length (toC t.1.2.2.2.2.2.2.2.2.2.2.2.2) t.2)),
 (50,zad [haP] [haP] (fun h=>some (SzH h)) (fun h=>h)),
 (53,zad [haP,haP] [bl] (fun t=>some (t.1=t.2∧SzH t.1)) (fun _=>true)),
 (62,zad [haP] [bl] (fun h=>some (HaR h)) zea),
 (146,zad [haP] [bl] (fun h=>some (HaR h)) zea)]
set_option linter.unusedVariables false
theorem yd1(m:By)(k:Int):yxd m k=(
 (decide (IntKind.i64.wrap (k-(↑(List.length m):Int))<0)=true→szM (List.length m) k=(-1:Int)∧m=m)∧(decide (IntKind.i64.wrap (k-(↑(List.length m):Int))<0)=false→szM (List.length m) k =
 IntKind.i64.wrap (k-(↑(List.length m):Int))∧m=m)):=by kernel_rfl
theorem yd3(m:Us)(k:Int):yxf m k=(
 (decide (IntKind.i64.wrap (k-(↑(List.length m):Int))<0)=true→szM (List.length m) k=(-1:Int)∧m=m)∧(decide (IntKind.i64.wrap (k-(↑(List.length m):Int))<0)=false→szM (List.length m) k =
 IntKind.i64.wrap (k-(↑(List.length m):Int))∧m=m)):=by kernel_rfl
theorem zu7(s:Int):yla s=(
 (0:Int)≤60∧((!s/2 ^ min (Int.toNat 60) (64:Nat)==0)=true→(0:Int)≤60)∧zbh s=bif s/2 ^ min (Int.toNat 60) (64:Nat)==0 then true else s/(2 :
 Int) ^ min (Int.toNat 60) (64:Nat)==8):=by kernel_rfl
theorem zrs(s:Int):ydy s=(
 zh5 (s,60,63)∧((!zej s 60 (63:Int)==0)=true→zh5 (s,60,63))∧zbh s=bif zej s 60 (63:Int)==0 then true else zej s 60 63==(8 :
 Int)):=by kernel_rfl
theorem zvm(m:Us)(i:Nat):ylt m i=(
 let A0:=List.length m;
 let A1:=(↑i:Int);
 let A2:=(0:Nat)+A1.toNat;
 let A3:=(0:Nat)=0;
 let A4(a b c:Prop):=a∧b∧c;
 let A5(a:Bool)(b:Prop):=decide (A1<(↑A0:Int))=a→b;
 let A6:=(0:Int)≤A1∧A1<(↑A0:Int);
 let A7(a:Nat):=List.take a m++List.replicate (A0-a) 0;
 A5 true (A4 A6 (A2<A0) (A4 A6 (A2<(A7 i).length) (∃(x0:Nat),A4 A3 (A0=A0) (A4 A3 (A0=A0) (A4 ((↑x0:Int)=IntKind.i64.wrap (A1+1)) (m=m) (A7 x0=(A7 i).set A2 (List.getD m A2 (El.zero (Ty.i IntKind.u64 ::
  []))))))∧A4 (x0≤A0) (A0-x0<A0-i) (∀(x1:Unit),True→True))))∧A5 false (∃(x2:Unit),(A3∧A4 (A0=A0) (m=m) (m=A7 i))∧True)):=by kernel_rfl
theorem yd9(m:Us):yxj m=(
 ((0:Int)≤(↑(List.length m):Int)∧(↑(List.length m):Int)≤(↑(List.length m):Int)∧(↑(List.length m):Int)≤4294967296)∧∃(x:Nat),((0:Nat)=0∧List.length m=List.length m∧(0:Nat)=0 ∧
 List.length m=(↑(List.length m):Int).toNat∧(↑x:Int)=0∧m=m∧List.take x m++List.replicate (List.length m-x) 0=List.replicate (↑(List.length m):Int).toNat (El.zero [Ty.i IntKind.u64]))∧x≤List.length
 m∧∀(z:Unit),True→(0:Nat)=0∧List.length m=List.length m∧m=m∧m=m):=by kernel_rfl
theorem zua(m n:Us)(i:Nat):yj1 m n i=(
 let A0:=(↑i:Int);
 let A1:=List.length m;
 let A2:=(0:Nat)+A0.toNat;
 let A3(a:Bool)(b c:Prop):=(a=true→b)∧(a=false→c);
 let A4(a:Nat)(b:Prop):=((0:Int)≤A0∧A0<(↑a:Int))∧A2<a∧b;
 let A5(a:Nat)(b:Prop):=(0:Nat)=0∧a=a∧b;
 let A6:=m=m∧n=n;
 A3 (decide (A0<(↑A1:Int))) (A4 A1 (A4 (List.length n) (A3 (List.getD m A2 (El.zero (Ty.i IntKind.u64::[])) != List.getD n A2 (El.zero (Ty.i IntKind.u64::[]))) False (∃(x0:Nat),A5 A1 (A5 (List.length n) ((↑x0:Int) =
  IntKind.i64.wrap (A0+1)∧A6))∧x0≤A1∧A1-x0<A1-i∧∀(x1:Unit),True→True)))) (∃(x2:Unit),A6∧True)):=by kernel_rfl
theorem yda(m n:Us):yw0 m n=(
 (((↑(List.length m):Int) != (↑(List.length n):Int))=true→true=false∧m=m∧n=n)∧(((↑(List.length m):Int) != (↑(List.length n):Int))=false→∃(x:Nat),((0:Nat)=0∧List.length m=List.length m∧(0 :
 Nat)=0∧List.length n=List.length n∧(↑x:Int)=0∧m=m∧n=n)∧x≤List.length m∧∀(z:Unit),True→true=true∧m=m∧n=n)):=by kernel_rfl
theorem yli(m:By)(u:Us)(pc:Int)(mo:Int)(su:Bool)(mx:Bool)(sa:Int)(tv:Int)(ep:Int)(em:Int)(ca:Int)(tl:Int)(s1:Int)(w1:Int)(m1:Es)(s2:Int)(w2:Int)(m2:Es)(s3:Int)(w3:Int)(m3:Es)(n:Int):ybc1 m u pc mo su mx sa tv ep em ca tl s1 w1 m1 s2 w2 m2 s3 w3 m3 n=(
 let A0:=List.length m;
 let A1:=List.length u;
 let A2(a:Nat):=a≤9223372036854775807;
 let A3(a b:Int)(c:Es):=(a,b,c);
 let A4(a:Int):=a≤(1048576:PmT [i64]);
 let A5(a:Es):=A2 (List.length a);
 let A6(a b c:Prop):=a∧b∧c;
 let A7(a:Es):=List.length a=List.length a;
 let A8:=(A3 s1 w1 m1,A3 s2 w2 m2,A3 s3 w3 m3);
 let A9(a b c d e f:Prop):=a∧A6 b c (A6 d e f);
 let Aa:=szM A1 (szM A0 n);
 let Ab(a:Int)(b:Bool)(c:Prop):=decide (a<0)=b→c;
 let Ac(a:Nat)(b:Int):=a=a∧A6 (A2 a) ((0:PmT [i64])≤b) (A4 b);
 let Ad:=szM A0 n;
 let Ae(a:Int)(b:Bool)(c:Int):=Ab a b (A9 (szH A0 A1 A8 n=c) (m=m) (u=u) (m1=m1) (m2=m2) (m3=m3));
 let Af(a:Int)(b:Prop)(c:Int)(d:Prop):=Ab a false (A6 b (Ab c true (A9 (szH A0 A1 A8 n=(-1)) (m=m) (u=u) (m1=m1) (m2=m2) (m3=m3))) d);
 A6 (Ac A0 n) (Ae Ad true (-1)) (Af Ad (Ac A1 Ad) Aa (Af Aa (A9 (A7 m1) (A7 m2) (List.length m3=List.length m3) (A6 (A5 m1) (A5 m2) (A5 m3)) ((0:PmT [i64])≤Aa) (A4 Aa)) (szC A8 Aa) (Ae (szC A8 Aa) false (szC A8 Aa))))):=by kernel_rfl
theorem yls(m:By)(u:Us)(pc:Int)(mo:Int)(su:Bool)(mx:Bool)(sa:Int)(tv:Int)(ep:Int)(em:Int)(ca:Int)(tl:Int)(s1:Int)(w1:Int)(m1:Es)(s2:Int)(w2:Int)(m2:Es)(s3:Int)(w3:Int)(m3:Es):ybf1 m u pc mo su mx sa tv ep em ca tl s1 w1 m1 s2 w2 m2 s3 w3 m3=(
 (List.length m=List.length m∧SzR (List.length m))∧(List.length u=List.length u∧SzR (List.length u))∧(List.length m1=List.length m1∧List.length m2=List.length m2∧List.length m3=List.length m3∧SzR (List.length m1) ∧
 SzR (List.length m2)∧SzR (List.length m3))∧(0:Nat)=0∧List.length m=List.length m∧(0:Nat)=0∧List.length u=List.length u∧pc=pc∧mo=mo∧su=su∧mx=mx∧sa=sa∧tv=tv∧ep=ep∧em=em ∧
 ca=ca∧tl=tl∧s1=s1∧w1=w1∧(0:Nat)=0∧List.length m1=List.length m1∧s2=s2∧w2=w2∧(0:Nat)=0∧List.length m2=List.length m2∧s3=s3∧w3=w3∧(0:Nat)=0∧List.length m3 =
 List.length m3∧m=m∧u=u∧m1=m1∧m2=m2∧m3=m3∧m=m∧u=u∧m1=m1∧m2=m2∧m3=m3):=by kernel_rfl
theorem yj0(m:By)(u:Us)(pc:Int)(mo:Int)(su:Bool)(mx:Bool)(sa:Int)(tv:Int)(ep:Int)(em:Int)(ca:Int)(tl:Int)(s1:Int)(w1:Int)(m1:Es)(s2:Int)(w2:Int)(m2:Es)(s3:Int)(w3:Int)(m3:Es):ya01 m u pc mo su mx sa tv ep em ca tl s1 w1 m1 s2 w2 m2 s3 w3 m3=(
 let A0(a b c:Prop):=a∧b∧c;
 let A1(a:Es):=List.length a=List.length a;
 let A2(a:Bool):=a=true→A0 (true=false) (m=m) (A0 (u=u) (m1=m1) (A0 (m2=m2) (m3=m3) (A0 (m=m) (u=u) (A0 (m1=m1) (m2=m2) (m3=m3)))));
 let A3(a:Bool)(b:Prop):=a=false→b;
 let A4:=List.length u;
 let A5:=List.length m;
 let A6(a:Es):=SzR (List.length a);
 let A7(a b:Bool)(c:Prop):=A2 a∧A3 a (A2 b∧A3 b c);
 let A8(a b c d e:Prop):=A0 (a∧b) (A2 (!true)) (A3 (!true) (A0 c d e));
 let A9:=(s1,w1,m1,s2,w2,m2,s3,w3,m3);
 let Aa(a b:Int)(c:Prop):=A7 (a != a) (b != b) c;
 A8 (A5=A5) (A0 (A5=A5) (m=m) (SzR A5)) (A4=A4∧A0 (A4=A4) (u=u) (SzR A4)) (A2 (!true)) (A3 (!true) (Aa pc mo (A7 (!su==su) (!mx==mx) (Aa sa tv (Aa ep em (Aa ca tl (A8 (A1 m1) (A0 (A1 m2) (A1 m3) (A0 (A1 m1) (A1 m2) (A0 (A1
  m3) (A9=A9) (A0 (A6 m1) (A6 m2) (A6 m3))))) (true=true) (m=m) (A0 (u=u) (m1=m1) (A0 (m2=m2) (m3=m3) (A0 (m=m) (u=u) (A0 (m1=m1) (m2=m2) (m3=m3))))))))))))):=by kernel_rfl
theorem zyg(m:By)(u:Us)(pc:Int)(mo:Int)(su:Bool)(mx:Bool)(sa:Int)(tv:Int)(ep:Int)(em:Int)(ca:Int)(tl:Int)(s1:Int)(w1:Int)(m1:Es)(s2:Int)(w2:Int)(m2:Es)(s3:Int)(w3:Int)(m3:Es):ypq m u pc mo su mx sa tv ep em ca tl s1 w1 m1 s2 w2 m2 s3 w3 m3=(
 let A0(a b:Bool):=bif a then b else false;
 let A1(a:Int):=decide (a≥0);
 let A2:=(↑(List.length u):Int);
 let A3(a b:Bool)(c d:Int):=A0 (A0 a b) (decide (c≤d));
 let A4:=(↑(List.length m):Int);
 let A5(a b:Int)(c:Es):=(a,b,c);
 let A6:=(0:Nat)+(0:Int).toNat;
 let A7:=A3 (A4.tmod (64:Int)==0) (decide (A4≥64)) A4 4096;
 let A8:=A3 (A3 (A0 (A0 A7 (A2==8)) (List.getD u A6 (El.zero (Ty.i IntKind.u64::[]))==0)) (A1 mo) mo 2) (A1 em) em 2;
 let A9(a:Es)(b:Prop):=List.length a=List.length a∧b;
 let Aa(a b:Prop):=(A0 A7 (A2==8)=true→a)∧b;
 let Ab:=A3 (A0 (A0 A8 (zbh sa)) (tv.tmod (4:Int)==0)) (A1 ca) ca 63;
 let Ac(a:Bool)(b c:Prop):=(a=true→b)∧c;
 let Ad:=A5 s3 w3 m3;
 (64:Int)≠0∧Aa ((0:Int)≤0∧0<A2) (Aa (A6<List.length u) (Ac A8 (U64 sa) (Ac (A0 A8 (zbh sa)) ((4:Int)≠0) (Ac Ab (A9 m1 (A9 m2 (List.length m3=List.length m3∧TlR (A5 s1 w1 m1)∧TlR
  (A5 s2 w2 m2)∧TlR Ad))) (zea (m,u,pc,mo,su,mx,sa,tv,ep,em,ca,tl,s1,w1,m1,s2,w2,m2,Ad)=A0 Ab (zbr (A5 s1 w1 m1,A5 s2 w2 m2,Ad))∧m=m∧u=u∧m1=m1∧m2=m2∧m3=m3)))))):=by kernel_rfl
theorem zzh(m:By)(u:Us)(pc:Int)(mo:Int)(su:Bool)(mx:Bool)(sa:Int)(tv:Int)(ep:Int)(em:Int)(ca:Int)(tl:Int)(s1:Int)(w1:Int)(m1:Es)(s2:Int)(w2:Int)(m2:Es)(s3:Int)(w3:Int)(m3:Es):yqf m u pc mo su mx sa tv ep em ca tl s1 w1 m1 s2 w2 m2 s3 w3 m3=(
 let A0(a b:Bool):=bif a then b else false;
 let A1(a:Int):=decide (a≥0);
 let A2:=(↑(List.length u):Int);
 let A3(a b:Bool)(c d:Int):=A0 (A0 a b) (decide (c≤d));
 let A4:=(↑(List.length m):Int);
 let A5(a b:Int)(c:Es):=(a,b,c);
 let A6:=(0:Nat)+(0:Int).toNat;
 let A7:=A3 (A4.tmod (64:Int)==0) (decide (A4≥64)) A4 4096;
 let A8:=A3 (A3 (A0 (A0 A7 (A2==8)) (List.getD u A6 (El.zero (Ty.i IntKind.u64::[]))==0)) (A1 mo) mo 2) (A1 em) em 2;
 let A9(a:Es)(b:Prop):=List.length a=List.length a∧b;
 let Aa(a b:Prop):=(A0 A7 (A2==8)=true→a)∧b;
 let Ab:=A3 (A0 (A0 A8 (zbh sa)) (tv.tmod (4:Int)==0)) (A1 ca) ca 63;
 let Ac(a:Bool)(b c:Prop):=(a=true→b)∧c;
 let Ad:=A5 s3 w3 m3;
 (64:Int)≠0∧Aa ((0:Int)≤0∧0<A2) (Aa (A6<List.length u) (Ac A8 (U64 sa) (Ac (A0 A8 (zbh sa)) ((4:Int)≠0) (Ac Ab (A9 m1 (A9 m2 (List.length m3=List.length m3∧TlR (A5 s1 w1 m1)∧TlR
  (A5 s2 w2 m2)∧TlR Ad))) (zea (m,u,pc,mo,su,mx,sa,tv,ep,em,ca,tl,s1,w1,m1,s2,w2,m2,Ad)=A0 Ab (zbr (A5 s1 w1 m1,A5 s2 w2 m2,Ad))∧m=m∧u=u∧m1=m1∧m2=m2∧m3=m3)))))):=by kernel_rfl
set_option linter.unusedSimpArgs false
theorem yv6:Sound Tryz.prog 143 (zad [byP,i64] [i64] (fun t=>some (t.1.length≤maxLen∧0≤t.2∧t.2≤1048576)) (fun t=>szM t.1.length t.2)):=by
 refine zab mixed Tryz.func143 (by kernel_rfl) (by kernel_rfl) zfp (fun t h => ?_)
 obtain⟨m,k⟩:By × Int:=t
 obtain⟨h1,h2,h3⟩:m.length≤maxLen∧0≤k∧k≤1048576:=h
 have h1:m.length≤9223372036854775807:=h1
 refine zae (yd1 m k) ?_
 rw[zac (n:=k-m.length) (by omega) (by omega)]
 refine⟨fun q=>⟨?_,rfl⟩,fun q=>⟨?_,rfl⟩⟩
 · have q:k-(m.length:Int)<0:=of_decide_eq_true q
   unfold szM;rw[if_neg (by omega)]
 · have q:¬ k-(m.length:Int)<0:=of_decide_eq_false q
   unfold szM;rw[if_pos (by omega)]
theorem ywa:Sound Tryz.prog 144 (zad [usP,i64] [i64] (fun t=>some (t.1.length≤maxLen∧0≤t.2∧t.2≤1048576)) (fun t=>szM t.1.length t.2)):=by
 refine zab mixed Tryz.func144 (by kernel_rfl) (by kernel_rfl) zfp (fun t h => ?_)
 obtain⟨m,k⟩:Us × Int:=t
 obtain⟨h1,h2,h3⟩:m.length≤maxLen∧0≤k∧k≤1048576:=h
 have h1:m.length≤9223372036854775807:=h1
 refine zae (yd3 m k) ?_
 rw[zac (n:=k-m.length) (by omega) (by omega)]
 refine⟨fun q=>⟨?_,rfl⟩,fun q=>⟨?_,rfl⟩⟩
 · have q:k-(m.length:Int)<0:=of_decide_eq_true q
   unfold szM;rw[if_neg (by omega)]
 · have q:¬ k-(m.length:Int)<0:=of_decide_eq_false q
   unfold szM;rw[if_pos (by omega)]
theorem zts:Sound Tryz.prog 156 (zad [u64] [bl] (fun s=>some (U64 s)) zbh):=by
 refine zab mixed Tryz.func156 (by kernel_rfl) (by kernel_rfl) zfp (fun  (s:Int) h => ?_)
 refine zae (zu7 s) ⟨by decide,fun _=>by decide, ?_⟩
 rw[show (2:Int) ^ min (Int.toNat 60) 64=1152921504606846976 by decide]
 simp[zbh]
theorem ycp:Sound Tryz.prog 80 (zad [u64] [bl] (fun s=>some (U64 s)) zbh):=by
 refine zab mixed Tryz.func80 (by kernel_rfl) (by kernel_rfl) yem (fun  (s:Int) h => ?_)
 have h:U64 s:=h
 have hb:zh5 (s,60,63):=⟨h,show (0:Int)≤60 by decide,show (60:Int)≤63 by decide,show (63:Int)≤63 by decide,.inl (show (0:Int)<60 by decide)⟩
 refine zae (zrs s) ⟨hb,fun _=>hb, ?_⟩
 rw[ya5 h]
 simp[zbh]
theorem ywj:Sound Tryz.prog 147 (zad [usP] [usP] (fun m=>some (SzR m.length)) (fun m=>m)):=by
 refine zbf mixed Tryz.func147 (by kernel_rfl) (b:=zak Tryz.f147 0) (k:=3) (by kernel_rfl) (by kernel_rfl) (by kernel_rfl) zcg (fun  (m:Us) h => ?_)
 have h:SzR m.length:=h
 have hs:m.length≤2097152:=h
 refine⟨.one 3 (yjh m),yjh m,fun i:Nat=>m.length-i,za1 _ _,fun  (i:Nat) hi=>zae (zvm m i) ?_,zae (yd9 m) ?_⟩
 all_goals (try conv=>zeta)
 · have hi:i≤m.length:=hi
   refine⟨fun g => ?_,fun g => ?_⟩
   · have g:(i:Int)<m.length:=of_decide_eq_true g
     rw[zbn h (by omega),show 0+(i:Int).toNat=i by omega,zqc _ _ _ (by omega)]
     exact⟨⟨by omega,by omega⟩,by omega,⟨by omega,by omega⟩,by simp;omega,i+1,⟨rfl,rfl,rfl,rfl,rfl,rfl,rfl⟩,by omega,by omega,fun _ _=>trivial⟩
   · have g:¬ (i:Int)<m.length:=of_decide_eq_false g
     have:i=m.length:=by omega
     subst this
     exact⟨(),⟨rfl,rfl,rfl,by simp⟩,trivial⟩
 · exact⟨⟨by omega,by omega,by omega⟩,0,⟨rfl,rfl,rfl,by omega,rfl,rfl,by simp[El.zero,Ty.zero]⟩,by omega,fun _ _=>⟨rfl,rfl,rfl,rfl⟩⟩
theorem yug:Sound Tryz.prog 104 (zad [usP,usP] [bl] (fun t=>some (t.1=t.2∧SzR t.1.length)) (fun _=>true)):=by
 refine zbf mixed Tryz.func104 (by kernel_rfl) (b:=zak Tryz.f104 0) (k:=4) (by kernel_rfl) (by kernel_rfl) (by kernel_rfl) zcg (fun t h => ?_)
 obtain⟨m,n⟩:Us × Us:=t
 obtain⟨h0,h⟩:m=n∧SzR m.length:=h
 subst h0
 have hs:m.length≤2097152:=h
 refine⟨.one 4 (yf1 m m),yf1 m m,fun i:Nat=>m.length-i,za1 _ _,fun  (i:Nat) hi=>zae (zua m m i) ?_,zae (yda m m) ?_⟩
 all_goals (try conv=>zeta)
 · have hi:i≤m.length:=hi
   refine⟨fun g => ?_,fun g=>⟨(),⟨rfl,rfl⟩,trivial⟩⟩
   have g:(i:Int)<m.length:=of_decide_eq_true g
   rw[zbn h (by omega)]
   exact⟨⟨by omega,by omega⟩,by omega,⟨by omega,by omega⟩,by omega,fun e=>by simp at e,fun _=>⟨i+1,⟨rfl,rfl,rfl,rfl,rfl,rfl,rfl⟩,by omega,by omega,fun _ _=>trivial⟩⟩
 · exact⟨fun e=>by simp at e,fun _=>⟨0,⟨rfl,rfl,rfl,rfl,rfl,rfl,rfl⟩,by omega,fun _ _=>⟨rfl,rfl,rfl⟩⟩⟩
theorem yha:zar Tryz.prog kHA1 := .cons (by kernel_rfl) yv6 <| .cons (by kernel_rfl) ywa <| .cons (by kernel_rfl) zts <| .cons (by kernel_rfl) ycp <| .cons (by kernel_rfl) ywj <| .cons (by kernel_rfl) yug .nil
theorem zll:DictOk Tryz.prog yxu:=zaw ((yha.append yah).append zd6) .nil .nil
theorem yam1:Sound Tryz.prog 48 (zad [haP,i64] [i64] (fun t=>some ((t.1.1.length≤maxLen∧t.1.2.1.length≤maxLen∧(toC t.1.2.2.2.2.2.2.2.2.2.2.2.2).1.2.2.length≤maxLen∧(toC t.1.2.2.2.2.2.2.2.2.2.2.2.2).2.1.2.2.length≤maxLen∧(toC t.1.2.2.2.2.2.2.2.2.2.2.2.2).2.2.2.2.length≤maxLen)∧0≤t.2∧t.2≤1048576)) (fun t=>szH t.1.1.length t.1.2.1.length (toC t.1.2.2.2.2.2.2.2.2.2.2.2.2) t.2)):=by
 refine zab mixed Tryz.func48 (by kernel_rfl) (by kernel_rfl) zll (fun t h => ?_)
 obtain⟨⟨m,u,pc,mo,su,mx,sa,tv,ep,em,ca,tl,s1,w1,m1,s2,w2,m2,s3,w3,m3⟩,n⟩:Ha × Int:=t
 obtain⟨⟨h1,h2,h3,h4,h5⟩,h6,h7⟩:(m.length≤maxLen∧u.length≤maxLen∧m1.length≤maxLen∧m2.length≤maxLen∧m3.length≤maxLen)∧0≤n∧n≤1048576:=h
 have g1:=zh1 (n:=m.length) h7
 refine zae (yli m u pc mo su mx sa tv ep em ca tl s1 w1 m1 s2 w2 m2 s3 w3 m3 n) ?_
 conv=>zeta
 refine⟨⟨rfl,h1,h6,h7⟩,fun q => ?_,fun q => ?_⟩
 · have q:=of_decide_eq_true q
   simp[szH,q]
 · have q:¬ szM m.length n<0:=of_decide_eq_false q
   have g2:=zh1 (n:=u.length) g1
   refine⟨⟨rfl,h2,by show (0:Int)≤_;omega,g1⟩,fun q2 => ?_,fun q2 => ?_⟩
   · have q2:=of_decide_eq_true q2
     simp[szH,q,q2]
   · have q2:¬ szM u.length (szM m.length n)<0:=of_decide_eq_false q2
     refine⟨⟨rfl,rfl,rfl,⟨h3,h4,h5⟩,by show (0:Int)≤_;omega,g2⟩,fun q3 => ?_,fun q3 => ?_⟩
     · have q3:=of_decide_eq_true q3
       have e:szC ((s1,w1,m1),(s2,w2,m2),(s3,w3,m3)) (szM u.length (szM m.length n)) = -1:=by
        revert q3
        generalize szM u.length (szM m.length n)=k
        intro q3
        unfold szC at q3 ⊢
        split at q3<;>rename_i g
        · rw[if_pos g]
        · rw[if_neg g]
          split at q3<;>rename_i g'
          · rw[if_pos g']
          · rw[if_neg g']
            exact zxx q3
       simp[szH,q,q2,e]
     · simp[szH,q,q2]
theorem yar1:Sound Tryz.prog 50 (zad [haP] [haP] (fun h=>some (SzH h)) (fun h=>h)):=by
 refine zab mixed Tryz.func50 (by kernel_rfl) (by kernel_rfl) zll (fun t h => ?_)
 obtain⟨m,u,pc,mo,su,mx,sa,tv,ep,em,ca,tl,s1,w1,m1,s2,w2,m2,s3,w3,m3⟩:Ha:=t
 obtain⟨h1,h2,h3,h4,h5⟩:SzR m.length∧SzR u.length∧SzR m1.length∧SzR m2.length∧SzR m3.length:=h
 exact zae (yls m u pc mo su mx sa tv ep em ca tl s1 w1 m1 s2 w2 m2 s3 w3 m3) (by simp[h1,h2,h3,h4,h5])
theorem yyz:Sound Tryz.prog 53 (zad [haP,haP] [bl] (fun t=>some (t.1=t.2∧SzH t.1)) (fun _=>true)):=by
 refine zab mixed Tryz.func53 (by kernel_rfl) (by kernel_rfl) zll (fun t h => ?_)
 obtain⟨a,b⟩:Ha × Ha:=t
 obtain⟨rfl,h⟩:a=b∧SzH a:=h
 obtain⟨m,u,pc,mo,su,mx,sa,tv,ep,em,ca,tl,s1,w1,m1,s2,w2,m2,s3,w3,m3⟩:=a
 obtain⟨h1,h2,h3,h4,h5⟩:SzR m.length∧SzR u.length∧SzR m1.length∧SzR m2.length∧SzR m3.length:=h
 refine zae (yj0 m u pc mo su mx sa tv ep em ca tl s1 w1 m1 s2 w2 m2 s3 w3 m3) ?_
 conv=>zeta
 exact (by simp[h1,h2,h3,h4,h5])
theorem yae:Sound Tryz.prog 62 (zad [haP] [bl] (fun h=>some (HaR h)) zea):=by
 refine zab mixed Tryz.func62 (by kernel_rfl) (by kernel_rfl) zll (fun t h => ?_)
 obtain⟨m,u,pc,mo,su,mx,sa,tv,ep,em,ca,tl,s1,w1,m1,s2,w2,m2,s3,w3,m3⟩:Ha:=t
 obtain⟨-, -, -, -, -,h6, -, -, -, -, -,h1,h2,h3⟩:zaz m∧SzR u.length∧(∀r ∈ u,U64 r)∧U64 pc∧I64 mo∧U64 sa∧U64 tv∧U64 ep∧I64 em∧I64 ca∧U64 tl∧TlR (s1,w1,m1)∧TlR (s2,w2,m2)∧TlR (s3,w3,m3):=h
 refine zae (zyg m u pc mo su mx sa tv ep em ca tl s1 w1 m1 s2 w2 m2 s3 w3 m3) ?_
 conv=>zeta
 refine⟨by decide,fun q => ?_,fun q => ?_,fun _=>h6,fun _=>by decide,fun _=>⟨rfl,rfl,rfl,h1,h2,h3⟩, ?_,rfl,rfl,rfl,rfl,rfl⟩
 · simp only[Bool.cond_false_right,Bool.and_eq_true,beq_iff_eq] at q
   exact⟨by omega,by omega⟩
 · simp only[Bool.cond_false_right,Bool.and_eq_true,beq_iff_eq] at q
   show 0+0<u.length
   omega
 · simp only[Bool.cond_false_right]
   rfl
theorem ya3:Sound Tryz.prog 146 (zad [haP] [bl] (fun h=>some (HaR h)) zea):=by
 refine zab mixed Tryz.func146 (by kernel_rfl) (by kernel_rfl) zll (fun t h => ?_)
 obtain⟨m,u,pc,mo,su,mx,sa,tv,ep,em,ca,tl,s1,w1,m1,s2,w2,m2,s3,w3,m3⟩:Ha:=t
 obtain⟨-, -, -, -, -,h6, -, -, -, -, -,h1,h2,h3⟩:zaz m∧SzR u.length∧(∀r ∈ u,U64 r)∧U64 pc∧I64 mo∧U64 sa∧U64 tv∧U64 ep∧I64 em∧I64 ca∧U64 tl∧TlR (s1,w1,m1)∧TlR (s2,w2,m2)∧TlR (s3,w3,m3):=h
 refine zae (zzh m u pc mo su mx sa tv ep em ca tl s1 w1 m1 s2 w2 m2 s3 w3 m3) ?_
 conv=>zeta
 refine⟨by decide,fun q => ?_,fun q => ?_,fun _=>h6,fun _=>by decide,fun _=>⟨rfl,rfl,rfl,h1,h2,h3⟩, ?_,rfl,rfl,rfl,rfl,rfl⟩
 · simp only[Bool.cond_false_right,Bool.and_eq_true,beq_iff_eq] at q
   exact⟨by omega,by omega⟩
 · simp only[Bool.cond_false_right,Bool.and_eq_true,beq_iff_eq] at q
   show 0+0<u.length
   omega
 · simp only[Bool.cond_false_right]
   rfl
theorem zw7:zar Tryz.prog kHA2 := .cons (by kernel_rfl) yam1 <| .cons (by kernel_rfl) yar1 <| .cons (by kernel_rfl) yyz <| .cons (by kernel_rfl) yae <| .cons (by kernel_rfl) ya3 .nil
theorem wf_us{m:Us}(h:WfC (.sl [.i .u64]) m):∀r ∈ m,U64 r:=fun r hr=>zjl (h.2 r hr)
theorem yv9{a b:Nat}{k:Cch}{n:Int}(hn:n≤1048576)(h:¬ szH a b k n<0):SzR a∧SzR b∧SzC k:=by
 unfold szH at h
 split at h
 · exact absurd (by decide) h
 · rename_i h1
   split at h
   · exact absurd (by decide) h
   · rename_i h2
     exact⟨yi8 hn h1,yi8 (zh1 hn) h2,yv7 (zh1 (zh1 hn)) h⟩
end Go.Proofs.YtfiddfbagbaofaaGreat.V
