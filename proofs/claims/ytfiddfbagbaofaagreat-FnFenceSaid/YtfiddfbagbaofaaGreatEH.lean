/- The reference's step: a whole step; and that it keeps its kinds. Conditions: those in each statement. -/
import Derived.Test.YtfiddfbagbaofaaGreatEG
import Derived.KernelRfl
namespace Go.Proofs.YtfiddfbagbaofaaGreat.V
open Go
def yxe(r:Rn)(x:Int):Rn:=zbg r (x % 256) (x/256 % 256) (x/65536 % 256) (x/16777216) x
def ydv(t:Rn × Int × Int)(pc:Int):Rn :=
 if t.2.1=0 then (if (zbi t.1.m t.2.2 4).1=true then yxe t.1 (zbi t.1.m t.2.2 4).2 else zeh t.1 1 pc) else zeh t.1 t.2.1 pc
def zbk(r:Rn):Rn:=if r.pc % 4=0 then ydv (za2 r 0 r.pc) r.pc else zeh r 20 r.pc
def znd(r:Rn):Prop:=RnR r∧r.cs=0∧r.ks.length+3≤2097152
def kEH0:Known:=(208,zsm [ruP,i64,i64,i64,i64,u64] [ruP] (fun t=>some (zek (Rn.of t.1) t.2.2.1 t.2.2.2.1 t.2.2.2.2.1 t.2.2.2.2.2)) (fun t=>(zbg (Rn.of t.1) t.2.1 t.2.2.1 t.2.2.2.1 t.2.2.2.2.1 t.2.2.2.2.2).t))::kEG0
def FEH0:Dict:=mkD (kEH0++kB3) [] []
def yp4(pc:Int)(k:Nat):Option CutS :=
 if k=6 then some (CutS.mk (Rn × Int × Int) (fun _=>slots 62 [(1,.ptr 6 0),(2,.ptr 7 0),(3,.v (.int .u64 pc)),(4,.ptr 8 0)]) (fun z=>dead6++[.fix (zu2 z.1 9) true (some 110),.fix ycu true (some 110),.fix [.v (.int .i64 z.2.1),.v (.int .u64 z.2.2)] true (some 77)]++yct z.1))
 else if k=12 then some (CutS.mk (Rn × Int) (fun z=>slots 62 [(1,.ptr 6 0),(2,.ptr 7 0),(6,.v (.int .u64 z.2))]) (fun z=>dead6++[.fix (zu2 z.1 8) true (some 110),.fix ycu true (some 110)]++yct z.1)) else none
def yuk(pc:Int):Specs:={ Specs.none with cut:=yp4 pc }
def yil(r y:Rn):Prop:=zic Tryz.prog FEH0 (yuk r.pc) Tryz.f162 [ruP] [ruP] r.t y.t
def kEH1:Known:=(162,zsm [ruP] [ruP] (fun x=>some (znd (Rn.of x))) (fun x=>(zbk (Rn.of x)).t))::kEH0++yvj
def FEH1:Dict:=mkD kEH1 [] []
def Rn.start(r:Rn)(pl:Bool)(pk:Int):Rn:={ r with pl:=pl,pk:=pk,cs:=0,tw:=0,ks:=[],fd:=false,f1:=false,f2:=0,f3:=false,f4:=0 }
def Rn.evict(r:Rn)(k:Int):Rn:={ r with s1:=(zcw (r.s1,r.w1,r.m1) k).1,w1:=(zcw (r.s1,r.w1,r.m1) k).2.1,m1:=(zcw (r.s1,r.w1,r.m1) k).2.2,s2:=(zcw (r.s2,r.w2,r.m2) k).1,w2:=(zcw (r.s2,r.w2,r.m2) k).2.1,m2:=(zcw (r.s2,r.w2,r.m2) k).2.2,s3:=(zcw (r.s3,r.w3,r.m3) k).1,w3:=(zcw (r.s3,r.w3,r.m3) k).2.1,m3:=(zcw (r.s3,r.w3,r.m3) k).2.2 }
def Rn.first(r:Rn)(pl:Bool)(pk:Int):Rn:=if (decide (pk≥128) && !pl)=true then (r.start pl pk).evict (pk-128) else r.start pl pk
def Rn.back(r y:Rn):Rn:={ y with m:=r.m,u:=r.u,pc:=r.tv,mo:=2,su:=r.su,mx:=r.mx,sa:=r.sa,tv:=r.tv,ep:=r.pc,em:=r.mo,ca:=y.cs,tl:=y.tw }
def zqa(r:Rn)(pl:Bool)(pk:Int):Rn:=if (zbk (r.first pl pk)).cs=0 then zbk (r.first pl pk) else r.back (zbk (r.first pl pk))
def zrd(r:Rn)(pk:Int):Prop:=HaR r.h∧r.u.length=8∧0≤pk∧pk≤255∧1≤r.m1.length∧1≤r.m2.length∧1≤r.m3.length
def argH(r:Rn):Heap:=[.arr [.i .u8] r.m false,.arr [.i .u64] r.u false,.arr shE r.m1 false,.arr shE r.m2 false,.arr shE r.m3 false]
def ymc(r:Rn)(pl:Bool)(pk:Int)(k:Nat):Option CutS :=
 if k=3 then some (CutS.mk Rn (fun _=>slots 72 [(1,.v (.bool pl)),(2,.v (.int .i64 pk)),(3,.ptr 5 0),(6,.ptr 6 0),(7,.ptr 7 0)]) (fun z=>argH r++[.fix ((zu2 r 0).take 21) true (some 41),.fix ycu true (some 110),.fix (zu2 z 8) true (some 110)]++yct z)) else none
def stepX(r:Rn)(pl:Bool)(pk:Int):Specs:={ Specs.none with cond:=ymc r pl pk }
def zt5(r:Rn)(pl:Bool)(pk:Int)(y:Rn):Prop:=zal Tryz.prog FEH1 (stepX r pl pk) Tryz.f65 [haP,bl,i64] [ruP] (r.h,pl,pk) y.t
set_option linter.unusedVariables false
theorem zt1(r y:Rn):yil r y=(
 let A0(a:Int):=IntKind.i64.wrap (a.tmod 256);
 let A1(a:Rn × Int)(b:Int):=IntKind.u64.wrap (a.snd.tdiv b);
 let A2(a b:Es):=List.length a=List.length b;
 let A3(a b c:Prop):=a∧b∧c;
 let A4(a b c d e:Prop):=A3 a b (A3 c d e);
 let A5(a:Rn):=List.length a.26;
 let A6(a:Rn × Int):=A0 (A1 a 256);
 let A7(a:Rn × Int):=IntKind.i64.wrap (A1 a 16777216);
 let A8(a b c d e f g h i:Prop):=A4 a b c d (A4 e f g h i);
 let A9:=(0:Int)=0;
 let Aa:=(0:Nat)=0;
 let Ab(a:Rn × Int):=A0 (A1 a 65536);
 let Ac(a b c d e f g h i j k l m n o p q:Prop):=A8 a b c d e f g h (A8 i j k l m n o p q);
 let Ad(a:Rn × Int):=zbg a.fst (A0 a.snd) (A6 a) (Ab a) (A7 a) a.snd;
 let Ae:=Value.slice none 0 0;
 let Af:=(za2 r 0 r.3).fst;
 let Ah(a b c d e f g h i j k l m n o p q r s t u v w:Prop)(x y:Bool)(z B C:Prop)(D E:Rn):=Ac a b c d e f g h i j k l m n o p (Ac q r s t u v w (x=y) z B C (D.1=E.1) (D.2=E.2) (D.15=E.15) (D.18=E.18) (D.21=E.21)
  (D.26=E.26));
 let Ai(a b:Rn):=A2 a.21 b.21;
 let Aj(a:Int):=a≠0;
 let Ak(a b:Rn):=A2 a.18 b.18;
 let Al(a b:Rn):=List.length a.1=List.length b.1;
 let Am(a b:Rn):=A2 a.15 b.15;
 let An:=Aj 256;
 let Ao(a b:Rn):=List.length a.2=List.length b.2;
 let Ap:=false=false;
 let Aq(a b:Rn):=A5 a=A5 b;
 let Ar(a b c d e f g:Prop)(h i:Rn):=Ah a a A9 A9 A9 A9 A9 A9 b A9 c b A9 c b d c a A9 b d e a false false A9 f g h i;
 let Au(a:Rn):=Ah (y.9=a.9) (y.10=a.10) (y.11=a.11) (y.12=a.12) (y.13=a.13) (y.14=a.14) Aa (Am y a) (y.16=a.16) (y.17=a.17) Aa (Ak y a) (y.19=a.19) (y.20=a.20) Aa (Ai y a) (y.22=a.22) (y.23=a.23) (y.24=a.24)
  (y.25=a.25) Aa (A5 y=A5 a) (y.27=a.27) y.28 a.28 (y.29=a.29) (y.30=a.30) (y.31=a.31) y a;
 let Aw(a:Rn × Int × Int):=a.snd.snd;
 let Ax:=Ae=Ae;
 let Ay(a:Rn)(b:Prop)(c:Rn):=(Al a a∧b)∧A3 Aa (Al y c) (A8 Aa (Ao y c) (y.3=c.3) (y.4=c.4) (y.5=c.5) (y.6=c.6) (y.7=c.7) (y.8=c.8) (Au c));
 let Az(a:Prop)(b:Bool)(c d:Prop):=A3 a (b=true→c) (b=false→d);
 let AB(a:Rn × Int × Int):=A4 (Ao a.fst a.fst) (Am a.fst a.fst) (Ak a.fst a.fst) (Ai a.fst a.fst) (Aq a.fst a.fst);
 let AC(a:Rn × Int × Int) := !(zbi a.fst.1 (Aw a) 4).fst;
 let AD:=(za2 r 0 r.3).snd;
 Az (Aj 4) (r.3.tmod 4 != 0) (Ay r (A4 (Ao r r) (Am r r) (Ak r r) (Ai r r) (Aq r r)) (zeh r 20 r.3)) ((Al r r∧A3 (Ao r r) (Am r r) (A4 (Ak r r) (Ai r r) (Aq r r) (RnR r) (U64 r.3)))∧∃(x0:Rn × Int ×
  Int),Az (A4 (r.3=r.3) Aa (Al x0.fst Af) Aa (A8 (Ao x0.fst Af) (x0.fst.3=Af.3) (x0.fst.4=Af.4) (x0.fst.5=Af.5) (x0.fst.6=Af.6) (x0.fst.7=Af.7) (x0.fst.8=Af.8) (x0.fst.9=Af.9) (Ac (x0.fst.10=Af.10) (x0.fst.11 =
  Af.11) (x0.fst.12=Af.12) (x0.fst.13=Af.13) (x0.fst.14=Af.14) Aa (Am x0.fst Af) (x0.fst.16=Af.16) (x0.fst.17=Af.17) Aa (Ak x0.fst Af) (x0.fst.19=Af.19) (x0.fst.20=Af.20) Aa (Ai x0.fst Af) (x0.fst.22=Af.22) (Ac
  (x0.fst.23=Af.23) (x0.fst.24=Af.24) (x0.fst.25=Af.25) Aa (Aq x0.fst Af) (x0.fst.27=Af.27) (x0.fst.28=Af.28) (x0.fst.29=Af.29) (x0.fst.30=Af.30) (x0.fst.31=Af.31) Ax Ax A9 A9 Ap Ap (Ar A9 Ax A9 Ap Ap (x0.snd.fst =
  AD.fst) (Aw x0=AD.snd) x0.fst Af))))) (x0.snd.fst != 0) (Ay x0.fst (AB x0) (zeh x0.fst x0.snd.fst r.3)) (A3 (A3 (Al x0.fst x0.fst) (zan x0.fst.1) (U64 (Aw x0))) (AC x0=true→Ay x0.fst (AB x0) (zeh x0.fst (1
  : Int) r.3)) (AC x0=false→∃(x1:Rn × Int),A3 (A3 (x1.snd=(zbi x0.fst.1 (Aw x0) 4).snd) Aa (A8 (Al x1.fst x0.fst) Aa (Ao x1.fst x0.fst) (x1.fst.3=x0.fst.3) (x1.fst.4=x0.fst.4) (x1.fst.5=x0.fst.5)
  (x1.fst.6=x0.fst.6) (x1.fst.7=x0.fst.7) (Ac (x1.fst.8=x0.fst.8) (x1.fst.9=x0.fst.9) (x1.fst.10=x0.fst.10) (x1.fst.11=x0.fst.11) (x1.fst.12=x0.fst.12) (x1.fst.13=x0.fst.13) (x1.fst.14=x0.fst.14) Aa (Am
  x1.fst x0.fst) (x1.fst.16=x0.fst.16) (x1.fst.17=x0.fst.17) Aa (Ak x1.fst x0.fst) (x1.fst.19=x0.fst.19) (x1.fst.20=x0.fst.20) Aa (Ac (Ai x1.fst x0.fst) (x1.fst.22=x0.fst.22) (x1.fst.23=x0.fst.23) (x1.fst.24 =
  x0.fst.24) (x1.fst.25=x0.fst.25) Aa (Aq x1.fst x0.fst) (x1.fst.27=x0.fst.27) (x1.fst.28=x0.fst.28) (x1.fst.29=x0.fst.29) (x1.fst.30=x0.fst.30) (x1.fst.31=x0.fst.31) Ax Ax A9 A9 (Ar Ap A9 Ax A9 Ax Ap A9 x1.fst
  x0.fst))))) An (Ac An An (Aj 65536) An (Aj 16777216) (A3 (Al x1.fst x1.fst) (Ao x1.fst x1.fst) (A4 (Am x1.fst x1.fst) (Ak x1.fst x1.fst) (Ai x1.fst x1.fst) (Aq x1.fst x1.fst) (zek x1.fst (A6 x1) (Ab x1) (A7
  x1) x1.snd))) Aa (Al y (Ad x1)) Aa (Ao y (Ad x1)) (y.3=(Ad x1).3) (y.4=(Ad x1).4) (y.5=(Ad x1).5) (y.6=(Ad x1).6) (y.7=(Ad x1).7) (y.8=(Ad x1).8) (Au (Ad x1))))))):=by kernel_rfl
theorem zt6(r:Rn)(pl:Bool)(pk:Int)(y:Rn):zt5 r pl pk y=(
 let A0(a:Int):=a=0;
 let A1(a b c:Prop):=a∧b∧c;
 let A2(a b c d e:Prop):=A1 a b (A1 c d e);
 let A3:=A0 0;
 let A4(a b:Es):=List.length a=List.length b;
 let A5:=(0:Nat)=0;
 let A6(a b c d e f g h i:Prop):=A2 a b c d (A2 e f g h i);
 let A7(a:Rn):=List.length a.2;
 let A8(a:Rn):=List.length a.1;
 let A9:=IntKind.i64.wrap (pk-128);
 let Aa(a b c d e f g h i j k l m n o p q:Prop):=A6 a b c d e f g h (A6 i j k l m n o p q);
 let Ab(a b c d e f g h i j k l m n o p q r s t u v w x y z B C D E F G H:Prop):=Aa a b c d e f g h i j k l m n o p (Aa q r s t u v w x y z B C D E F G H);
 let Ac:=Value.slice none 0 0;
 let Ad(a:Rn):=List.length a.26;
 let Ae(a:Bool):=a=false;
 let Af(a b c d e f g h:Prop)(i j:Int)(k l m:Prop)(n o:Int)(p q r s t u v w x y z B C D E F G H I J:Prop):=Ab a b c d e f g h (i=j) k l m (n=o) p q r s t u v w x y z B C D E F G H I J;
 let Ah:=Ae false;
 let Ai(a b:Rn):=Af (y.14=(zbk a).14) A5 (A4 y.15 (zbk a).15) (y.16=(zbk a).16) (y.17=(zbk a).17) A5 (A4 y.18 (zbk a).18) (y.19=(zbk a).19) y.20 (zbk a).20 A5 (A4 y.21 (zbk a).21) (y.22=(zbk a).22) y.23
  (zbk a).23 (y.24=(zbk a).24) (y.25=(zbk a).25) A5 (Ad y=Ad (zbk a)) (y.27=(zbk a).27) (y.28=(zbk a).28) (y.29=(zbk a).29) (y.30=(zbk a).30) (y.31=(zbk a).31) (r.1=r.1) (r.2=r.2) (r.15=r.15) (r.18 =
  r.18) (r.21=r.21) (y.1=b.1) (y.2=b.2) (y.15=(zbk a).15) (y.18=(zbk a).18) (y.21=(zbk a).21) (y.26=(zbk a).26);
 let Aj(a b:Int)(c:Es):=(zcw (a,b,c) A9).snd;
 let Ak(a b:Rn):=A4 a.21 b.21;
 let Al(a b:Rn):=A4 a.18 b.18;
 let Am(a b:Rn):=A4 a.15 b.15;
 let An(a b:Rn):=A8 a=A8 b;
 let Ao(a b:Rn):=A7 a=A7 b;
 let Ap(a:Rn):=(zbk a).24==0;
 let Aq(a:Es)(b:CsT [Cs.i IntKind.i64,Cs.sl shE]):=List.length a=List.length b.snd;
 let Ar(a:Prop)(b:Es):=a∧A1 (SzR (List.length b)) ((1:Nat)≤List.length b) ((0:PmT [i64])≤A9);
 let Au(a b:Int)(c:Es):=(zcw (a,b,c) A9).fst;
 let Aw:=bif decide (pk≥128) then !pl else false;
 let Ax(a:Rn)(b:Prop)(c:Rn→Prop):=A1 (pl=pl) (pk=pk) (A6 (r.1=r.1) (r.2=r.2) (r.15=r.15) (r.18=r.18) (r.21=r.21) A5 (A8 r=A8 r) A5 (Af (A7 r=A7 r) (r.3=r.3) (r.4=r.4) (r.5=r.5) (r.6=r.6) (r.7=r.7)
  (r.8=r.8) (r.9=r.9) r.10 r.10 (r.11=r.11) (r.12=r.12) (r.13=r.13) r.14 r.14 A5 (A4 r.15 r.15) (r.16=r.16) (r.17=r.17) A5 (A4 r.18 r.18) (r.19=r.19) (r.20=r.20) A5 (A4 r.21 r.21) (Ac=Ac) (Ac=Ac) A3 A3 Ah Ah A3 A3 A3 (Ab
  A3 A3 A3 A3 A3 (Ac=Ac) A3 A3 (Ac=Ac) A3 A3 (Ac=Ac) Ah A3 A3 A3 (Ac=Ac) Ah Ah A3 Ah A3 A5 (A8 a=A8 r) A5 (A7 a=A7 r) (a.3=r.3) (a.4=r.4) (a.5=r.5) (a.6=r.6) (a.7=r.7) (a.8=r.8) b)))∧c a;
 let Ay(a:Rn):=y.13=(zbk a).13;
 let Az:=An r r∧A2 (Ao r r) (Am r r) (Al r r) (Ak r r) (SzH (r.1,r.2,r.3,r.4,r.5,r.6,r.7,r.8,r.9,r.10,r.11,r.12,r.13,r.14,r.15,r.16,r.17,r.18,r.19,r.20,r.21));
 let AB:=Aj r.19 r.20 r.21;
 let AC:=List.length r.21;
 let AD(a:Es)(b c:Int)(d:Es):=a=(Aj b c d).snd;
 Az∧∃(x0:Rn→Prop),((Aw=true→Ar (Am r r) r.15∧A1 (Ar (Al r r) r.18) (Ak r r∧A1 (SzR AC) ((1:Nat)≤AC) ((0:PmT [i64])≤A9)) (∃(x1:Rn),Ax x1 (Ab (x1.9=r.9) (x1.10=r.10) (x1.11=r.11) (x1.12=r.12) (x1.13
  = Au r.13 r.14 r.15) (x1.14=(Aj r.13 r.14 r.15).fst) A5 (Aq x1.15 (Aj r.13 r.14 r.15)) (x1.16=Au r.16 r.17 r.18) (x1.17=(Aj r.16 r.17 r.18).fst) A5 (Aq x1.18 (Aj r.16 r.17 r.18)) (x1.19=Au r.19 r.20 r.21) (x1.20=AB.fst) A5
  (Aq x1.21 AB) (x1.22=pl) (x1.23=pk) (A0 x1.24) (A0 x1.25) A5 (Ad x1=0) (Ae x1.27) (Ae x1.28) (A0 x1.29) (Ae x1.30) (A0 x1.31) (x1.1=r.1) (x1.2=r.2) (AD x1.15 r.13 r.14 r.15) (AD x1.18 r.16 r.17 r.18) (AD
  x1.21 r.19 r.20 r.21) (x1.26=[])) x0))∧(Ae Aw→∃(x2:Rn),Ax x2 (Af (x2.9=r.9) (x2.10=r.10) (x2.11=r.11) (x2.12=r.12) (x2.13=r.13) (x2.14=r.14) A5 (Am x2 r) x2.16 r.16 (x2.17=r.17) A5 (Al x2 r) x2.19
  r.19 (x2.20=r.20) A5 (Ak x2 r) (x2.22=pl) (x2.23=pk) (A0 x2.24) (A0 x2.25) A5 (Ad x2=0) (Ae x2.27) (Ae x2.28) (A0 x2.29) (Ae x2.30) (A0 x2.31) (x2.1=r.1) (x2.2=r.2) (x2.15=r.15) (x2.18=r.18) (x2.21 =
  r.21) (x2.26=[])) x0))∧∀(x3:Rn),x0 x3→A1 (A1 (An x3 x3) (Ao x3 x3) (A2 (Am x3 x3) (Al x3 x3) (Ak x3 x3) (Ad x3=Ad x3) (znd x3))) (Ap x3=true→A5∧A1 (An y (zbk x3)) A5 (A2 (Ao y (zbk x3)) (y.3 =
  (zbk x3).3) (y.4=(zbk x3).4) (y.5=(zbk x3).5) (A6 (y.6=(zbk x3).6) (y.7=(zbk x3).7) (y.8=(zbk x3).8) (y.9=(zbk x3).9) (y.10=(zbk x3).10) (y.11=(zbk x3).11) (y.12=(zbk x3).12) (Ay x3) (Ai x3
  (zbk x3))))) (Ae (Ap x3)→Aa Az A5 (An y r) A5 (Ao y r) (y.3=r.8) (y.4=2) (y.5=r.5) (y.6=r.6) (y.7=r.7) (y.8=r.8) (y.9=r.3) (y.10=r.4) (y.11=(zbk x3).24) (y.12=(zbk x3).25) (Ay x3) (Ai x3 r))):=by kernel_rfl
set_option linter.unusedSimpArgs false
set_option linter.unusedVariables false
theorem zga{r:Rn}(h:RnR r){a x:Int}(hx:U64 x):RnR (zcx r a x):=by
 obtain⟨⟨a1,a2,a3,a4,a5,a6,a7,a8,a9,a10,a11,a12⟩,b,d⟩:=h
 have hl:(if 0<a then r.u.set a.toNat x else r.u).length=r.u.length:=by split<;>simp
 refine⟨⟨a1, ?_, ?_,a4,a5,a6,a7,a8,a9,a10,a11,a12⟩,hl.trans b,d⟩
 · show SzR (if 0<a then r.u.set a.toNat x else r.u).length
   rw[hl];exact a2
 · show ∀y ∈ (if 0<a then r.u.set a.toNat x else r.u),U64 y
   intro y hy
   split at hy
   · rcases List.mem_or_eq_of_mem_set hy with hy|rfl
     · exact a3 y hy
     · exact hx
   · exact a3 y hy
theorem zhu{r:Rn}(h:RnR r)(c v:Int):RnR (zeh r c v):=⟨h.1,h.2.1,h.2.2⟩
theorem yg5:∀(ps:Ps)(m b:By),zan m→(∀x ∈ b,0≤x∧x<256)→(∀p ∈ ps,0≤p.2.1∧0≤p.2.2∧p.2.2+p.2.1≤m.length)→zan (zjd m ps b)
 | [],m,b,h,_,_=>h
 | p::ps,m,b,h,hb,hp=>by
  obtain⟨h1,h2,h3⟩:=hp p (by simp)
  have hl:(zpz m p.2.2.toNat (b.take p.2.1.toNat)).length=m.length:=zp0 (by simp;omega)
  unfold zjd
  refine yg5 ps _ _ ⟨by rw[hl];exact h.1,fun x hx => ?_⟩ (fun x hx=>hb x (List.mem_of_mem_drop hx)) (fun q hq=>by rw[hl];exact hp q (by simp[hq]))
  unfold zpz at hx
  rcases List.mem_append.1 hx with hx|hx
  · rcases List.mem_append.1 hx with hx|hx
    · exact h.2 x (List.mem_of_mem_take hx)
    · exact hb x (List.mem_of_mem_take hx)
  · exact h.2 x (List.mem_of_mem_drop hx)
theorem zpk{t:Tl}(h:TlR t)(f:Fc):TlR (zdl t f):=by
 obtain⟨a,b,c,d⟩:=h
 unfold zdl
 split
 · refine⟨a,b,by simpa using c,fun e he => ?_⟩
   obtain⟨x,hx,rfl⟩:=List.mem_map.1 he
   unfold yv2
   split
   · exact⟨zye,zie,zie,zie⟩
   · exact d x hx
 · exact⟨a,b,c,d⟩
theorem yve{s:Int}(h0:0≤s)(h1:s<256):U64 (zkz s):=by
 unfold zkz
 split
 · exact zej _
 · exact⟨h0,by omega⟩
theorem you{m:By}{ps:Ps}(hm:zan m)(hp:PsR m.length ps):U64 (zda (zfd m ps)):=ziz (zji hm) (Nat.le_trans zev hp.2.2.1)
def DoR(r:Rn)(z:Zx):Prop:=RnR r∧r.cs=0∧r.ks.length+2≤2097152∧U64 z.2.2.2.1∧U64 z.2.2.2.2.2.1∧(0≤z.2.2.1∧z.2.2.1<8)∧(1≤z.2.2.2.2.2.2.2.2∧z.2.2.2.2.2.2.2.2≤8)
theorem do_in{r:Rn}{z:Zx}{op s word:Int}(h:DoR r z):RnR (doM r z op s word)∧(doM r z op s word).ks.length≤r.ks.length+2:=by
 obtain⟨h4,h2,h3,hi,hxa,hc8,hW⟩:=h
 obtain⟨za,zb,zc,imm,jump,xa,xb,xc,w⟩:=z
 dsimp only at hi hxa hc8 hW
 have hk:r.ks.length≤r.ks.length+2:=by omega
 have hPW:zet r (IntKind.u64.wrap (xb+imm)) w:=⟨h4,h3,zej _,hW.1,hW.2⟩
 have hP8:zet r (IntKind.u64.wrap (xb+imm)) 8:=⟨h4,h3,zej _,by omega,by omega⟩
 have put:∀{w v:Int},zet r (IntKind.u64.wrap (xb+imm)) w→(za9 r 2 (IntKind.u64.wrap (xb+imm)) w).1.cs=0→RnR (ya5 (za9 r 2 (IntKind.u64.wrap (xb+imm)) w) w v)∧(ya5 (za9 r 2 (IntKind.u64.wrap (xb+imm)) w) w v).ks.length≤r.ks.length+2:=by
  intro w v hP hc
  obtain⟨n1,n2,n3,n4,n5,n6,n7⟩:=zd8 (kind:=2) hP
  have n8:=n7 h2 hc
  rw[← n3] at n8
  obtain⟨⟨a1,a2,a3,a4,a5,a6,a7,a8,a9,a10,a11,a12⟩,b,d⟩:=n1
  exact⟨⟨⟨yg5 _ _ _ a1 (fun x hx=>zbv _ _ x hx) (fun p hp=>by obtain⟨x1,x2,x3,x4⟩:=n8.1.2.2.2 p hp;exact⟨x1,x3,x4⟩),a2,a3,a4,a5,a6,a7,a8,a9,a10,a11,a12⟩,b,d⟩,n2⟩
 have hpc:∀x:Int,RnR { r with pc:=IntKind.u64.wrap x }:=fun x=>by
  obtain⟨⟨a1,a2,a3,a4,a5,a6,a7,a8,a9,a10,a11,a12⟩,b,d⟩:=h4
  exact⟨⟨a1,a2,a3,zej _,a5,a6,a7,a8,a9,a10,a11,a12⟩,b,d⟩
 obtain⟨⟨a1,a2,a3,a4,a5,a6,a7,a8,a9,a10,a11,a12⟩,b,d⟩:=id h4
 by_cases o1:op=1
 · simp only[doM,if_pos o1]
   exact⟨zga h4 hi,hk⟩
 by_cases o2:op=2
 · simp only[doM,if_neg o1,if_pos o2]
   exact⟨zga h4 (zej _),hk⟩
 by_cases o3:op=3
 · simp only[doM,if_neg o1,if_neg o2,if_pos o3]
   exact⟨zga h4 (zej _),hk⟩
 by_cases o4:op=4
 · simp only[doM,if_neg o1,if_neg o2,if_neg o3,if_pos o4]
   exact⟨zga h4 (zej _),hk⟩
 by_cases o5:op=5
 · simp only[doM,if_neg o1,if_neg o2,if_neg o3,if_neg o4,if_pos o5]
   obtain⟨n1,n2,n3,n4,n5,n6,n7⟩:=zd8 (kind:=1) hPW
   unfold yfv
   split
   · rename_i hc
     have n8:=n7 h2 hc
     rw[← n3] at n8
     exact⟨zga n1 (you n1.1.1 n8.1),n2⟩
   · exact⟨n1,n2⟩
 by_cases o6:op=6
 · simp only[doM,if_neg o1,if_neg o2,if_neg o3,if_neg o4,if_neg o5,if_pos o6]
   obtain⟨n1,n2,n3,n4,n5,n6,n7⟩:=zd8 (kind:=2) hPW
   unfold zta
   split
   · rename_i hc
     exact put hPW hc
   · exact⟨n1,n2⟩
 by_cases o7:op=7
 · simp only[doM,if_neg o1,if_neg o2,if_neg o3,if_neg o4,if_neg o5,if_neg o6,if_pos o7]
   obtain⟨n1,n2,n3,n4,n5,n6,n7⟩:=zd8 (kind:=2) hP8
   unfold yuf
   split
   · rename_i hc
     have n8:=n7 h2 hc
     rw[← n3] at n8
     obtain⟨x,y⟩:=put (v:=IntKind.u64.wrap (yv0 (za9 r 2 (IntKind.u64.wrap (xb+imm)) 8)+xc)) hP8 hc
     exact⟨zga x (you n1.1.1 n8.1),y⟩
   · exact⟨n1,n2⟩
 by_cases o8:op=8
 · simp only[doM,if_neg o1,if_neg o2,if_neg o3,if_neg o4,if_neg o5,if_neg o6,if_neg o7,if_pos o8]
   split
   · exact⟨h4,hk⟩
   · exact⟨hpc _,hk⟩
 by_cases o9:op=9
 · simp only[doM,if_neg o1,if_neg o2,if_neg o3,if_neg o4,if_neg o5,if_neg o6,if_neg o7,if_neg o8,if_pos o9]
   split
   · exact⟨⟨⟨a1,a2,a3,a4,a5,hxa,a7,a8,a9,a10,a11,a12⟩,b,d⟩,hk⟩
   · exact⟨h4,hk⟩
 by_cases o10:op=10
 · simp only[doM,if_neg o1,if_neg o2,if_neg o3,if_neg o4,if_neg o5,if_neg o6,if_neg o7,if_neg o8,if_neg o9,if_pos o10]
   exact⟨⟨⟨a1,a2,a3,a4,a5,a6,a7,a8,a9,a10,a11,a12⟩,b,d⟩,hk⟩
 by_cases o11:op=11
 · simp only[doM,if_neg o1,if_neg o2,if_neg o3,if_neg o4,if_neg o5,if_neg o6,if_neg o7,if_neg o8,if_neg o9,if_neg o10,if_pos o11]
   unfold zn2
   split
   · exact⟨⟨⟨a1,a2,a3,a4,a5,a6,a7,a8,a9,a10,a11,a12⟩,b,d⟩,hk⟩
   · refine⟨RnR.withK (r:=fenced r _) ⟨⟨a1,a2,a3,a4,a5,a6,a7,a8,a9,a10,a11,a12⟩,b,d⟩ ?_,hk⟩
     exact⟨zpk a12.1 _,zpk a12.2.1 _,zpk a12.2.2 _⟩
 by_cases o12:op=12
 · simp only[doM,if_neg o1,if_neg o2,if_neg o3,if_neg o4,if_neg o5,if_neg o6,if_neg o7,if_neg o8,if_neg o9,if_neg o10,if_neg o11,if_pos o12]
   exact⟨⟨⟨a1,a2,a3,zej _,a9,a6,a7,a8,a9,a10,a11,a12⟩,b,d⟩,hk⟩
 by_cases o13:op=13
 · simp only[doM,if_neg o1,if_neg o2,if_neg o3,if_neg o4,if_neg o5,if_neg o6,if_neg o7,if_neg o8,if_neg o9,if_neg o10,if_neg o11,if_neg o12,if_pos o13]
   exact⟨⟨⟨a1,a2,a3,a4,a5,a6,a7,hxa,⟨by show _≤zc;omega,by show zc<_;omega⟩,a10,a11,a12⟩,b,d⟩,hk⟩
 by_cases o14:op=14
 · simp only[doM,if_neg o1,if_neg o2,if_neg o3,if_neg o4,if_neg o5,if_neg o6,if_neg o7,if_neg o8,if_neg o9,if_neg o10,if_neg o11,if_neg o12,if_neg o13,if_pos o14]
   exact⟨zhu h4 _ _,hk⟩
 simp only[doM,if_neg o1,if_neg o2,if_neg o3,if_neg o4,if_neg o5,if_neg o6,if_neg o7,if_neg o8,if_neg o9,if_neg o10,if_neg o11,if_neg o12,if_neg o13,if_neg o14]
 exact⟨zhu h4 _ _,hk⟩
theorem zzf{r:Rn}{p q s word:Int}(h:zek r p q s word):DoR (pc4 r) (zg9 r p q s):=by
 obtain⟨h1,h2,h3,hp,hq,hs,hw⟩:=h
 exact⟨zd9 h1,h2,h3,yve hs.1 hs.2,zbb h1 (by omega) (by omega),⟨by show 0≤q % 8;omega,by show q % 8<8;omega⟩,zsx (c:=q % 8)⟩
theorem yqk{r:Rn}{op p q s word:Int}(h:zek r p q s word):RnR (zbg r op p q s word)∧(zbg r op p q s word).ks.length≤r.ks.length+2:=by
 have hz:=zzf h
 unfold zbg
 split
 · exact⟨zhu hz.1 _ _,by show r.ks.length≤_;omega⟩
 · exact do_in hz
theorem read4{m:By}(hm:zan m){a:Int}:0≤(zbi m a 4).2∧(zbi m a 4).2<4294967296:=by
 unfold zbi
 split
 · have h:=zmi (m:=(m.drop a.toNat).take (4:Int).toNat) (fun b hb=>hm.2 b (List.mem_of_mem_drop (List.mem_of_mem_take hb)))
   have hl:((m.drop a.toNat).take (4:Int).toNat).length≤4:=List.length_take_le _ _
   refine⟨h.1,Int.lt_of_lt_of_le h.2 ?_⟩
   generalize ((m.drop a.toNat).take (4:Int).toNat).length=n at hl
   have:n=0∨n=1∨n=2∨n=3∨n=4:=by omega
   rcases this with rfl|rfl|rfl|rfl|rfl<;>decide
 · exact⟨by show (0:Int)≤0;omega,by show (0:Int)<_;omega⟩
theorem zyc{r:Rn}(h:RnR r)(hc:r.cs=0)(hk:r.ks.length+2≤2097152){x:Int}(h0:0≤x)(h1:x<4294967296):zek r (x/256 % 256) (x/65536 % 256) (x/16777216) x:=⟨h,hc,hk,by omega,by omega,by omega,⟨h0,by omega⟩⟩
theorem yp5{r:Rn}(h:znd r):RnR (zbk r)∧(zbk r).ks.length≤r.ks.length+3:=by
 obtain⟨h1,h2,h3⟩:=h
 have hpc:U64 r.pc:=h1.1.2.2.2.1
 obtain⟨t1,t2⟩:=zhs h1 (kind:=0) hpc (show r.ks.length+1≤2097152 by omega)
 obtain⟨c1,c2,c3⟩:=zk6 r 0 r.pc
 have tk:(za2 r 0 r.pc).1.ks.length=r.ks.length+1:=by rw[zht];simp
 unfold zbk
 split
 · unfold ydv
   split
   · split
     · have hm:zan (za2 r 0 r.pc).1.m:=t1.1.1
       obtain⟨x0,x1⟩:=read4 hm (a:=(za2 r 0 r.pc).2.2)
       obtain⟨a,b⟩:=yqk (op:=(zbi (za2 r 0 r.pc).1.m (za2 r 0 r.pc).2.2 4).2 % 256) (zyc t1 (c1.trans h2) (by omega) x0 x1)
       exact⟨a,by unfold yxe;omega⟩
     · exact⟨zhu t1 _ _,by show (za2 r 0 r.pc).1.ks.length≤_;omega⟩
   · exact⟨zhu t1 _ _,by show (za2 r 0 r.pc).1.ks.length≤_;omega⟩
 · exact⟨zhu h1 _ _,by show r.ks.length≤_;omega⟩
theorem ye8:zay Tryz.prog kEH0 := .cons (by kernel_rfl) yfo ye7
theorem yps:DictOk Tryz.prog FEH0:=za1 (ye8.append zdn) .nil .nil
theorem yfm:Sound Tryz.prog 162 (zsm [ruP] [ruP] (fun x=>some (znd (Rn.of x))) (fun x=>(zbk (Rn.of x)).t)):=by
 refine zg8 mixed Tryz.func162 (by kernel_rfl) (by kernel_rfl) yps (fun  (x:RnT) h => ?_)
 have h:znd (Rn.of x):=h
 suffices g:zic Tryz.prog FEH0 (yuk (Rn.of x).pc) Tryz.f162 [ruP] [ruP] (Rn.of x).t (zbk (Rn.of x)).t from ⟨_,g⟩
 generalize Rn.of x=r at *
 obtain⟨h1,h2,h3⟩:=h
 have hpc:U64 r.pc:=h1.1.2.2.2.1
 have hpc0:=hpc.1
 obtain⟨t1,t2⟩:=zhs h1 (kind:=0) hpc (show r.ks.length+1≤2097152 by omega)
 obtain⟨c1,c2,c3⟩:=zk6 r 0 r.pc
 have tk:(za2 r 0 r.pc).1.ks.length=r.ks.length+1:=by rw[zht];simp
 have e4:r.pc.tmod 4=r.pc % 4:=Int.tmod_eq_emod_of_nonneg hpc0
 refine zah (zt1 r (zbk r)) ?_
 conv=>zeta
 rw[e4]
 by_cases g1:r.pc % 4=0
 case neg =>
  have ey:zbk r=zeh r 20 r.pc:=by unfold zbk;rw[if_neg g1]
  rw[ey]
  refine⟨by decide,fun _ => ?_,fun g=>absurd (by simpa using g) g1⟩
  (repeat' apply And.intro)<;>first|exact trivial|rfl
 case pos =>
  have ey:zbk r=ydv (za2 r 0 r.pc) r.pc:=by unfold zbk;rw[if_pos g1]
  rw[ey]
  refine⟨by decide,fun g=>absurd g1 (by simpa using g),fun _=>⟨⟨rfl,rfl,rfl,rfl,rfl,rfl,h1,hpc⟩,za2 r 0 r.pc, ?_, ?_⟩⟩
  · (repeat' apply And.intro)<;>first|exact trivial|rfl
  generalize za2 r 0 r.pc=t at *
  unfold ydv
  by_cases g2:t.2.1=0
  case neg =>
   rw[if_neg g2]
   refine⟨fun _ => ?_,fun g=>absurd (by simpa using g) g2⟩
   (repeat' apply And.intro)<;>first|exact trivial|rfl
  case pos =>
   rw[if_pos g2]
   refine⟨fun g=>absurd g2 (by simpa using g),fun _=>⟨⟨rfl,t1.1.1,t2⟩, ?_⟩⟩
   have hm:zan t.1.m:=t1.1.1
   obtain⟨x0,x1⟩:=read4 hm (a:=t.2.2)
   by_cases g3:(zbi t.1.m t.2.2 4).1=true
   case neg =>
    rw[if_neg g3]
    refine⟨fun _ => ?_,fun g=>absurd (by simpa using g) g3⟩
    (repeat' apply And.intro)<;>first|exact trivial|rfl
   case pos =>
    rw[if_pos g3]
    refine⟨fun g=>absurd g3 (by simpa using g),fun _=>⟨(t.1,(zbi t.1.m t.2.2 4).2), ?_, ?_⟩⟩
    · (repeat' apply And.intro)<;>first|exact trivial|rfl
    · dsimp only
      generalize (zbi t.1.m t.2.2 4).2=x at *
      have f0:IntKind.i64.wrap (x.tmod 256)=x % 256:=by rw[Int.tmod_eq_emod_of_nonneg x0];exact zaa (by omega) (by omega)
      have f1:IntKind.i64.wrap ((IntKind.u64.wrap (x.tdiv 256)).tmod 256)=x/256 % 256:=by
       rw[Int.tdiv_eq_ediv_of_nonneg x0,zar (by omega) (by omega),Int.tmod_eq_emod_of_nonneg (by omega)]
       exact zaa (by omega) (by omega)
      have f2:IntKind.i64.wrap ((IntKind.u64.wrap (x.tdiv 65536)).tmod 256)=x/65536 % 256:=by
       rw[Int.tdiv_eq_ediv_of_nonneg x0,zar (by omega) (by omega),Int.tmod_eq_emod_of_nonneg (by omega)]
       exact zaa (by omega) (by omega)
      have f3:IntKind.i64.wrap (IntKind.u64.wrap (x.tdiv 16777216))=x/16777216:=by
       rw[Int.tdiv_eq_ediv_of_nonneg x0,zar (by omega) (by omega)]
       exact zaa (by omega) (by omega)
      rw[f0,f1,f2,f3]
      refine⟨by decide,by decide,by decide,by decide,by decide,by decide,⟨rfl,rfl,rfl,rfl,rfl,rfl,zyc t1 (c1.trans h2) (by omega) x0 x1⟩, ?_⟩
      (repeat' apply And.intro)<;>first|exact trivial|rfl
theorem yqx:zay Tryz.prog kEH1 := .cons (by kernel_rfl) yfm (ye8.append zpm)
theorem ypt:DictOk Tryz.prog FEH1:=za1 yqx .nil .nil
def Rn.ofH(h:Ha):Rn:=⟨h.1,h.2.1,h.2.2.1,h.2.2.2.1,h.2.2.2.2.1,h.2.2.2.2.2.1,h.2.2.2.2.2.2.1,h.2.2.2.2.2.2.2.1,h.2.2.2.2.2.2.2.2.1,h.2.2.2.2.2.2.2.2.2.1,h.2.2.2.2.2.2.2.2.2.2.1,h.2.2.2.2.2.2.2.2.2.2.2.1,(toC h.2.2.2.2.2.2.2.2.2.2.2.2).1.1,(toC h.2.2.2.2.2.2.2.2.2.2.2.2).1.2.1,(toC h.2.2.2.2.2.2.2.2.2.2.2.2).1.2.2,(toC h.2.2.2.2.2.2.2.2.2.2.2.2).2.1.1,(toC h.2.2.2.2.2.2.2.2.2.2.2.2).2.1.2.1,(toC h.2.2.2.2.2.2.2.2.2.2.2.2).2.1.2.2,(toC h.2.2.2.2.2.2.2.2.2.2.2.2).2.2.1,(toC h.2.2.2.2.2.2.2.2.2.2.2.2).2.2.2.1,(toC h.2.2.2.2.2.2.2.2.2.2.2.2).2.2.2.2,false,0,0,0,[],false,false,0,false,0⟩
theorem zpf{t:Tl}(h:TlR t)(k:Int):TlR (zcw t k)∧(zcw t k).2.2.length=t.2.2.length:=by
 obtain⟨a,b,c,d⟩:=h
 have hz:EnR zE:=⟨zye,zie,zie,zie⟩
 have hl:(zcw t k).2.2.length=t.2.2.length:=by simp[zcw]
 refine⟨⟨a,b,by rw[hl];exact c,fun e he => ?_⟩,hl⟩
 rcases List.mem_or_eq_of_mem_set he with he|rfl
 · exact d e he
 · exact hz
theorem zoq{r:Rn}{pl:Bool}{pk:Int}(h:zrd r pk):znd (r.start pl pk):=by
 obtain⟨h1,h2,_⟩:=h
 exact⟨⟨h1,h2,Nat.zero_le _⟩,rfl,by show 0+3≤2097152;omega⟩
theorem yse(k:Cch):toC (ofC k)=k:=rfl
theorem ykh(r:Rn)(k:Int):r.evict k=r.withK (ofC (zcw (toC r.k).1 k,zcw (toC r.k).2.1 k,zcw (toC r.k).2.2 k)):=rfl
theorem yai{r:Rn}(h:znd r)(k:Int):znd (r.evict k):=by
 obtain⟨h1,e,f⟩:=h
 have hc:ChR (toC r.k):=h1.1.2.2.2.2.2.2.2.2.2.2.2
 rw[ykh]
 refine⟨RnR.withK h1 ?_,e,f⟩
 rw[yse]
 exact⟨(zpf hc.1 k).1,(zpf hc.2.1 k).1,(zpf hc.2.2 k).1⟩
theorem zn6{r:Rn}{pl:Bool}{pk:Int}(h:zrd r pk):znd (r.first pl pk):=by
 unfold Rn.first
 split
 · exact yai (zoq h) _
 · exact zoq h
theorem yfs{r:Rn}{pl:Bool}{pk:Int}(h:zrd r pk):zt5 r pl pk (zqa r pl pk):=by
 have hb:=zn6 (pl:=pl) h
 obtain⟨h1,h2,k0,k1,l1,l2,l3⟩:=h
 have hsz:SzH (r.m,r.u,r.pc,r.mo,r.su,r.mx,r.sa,r.tv,r.ep,r.em,r.ca,r.tl,r.s1,r.w1,r.m1,r.s2,r.w2,r.m2,r.s3,r.w3,r.m3):=⟨h1.1.1,h1.2.1,h1.2.2.2.2.2.2.2.2.2.2.2.1.2.2.1,h1.2.2.2.2.2.2.2.2.2.2.2.2.1.2.2.1,h1.2.2.2.2.2.2.2.2.2.2.2.2.2.2.2.1⟩
 obtain⟨_,_,q1,q2,q3⟩:=id hsz
 have q1:SzR r.m1.length:=q1
 have q2:SzR r.m2.length:=q2
 have q3:SzR r.m3.length:=q3
 refine zah (zt6 r pl pk (zqa r pl pk)) ?_
 conv=>zeta
 refine⟨⟨rfl,rfl,rfl,rfl,rfl,hsz⟩,fun z=>z=r.first pl pk,⟨fun g => ?_,fun g => ?_⟩, ?_⟩
 · have g':(decide (pk≥128) && !pl)=true:=by cases hd:decide (pk≥128)<;>rw[hd] at g<;>simp_all
   have hp:pk≥128:=by simp only[Bool.and_eq_true,decide_eq_true_eq] at g';exact g'.1
   have ew:IntKind.i64.wrap (pk-128)=pk-128:=zaa (by omega) (by omega)
   have e0:(0:Int)≤pk-128:=by omega
   have ef:r.first pl pk=(r.start pl pk).evict (pk-128):=by unfold Rn.first;rw[if_pos g']
   rw[ew,ef]
   refine⟨⟨rfl,q1,l1,e0⟩,⟨rfl,q2,l2,e0⟩,⟨rfl,q3,l3,e0⟩,(r.start pl pk).evict (pk-128), ?_,rfl⟩
   (repeat' apply And.intro)<;>first|exact trivial|rfl
 · have g':¬ (decide (pk≥128) && !pl)=true:=by cases hd:decide (pk≥128)<;>rw[hd] at g<;>simp_all
   have ef:r.first pl pk=r.start pl pk:=by unfold Rn.first;rw[if_neg g']
   rw[ef]
   refine⟨r.start pl pk, ?_,rfl⟩
   (repeat' apply And.intro)<;>first|exact trivial|rfl
 · rintro z rfl
   unfold zqa
   generalize r.first pl pk=z at *
   by_cases hc:(zbk z).cs=0
   · rw[if_pos hc]
     refine⟨⟨rfl,rfl,rfl,rfl,rfl,rfl,hb⟩,fun _ => ?_,fun g=>absurd hc (by simpa using g)⟩
     (repeat' apply And.intro)<;>first|exact trivial|rfl
   · rw[if_neg hc]
     refine⟨⟨rfl,rfl,rfl,rfl,rfl,rfl,hb⟩,fun g=>absurd (by simpa using g) hc,fun _=>⟨⟨rfl,rfl,rfl,rfl,rfl,hsz⟩, ?_⟩⟩
     (repeat' apply And.intro)<;>first|exact trivial|rfl
theorem yfr:Sound Tryz.prog 65 (zag [haP,bl,i64] [ruP] (fun t=>some (zrd (Rn.ofH t.1) t.2.2)) (fun t=>(zqa (Rn.ofH t.1) t.2.1 t.2.2).t)):=by
 refine zk5 mixed Tryz.func65 (by kernel_rfl) (by kernel_rfl) ypt (fun t h => ?_)
 obtain⟨x,pl,pk⟩:Ha × Bool × Int:=t
 have h:zrd (Rn.ofH x) pk:=h
 exact⟨_,yfs h⟩
end Go.Proofs.YtfiddfbagbaofaaGreat.V
