/- The reference's step: a whole step; and that it keeps its kinds. Conditions: those in each statement. -/
import Derived.Test.YtfiddfbagbaofaaGreatEG
import Derived.KernelRfl
namespace Go.Proofs.YtfiddfbagbaofaaGreat.V
open Go
def yxs(r:Rn)(x:Int):Rn:=zbd r (x % 256) (x/256 % 256) (x/65536 % 256) (x/16777216) x
def ybl(t:Rn × Int × Int)(pc:Int):Rn :=
 if t.2.1=0 then (if (za9 t.1.m t.2.2 4).1=true then yxs t.1 (za9 t.1.m t.2.2 4).2 else zdn t.1 1 pc) else zdn t.1 t.2.1 pc
def zbc(r:Rn):Rn:=if r.pc % 4=0 then ybl (zam r 0 r.pc) r.pc else zdn r 20 r.pc
def zn0(r:Rn):Prop:=RnR r∧r.cs=0∧r.ks.length+3≤2097152
def kEH0:Known:=(208,zta [ruP,i64,i64,i64,i64,u64] [ruP] (fun t=>some (zei (Rn.of t.1) t.2.2.1 t.2.2.2.1 t.2.2.2.2.1 t.2.2.2.2.2)) (fun t=>(zbd (Rn.of t.1) t.2.1 t.2.2.1 t.2.2.2.1 t.2.2.2.2.1 t.2.2.2.2.2).t))::kEG0
def FEH0:Dict:=mkD (kEH0++kB3) [] []
def yt3(pc:Int)(k:Nat):Option CutS :=
 if k=6 then some (CutS.mk (Rn × Int × Int) (fun _=>slots 62 [(1,.ptr 6 0),(2,.ptr 7 0),(3,.v (.int .u64 pc)),(4,.ptr 8 0)]) (fun z=>dead6++[.fix (zxt z.1 9) true (some 110),.fix ymd true (some 110),.fix [.v (.int .i64 z.2.1),.v (.int .u64 z.2.2)] true (some 77)]++yei z.1))
 else if k=12 then some (CutS.mk (Rn × Int) (fun z=>slots 62 [(1,.ptr 6 0),(2,.ptr 7 0),(6,.v (.int .u64 z.2))]) (fun z=>dead6++[.fix (zxt z.1 8) true (some 110),.fix ymd true (some 110)]++yei z.1)) else none
def yyn(pc:Int):Specs:={ Specs.none with cut:=yt3 pc }
def ykq(r y:Rn):Prop:=zik Tryz.prog FEH0 (yyn r.pc) Tryz.f162 [ruP] [ruP] r.t y.t
def kEH1:Known:=(162,zta [ruP] [ruP] (fun x=>some (zn0 (Rn.of x))) (fun x=>(zbc (Rn.of x)).t))::kEH0++kEE0
def FEH1:Dict:=mkD kEH1 [] []
def Rn.start(r:Rn)(pl:Bool)(pk:Int):Rn:={ r with pl:=pl,pk:=pk,cs:=0,tw:=0,ks:=[],fd:=false,f1:=false,f2:=0,f3:=false,f4:=0 }
def Rn.evict(r:Rn)(k:Int):Rn:={ r with s1:=(zcm (r.s1,r.w1,r.m1) k).1,w1:=(zcm (r.s1,r.w1,r.m1) k).2.1,m1:=(zcm (r.s1,r.w1,r.m1) k).2.2,s2:=(zcm (r.s2,r.w2,r.m2) k).1,w2:=(zcm (r.s2,r.w2,r.m2) k).2.1,m2:=(zcm (r.s2,r.w2,r.m2) k).2.2,s3:=(zcm (r.s3,r.w3,r.m3) k).1,w3:=(zcm (r.s3,r.w3,r.m3) k).2.1,m3:=(zcm (r.s3,r.w3,r.m3) k).2.2 }
def Rn.first(r:Rn)(pl:Bool)(pk:Int):Rn:=if (decide (pk≥128) && !pl)=true then (r.start pl pk).evict (pk-128) else r.start pl pk
def Rn.back(r y:Rn):Rn:={ y with m:=r.m,u:=r.u,pc:=r.tv,mo:=2,su:=r.su,mx:=r.mx,sa:=r.sa,tv:=r.tv,ep:=r.pc,em:=r.mo,ca:=y.cs,tl:=y.tw }
def zck(r:Rn)(pl:Bool)(pk:Int):Rn:=if (zbc (r.first pl pk)).cs=0 then zbc (r.first pl pk) else r.back (zbc (r.first pl pk))
def zr5(r:Rn)(pk:Int):Prop:=HaR r.h∧r.u.length=8∧0≤pk∧pk≤255∧1≤r.m1.length∧1≤r.m2.length∧1≤r.m3.length
def argH(r:Rn):Heap:=[.arr [.i .u8] r.m false,.arr [.i .u64] r.u false,.arr shE r.m1 false,.arr shE r.m2 false,.arr shE r.m3 false]
def yo1(r:Rn)(pl:Bool)(pk:Int)(k:Nat):Option CutS :=
 if k=3 then some (CutS.mk Rn (fun _=>slots 72 [(1,.v (.bool pl)),(2,.v (.int .i64 pk)),(3,.ptr 5 0),(6,.ptr 6 0),(7,.ptr 7 0)]) (fun z=>argH r++[.fix ((zxt r 0).take 21) true (some 41),.fix ymd true (some 110),.fix (zxt z 8) true (some 110)]++yei z)) else none
def stepX(r:Rn)(pl:Bool)(pk:Int):Specs:={ Specs.none with cond:=yo1 r pl pk }
def zuu(r:Rn)(pl:Bool)(pk:Int)(y:Rn):Prop:=zag Tryz.prog FEH1 (stepX r pl pk) Tryz.f65 [haP,bl,i64] [ruP] (r.h,pl,pk) y.t
set_option linter.unusedVariables false
theorem zus(r y:Rn):ykq r y=(
 let A0(a:Int):=IntKind.i64.wrap (a.tmod 256);
 let A1(a:Rn × Int)(b:Int):=IntKind.u64.wrap (a.snd.tdiv b);
 let A2(a b:Es):=List.length a=List.length b;
 let A3(a b c:Prop):=a∧b∧c;
 let A4(a b c d e:Prop):=A3 a b (A3 c d e);
 let A5(a:Rn):=List.length a.26;
 let A6(a:Rn × Int):=A0 (A1 a 256);
 let A7(a:Rn × Int):=IntKind.i64.wrap (A1 a 16777216);
 let A8(a b c d e f g h i:Prop):=A4 a b c d (A4 e f g h i);
 let A9:=(0:Int)=0;
 let Aa:=(0:Nat)=0;
 let Ab(a:Rn × Int):=A0 (A1 a 65536);
 let Ac(a b c d e f g h i j k l m n o p q:Prop):=A8 a b c d e f g h (A8 i j k l m n o p q);
 let Ad(a:Rn × Int):=zbd a.fst (A0 a.snd) (A6 a) (Ab a) (A7 a) a.snd;
 let Ae:=Value.slice none 0 0;
 let Af:=(zam r 0 r.3).fst;
 let Ah(a b c d e f g h i j k l m n o p q r s t u v w:Prop)(x y:Bool)(z B C:Prop)(D E:Rn):=Ac a b c d e f g h i j k l m n o p (Ac q r s t u v w (x=y) z B C (D.1=E.1) (D.2=E.2) (D.15=E.15) (D.18=E.18) (D.21=E.21)
  (D.26=E.26));
 let Ai(a b:Rn):=A2 a.21 b.21;
 let Aj(a:Int):=a≠0;
 let Ak(a b:Rn):=A2 a.18 b.18;
 let Al(a b:Rn):=List.length a.1=List.length b.1;
 let Am(a b:Rn):=A2 a.15 b.15;
 let An:=Aj 256;
 let Ao(a b:Rn):=List.length a.2=List.length b.2;
 let Ap:=false=false;
 let Aq(a b:Rn):=A5 a=A5 b;
 let Ar(a b c d e f g:Prop)(h i:Rn):=Ah a a A9 A9 A9 A9 A9 A9 b A9 c b A9 c b d c a A9 b d e a false false A9 f g h i;
 let Au(a:Rn):=Ah (y.9=a.9) (y.10=a.10) (y.11=a.11) (y.12=a.12) (y.13=a.13) (y.14=a.14) Aa (Am y a) (y.16=a.16) (y.17=a.17) Aa (Ak y a) (y.19=a.19) (y.20=a.20) Aa (Ai y a) (y.22=a.22) (y.23=a.23) (y.24=a.24)
  (y.25=a.25) Aa (A5 y=A5 a) (y.27=a.27) y.28 a.28 (y.29=a.29) (y.30=a.30) (y.31=a.31) y a;
 let Aw(a:Rn × Int × Int):=a.snd.snd;
 let Ax:=Ae=Ae;
 let Ay(a:Rn)(b:Prop)(c:Rn):=(Al a a∧b)∧A3 Aa (Al y c) (A8 Aa (Ao y c) (y.3=c.3) (y.4=c.4) (y.5=c.5) (y.6=c.6) (y.7=c.7) (y.8=c.8) (Au c));
 let Az(a:Prop)(b:Bool)(c d:Prop):=A3 a (b=true→c) (b=false→d);
 let AB(a:Rn × Int × Int):=A4 (Ao a.fst a.fst) (Am a.fst a.fst) (Ak a.fst a.fst) (Ai a.fst a.fst) (Aq a.fst a.fst);
 let AC(a:Rn × Int × Int) := !(za9 a.fst.1 (Aw a) 4).fst;
 let AD:=(zam r 0 r.3).snd;
 Az (Aj 4) (r.3.tmod 4 != 0) (Ay r (A4 (Ao r r) (Am r r) (Ak r r) (Ai r r) (Aq r r)) (zdn r 20 r.3)) ((Al r r∧A3 (Ao r r) (Am r r) (A4 (Ak r r) (Ai r r) (Aq r r) (RnR r) (U64 r.3)))∧∃(x0:Rn × Int ×
  Int),Az (A4 (r.3=r.3) Aa (Al x0.fst Af) Aa (A8 (Ao x0.fst Af) (x0.fst.3=Af.3) (x0.fst.4=Af.4) (x0.fst.5=Af.5) (x0.fst.6=Af.6) (x0.fst.7=Af.7) (x0.fst.8=Af.8) (x0.fst.9=Af.9) (Ac (x0.fst.10=Af.10) (x0.fst.11 =
  Af.11) (x0.fst.12=Af.12) (x0.fst.13=Af.13) (x0.fst.14=Af.14) Aa (Am x0.fst Af) (x0.fst.16=Af.16) (x0.fst.17=Af.17) Aa (Ak x0.fst Af) (x0.fst.19=Af.19) (x0.fst.20=Af.20) Aa (Ai x0.fst Af) (x0.fst.22=Af.22) (Ac
  (x0.fst.23=Af.23) (x0.fst.24=Af.24) (x0.fst.25=Af.25) Aa (Aq x0.fst Af) (x0.fst.27=Af.27) (x0.fst.28=Af.28) (x0.fst.29=Af.29) (x0.fst.30=Af.30) (x0.fst.31=Af.31) Ax Ax A9 A9 Ap Ap (Ar A9 Ax A9 Ap Ap (x0.snd.fst =
  AD.fst) (Aw x0=AD.snd) x0.fst Af))))) (x0.snd.fst != 0) (Ay x0.fst (AB x0) (zdn x0.fst x0.snd.fst r.3)) (A3 (A3 (Al x0.fst x0.fst) (zaz x0.fst.1) (U64 (Aw x0))) (AC x0=true→Ay x0.fst (AB x0) (zdn x0.fst (1
  : Int) r.3)) (AC x0=false→∃(x1:Rn × Int),A3 (A3 (x1.snd=(za9 x0.fst.1 (Aw x0) 4).snd) Aa (A8 (Al x1.fst x0.fst) Aa (Ao x1.fst x0.fst) (x1.fst.3=x0.fst.3) (x1.fst.4=x0.fst.4) (x1.fst.5=x0.fst.5)
  (x1.fst.6=x0.fst.6) (x1.fst.7=x0.fst.7) (Ac (x1.fst.8=x0.fst.8) (x1.fst.9=x0.fst.9) (x1.fst.10=x0.fst.10) (x1.fst.11=x0.fst.11) (x1.fst.12=x0.fst.12) (x1.fst.13=x0.fst.13) (x1.fst.14=x0.fst.14) Aa (Am
  x1.fst x0.fst) (x1.fst.16=x0.fst.16) (x1.fst.17=x0.fst.17) Aa (Ak x1.fst x0.fst) (x1.fst.19=x0.fst.19) (x1.fst.20=x0.fst.20) Aa (Ac (Ai x1.fst x0.fst) (x1.fst.22=x0.fst.22) (x1.fst.23=x0.fst.23) (x1.fst.24 =
  x0.fst.24) (x1.fst.25=x0.fst.25) Aa (Aq x1.fst x0.fst) (x1.fst.27=x0.fst.27) (x1.fst.28=x0.fst.28) (x1.fst.29=x0.fst.29) (x1.fst.30=x0.fst.30) (x1.fst.31=x0.fst.31) Ax Ax A9 A9 (Ar Ap A9 Ax A9 Ax Ap A9 x1.fst
  x0.fst))))) An (Ac An An (Aj 65536) An (Aj 16777216) (A3 (Al x1.fst x1.fst) (Ao x1.fst x1.fst) (A4 (Am x1.fst x1.fst) (Ak x1.fst x1.fst) (Ai x1.fst x1.fst) (Aq x1.fst x1.fst) (zei x1.fst (A6 x1) (Ab x1) (A7
  x1) x1.snd))) Aa (Al y (Ad x1)) Aa (Ao y (Ad x1)) (y.3=(Ad x1).3) (y.4=(Ad x1).4) (y.5=(Ad x1).5) (y.6=(Ad x1).6) (y.7=(Ad x1).7) (y.8=(Ad x1).8) (Au (Ad x1))))))):=by kernel_rfl
theorem zuv(r:Rn)(pl:Bool)(pk:Int)(y:Rn):zuu r pl pk y=(
 let A0(a:Int):=a=0;
 let A1(a b c:Prop):=a∧b∧c;
 let A2(a b c d e:Prop):=A1 a b (A1 c d e);
 let A3:=A0 0;
 let A4(a b:Es):=List.length a=List.length b;
 let A5:=(0:Nat)=0;
 let A6(a b c d e f g h i:Prop):=A2 a b c d (A2 e f g h i);
 let A7(a:Rn):=List.length a.2;
 let A8(a:Rn):=List.length a.1;
 let A9:=IntKind.i64.wrap (pk-128);
 let Aa(a b c d e f g h i j k l m n o p q:Prop):=A6 a b c d e f g h (A6 i j k l m n o p q);
 let Ab(a b c d e f g h i j k l m n o p q r s t u v w x y z B C D E F G H:Prop):=Aa a b c d e f g h i j k l m n o p (Aa q r s t u v w x y z B C D E F G H);
 let Ac:=Value.slice none 0 0;
 let Ad(a:Rn):=List.length a.26;
 let Ae(a:Bool):=a=false;
 let Af(a b c d e f g h:Prop)(i j:Int)(k l m:Prop)(n o:Int)(p q r s t u v w x y z B C D E F G H I J:Prop):=Ab a b c d e f g h (i=j) k l m (n=o) p q r s t u v w x y z B C D E F G H I J;
 let Ah:=Ae false;
 let Ai(a b:Rn):=Af (y.14=(zbc a).14) A5 (A4 y.15 (zbc a).15) (y.16=(zbc a).16) (y.17=(zbc a).17) A5 (A4 y.18 (zbc a).18) (y.19=(zbc a).19) y.20 (zbc a).20 A5 (A4 y.21 (zbc a).21) (y.22=(zbc a).22) y.23
  (zbc a).23 (y.24=(zbc a).24) (y.25=(zbc a).25) A5 (Ad y=Ad (zbc a)) (y.27=(zbc a).27) (y.28=(zbc a).28) (y.29=(zbc a).29) (y.30=(zbc a).30) (y.31=(zbc a).31) (r.1=r.1) (r.2=r.2) (r.15=r.15) (r.18 =
  r.18) (r.21=r.21) (y.1=b.1) (y.2=b.2) (y.15=(zbc a).15) (y.18=(zbc a).18) (y.21=(zbc a).21) (y.26=(zbc a).26);
 let Aj(a b:Int)(c:Es):=(zcm (a,b,c) A9).snd;
 let Ak(a b:Rn):=A4 a.21 b.21;
 let Al(a b:Rn):=A4 a.18 b.18;
 let Am(a b:Rn):=A4 a.15 b.15;
 let An(a b:Rn):=A8 a=A8 b;
 let Ao(a b:Rn):=A7 a=A7 b;
 let Ap(a:Rn):=(zbc a).24==0;
 let Aq(a:Es)(b:CsT [Cs.i IntKind.i64,Cs.sl shE]):=List.length a=List.length b.snd;
 let Ar(a:Prop)(b:Es):=a∧A1 (SzR (List.length b)) ((1:Nat)≤List.length b) ((0:PmT [i64])≤A9);
 let Au(a b:Int)(c:Es):=(zcm (a,b,c) A9).fst;
 let Aw:=bif decide (pk≥128) then !pl else false;
 let Ax(a:Rn)(b:Prop)(c:Rn→Prop):=A1 (pl=pl) (pk=pk) (A6 (r.1=r.1) (r.2=r.2) (r.15=r.15) (r.18=r.18) (r.21=r.21) A5 (A8 r=A8 r) A5 (Af (A7 r=A7 r) (r.3=r.3) (r.4=r.4) (r.5=r.5) (r.6=r.6) (r.7=r.7)
  (r.8=r.8) (r.9=r.9) r.10 r.10 (r.11=r.11) (r.12=r.12) (r.13=r.13) r.14 r.14 A5 (A4 r.15 r.15) (r.16=r.16) (r.17=r.17) A5 (A4 r.18 r.18) (r.19=r.19) (r.20=r.20) A5 (A4 r.21 r.21) (Ac=Ac) (Ac=Ac) A3 A3 Ah Ah A3 A3 A3 (Ab
  A3 A3 A3 A3 A3 (Ac=Ac) A3 A3 (Ac=Ac) A3 A3 (Ac=Ac) Ah A3 A3 A3 (Ac=Ac) Ah Ah A3 Ah A3 A5 (A8 a=A8 r) A5 (A7 a=A7 r) (a.3=r.3) (a.4=r.4) (a.5=r.5) (a.6=r.6) (a.7=r.7) (a.8=r.8) b)))∧c a;
 let Ay(a:Rn):=y.13=(zbc a).13;
 let Az:=An r r∧A2 (Ao r r) (Am r r) (Al r r) (Ak r r) (SzH (r.1,r.2,r.3,r.4,r.5,r.6,r.7,r.8,r.9,r.10,r.11,r.12,r.13,r.14,r.15,r.16,r.17,r.18,r.19,r.20,r.21));
 let AB:=Aj r.19 r.20 r.21;
 let AC:=List.length r.21;
 let AD(a:Es)(b c:Int)(d:Es):=a=(Aj b c d).snd;
 Az∧∃(x0:Rn→Prop),((Aw=true→Ar (Am r r) r.15∧A1 (Ar (Al r r) r.18) (Ak r r∧A1 (SzR AC) ((1:Nat)≤AC) ((0:PmT [i64])≤A9)) (∃(x1:Rn),Ax x1 (Ab (x1.9=r.9) (x1.10=r.10) (x1.11=r.11) (x1.12=r.12) (x1.13
  = Au r.13 r.14 r.15) (x1.14=(Aj r.13 r.14 r.15).fst) A5 (Aq x1.15 (Aj r.13 r.14 r.15)) (x1.16=Au r.16 r.17 r.18) (x1.17=(Aj r.16 r.17 r.18).fst) A5 (Aq x1.18 (Aj r.16 r.17 r.18)) (x1.19=Au r.19 r.20 r.21) (x1.20=AB.fst) A5
  (Aq x1.21 AB) (x1.22=pl) (x1.23=pk) (A0 x1.24) (A0 x1.25) A5 (Ad x1=0) (Ae x1.27) (Ae x1.28) (A0 x1.29) (Ae x1.30) (A0 x1.31) (x1.1=r.1) (x1.2=r.2) (AD x1.15 r.13 r.14 r.15) (AD x1.18 r.16 r.17 r.18) (AD
  x1.21 r.19 r.20 r.21) (x1.26=[])) x0))∧(Ae Aw→∃(x2:Rn),Ax x2 (Af (x2.9=r.9) (x2.10=r.10) (x2.11=r.11) (x2.12=r.12) (x2.13=r.13) (x2.14=r.14) A5 (Am x2 r) x2.16 r.16 (x2.17=r.17) A5 (Al x2 r) x2.19
  r.19 (x2.20=r.20) A5 (Ak x2 r) (x2.22=pl) (x2.23=pk) (A0 x2.24) (A0 x2.25) A5 (Ad x2=0) (Ae x2.27) (Ae x2.28) (A0 x2.29) (Ae x2.30) (A0 x2.31) (x2.1=r.1) (x2.2=r.2) (x2.15=r.15) (x2.18=r.18) (x2.21 =
  r.21) (x2.26=[])) x0))∧∀(x3:Rn),x0 x3→A1 (A1 (An x3 x3) (Ao x3 x3) (A2 (Am x3 x3) (Al x3 x3) (Ak x3 x3) (Ad x3=Ad x3) (zn0 x3))) (Ap x3=true→A5∧A1 (An y (zbc x3)) A5 (A2 (Ao y (zbc x3)) (y.3 =
  (zbc x3).3) (y.4=(zbc x3).4) (y.5=(zbc x3).5) (A6 (y.6=(zbc x3).6) (y.7=(zbc x3).7) (y.8=(zbc x3).8) (y.9=(zbc x3).9) (y.10=(zbc x3).10) (y.11=(zbc x3).11) (y.12=(zbc x3).12) (Ay x3) (Ai x3
  (zbc x3))))) (Ae (Ap x3)→Aa Az A5 (An y r) A5 (Ao y r) (y.3=r.8) (y.4=2) (y.5=r.5) (y.6=r.6) (y.7=r.7) (y.8=r.8) (y.9=r.3) (y.10=r.4) (y.11=(zbc x3).24) (y.12=(zbc x3).25) (Ay x3) (Ai x3 r))):=by kernel_rfl
set_option linter.unusedSimpArgs false
set_option linter.unusedVariables false
theorem zfz{r:Rn}(h:RnR r){a x:Int}(hx:U64 x):RnR (zbu r a x):=by
 obtain⟨⟨a1,a2,a3,a4,a5,a6,a7,a8,a9,a10,a11,a12⟩,b,d⟩:=h
 have hl:(if 0<a then r.u.set a.toNat x else r.u).length=r.u.length:=by split<;>simp
 refine⟨⟨a1, ?_, ?_,a4,a5,a6,a7,a8,a9,a10,a11,a12⟩,hl.trans b,d⟩
 · show SzR (if 0<a then r.u.set a.toNat x else r.u).length
   rw[hl];exact a2
 · show ∀y ∈ (if 0<a then r.u.set a.toNat x else r.u),U64 y
   intro y hy
   split at hy
   · rcases List.mem_or_eq_of_mem_set hy with hy|rfl
     · exact a3 y hy
     · exact hx
   · exact a3 y hy
theorem zhq{r:Rn}(h:RnR r)(c v:Int):RnR (zdn r c v):=⟨h.1,h.2.1,h.2.2⟩
theorem yix:∀(ps:Ps)(m b:By),zaz m→(∀x ∈ b,0≤x∧x<256)→(∀p ∈ ps,0≤p.2.1∧0≤p.2.2∧p.2.2+p.2.1≤m.length)→zaz (zh0 m ps b)
 | [],m,b,h,_,_=>h
 | p::ps,m,b,h,hb,hp=>by
  obtain⟨h1,h2,h3⟩:=hp p (by simp)
  have hl:(zgk m p.2.2.toNat (b.take p.2.1.toNat)).length=m.length:=zxn (by simp;omega)
  unfold zh0
  refine yix ps _ _ ⟨by rw[hl];exact h.1,fun x hx => ?_⟩ (fun x hx=>hb x (List.mem_of_mem_drop hx)) (fun q hq=>by rw[hl];exact hp q (by simp[hq]))
  unfold zgk at hx
  rcases List.mem_append.1 hx with hx|hx
  · rcases List.mem_append.1 hx with hx|hx
    · exact h.2 x (List.mem_of_mem_take hx)
    · exact hb x (List.mem_of_mem_take hx)
  · exact h.2 x (List.mem_of_mem_drop hx)
theorem zhj{t:Tl}(h:TlR t)(f:Fc):TlR (zc7 t f):=by
 obtain⟨a,b,c,d⟩:=h
 unfold zc7
 split
 · refine⟨a,b,by simpa using c,fun e he => ?_⟩
   obtain⟨x,hx,rfl⟩:=List.mem_map.1 he
   unfold zn4
   split
   · exact⟨yqt,zor,zor,zor⟩
   · exact d x hx
 · exact⟨a,b,c,d⟩
theorem yzg{s:Int}(h0:0≤s)(h1:s<256):U64 (ze5 s):=by
 unfold ze5
 split
 · exact zeb _
 · exact⟨h0,by omega⟩
theorem yr6{m:By}{ps:Ps}(hm:zaz m)(hp:PsR m.length ps):U64 (zda (zef m ps)):=zi8 (zjt hm) (Nat.le_trans zeu hp.2.2.1)
def DoR(r:Rn)(z:Zx):Prop:=RnR r∧r.cs=0∧r.ks.length+2≤2097152∧U64 z.2.2.2.1∧U64 z.2.2.2.2.2.1∧(0≤z.2.2.1∧z.2.2.1<8)∧(1≤z.2.2.2.2.2.2.2.2∧z.2.2.2.2.2.2.2.2≤8)
theorem do_in{r:Rn}{z:Zx}{op s word:Int}(h:DoR r z):RnR (doM r z op s word)∧(doM r z op s word).ks.length≤r.ks.length+2:=by
 obtain⟨h4,h2,h3,hi,hxa,hc8,hW⟩:=h
 obtain⟨za,zb,zc,imm,jump,xa,xb,xc,w⟩:=z
 dsimp only at hi hxa hc8 hW
 have hk:r.ks.length≤r.ks.length+2:=by omega
 have hPW:zd3 r (IntKind.u64.wrap (xb+imm)) w:=⟨h4,h3,zeb _,hW.1,hW.2⟩
 have hP8:zd3 r (IntKind.u64.wrap (xb+imm)) 8:=⟨h4,h3,zeb _,by omega,by omega⟩
 have put:∀{w v:Int},zd3 r (IntKind.u64.wrap (xb+imm)) w→(zas r 2 (IntKind.u64.wrap (xb+imm)) w).1.cs=0→RnR (zxo (zas r 2 (IntKind.u64.wrap (xb+imm)) w) w v)∧(zxo (zas r 2 (IntKind.u64.wrap (xb+imm)) w) w v).ks.length≤r.ks.length+2:=by
  intro w v hP hc
  obtain⟨n1,n2,n3,n4,n5,n6,n7⟩:=zdi (kind:=2) hP
  have n8:=n7 h2 hc
  rw[← n3] at n8
  obtain⟨⟨a1,a2,a3,a4,a5,a6,a7,a8,a9,a10,a11,a12⟩,b,d⟩:=n1
  exact⟨⟨⟨yix _ _ _ a1 (fun x hx=>zwi _ _ x hx) (fun p hp=>by obtain⟨x1,x2,x3,x4⟩:=n8.1.2.2.2 p hp;exact⟨x1,x3,x4⟩),a2,a3,a4,a5,a6,a7,a8,a9,a10,a11,a12⟩,b,d⟩,n2⟩
 have hpc:∀x:Int,RnR { r with pc:=IntKind.u64.wrap x }:=fun x=>by
  obtain⟨⟨a1,a2,a3,a4,a5,a6,a7,a8,a9,a10,a11,a12⟩,b,d⟩:=h4
  exact⟨⟨a1,a2,a3,zeb _,a5,a6,a7,a8,a9,a10,a11,a12⟩,b,d⟩
 obtain⟨⟨a1,a2,a3,a4,a5,a6,a7,a8,a9,a10,a11,a12⟩,b,d⟩:=id h4
 by_cases o1:op=1
 · simp only[doM,if_pos o1]
   exact⟨zfz h4 hi,hk⟩
 by_cases o2:op=2
 · simp only[doM,if_neg o1,if_pos o2]
   exact⟨zfz h4 (zeb _),hk⟩
 by_cases o3:op=3
 · simp only[doM,if_neg o1,if_neg o2,if_pos o3]
   exact⟨zfz h4 (zeb _),hk⟩
 by_cases o4:op=4
 · simp only[doM,if_neg o1,if_neg o2,if_neg o3,if_pos o4]
   exact⟨zfz h4 (zeb _),hk⟩
 by_cases o5:op=5
 · simp only[doM,if_neg o1,if_neg o2,if_neg o3,if_neg o4,if_pos o5]
   obtain⟨n1,n2,n3,n4,n5,n6,n7⟩:=zdi (kind:=1) hPW
   unfold zs4
   split
   · rename_i hc
     have n8:=n7 h2 hc
     rw[← n3] at n8
     exact⟨zfz n1 (yr6 n1.1.1 n8.1),n2⟩
   · exact⟨n1,n2⟩
 by_cases o6:op=6
 · simp only[doM,if_neg o1,if_neg o2,if_neg o3,if_neg o4,if_neg o5,if_pos o6]
   obtain⟨n1,n2,n3,n4,n5,n6,n7⟩:=zdi (kind:=2) hPW
   unfold zkr
   split
   · rename_i hc
     exact put hPW hc
   · exact⟨n1,n2⟩
 by_cases o7:op=7
 · simp only[doM,if_neg o1,if_neg o2,if_neg o3,if_neg o4,if_neg o5,if_neg o6,if_pos o7]
   obtain⟨n1,n2,n3,n4,n5,n6,n7⟩:=zdi (kind:=2) hP8
   unfold yq8
   split
   · rename_i hc
     have n8:=n7 h2 hc
     rw[← n3] at n8
     obtain⟨x,y⟩:=put (v:=IntKind.u64.wrap (ymb (zas r 2 (IntKind.u64.wrap (xb+imm)) 8)+xc)) hP8 hc
     exact⟨zfz x (yr6 n1.1.1 n8.1),y⟩
   · exact⟨n1,n2⟩
 by_cases o8:op=8
 · simp only[doM,if_neg o1,if_neg o2,if_neg o3,if_neg o4,if_neg o5,if_neg o6,if_neg o7,if_pos o8]
   split
   · exact⟨h4,hk⟩
   · exact⟨hpc _,hk⟩
 by_cases o9:op=9
 · simp only[doM,if_neg o1,if_neg o2,if_neg o3,if_neg o4,if_neg o5,if_neg o6,if_neg o7,if_neg o8,if_pos o9]
   split
   · exact⟨⟨⟨a1,a2,a3,a4,a5,hxa,a7,a8,a9,a10,a11,a12⟩,b,d⟩,hk⟩
   · exact⟨h4,hk⟩
 by_cases o10:op=10
 · simp only[doM,if_neg o1,if_neg o2,if_neg o3,if_neg o4,if_neg o5,if_neg o6,if_neg o7,if_neg o8,if_neg o9,if_pos o10]
   exact⟨⟨⟨a1,a2,a3,a4,a5,a6,a7,a8,a9,a10,a11,a12⟩,b,d⟩,hk⟩
 by_cases o11:op=11
 · simp only[doM,if_neg o1,if_neg o2,if_neg o3,if_neg o4,if_neg o5,if_neg o6,if_neg o7,if_neg o8,if_neg o9,if_neg o10,if_pos o11]
   unfold zd4
   split
   · exact⟨⟨⟨a1,a2,a3,a4,a5,a6,a7,a8,a9,a10,a11,a12⟩,b,d⟩,hk⟩
   · refine⟨RnR.withK (r:=fenced r _) ⟨⟨a1,a2,a3,a4,a5,a6,a7,a8,a9,a10,a11,a12⟩,b,d⟩ ?_,hk⟩
     exact⟨zhj a12.1 _,zhj a12.2.1 _,zhj a12.2.2 _⟩
 by_cases o12:op=12
 · simp only[doM,if_neg o1,if_neg o2,if_neg o3,if_neg o4,if_neg o5,if_neg o6,if_neg o7,if_neg o8,if_neg o9,if_neg o10,if_neg o11,if_pos o12]
   exact⟨⟨⟨a1,a2,a3,zeb _,a9,a6,a7,a8,a9,a10,a11,a12⟩,b,d⟩,hk⟩
 by_cases o13:op=13
 · simp only[doM,if_neg o1,if_neg o2,if_neg o3,if_neg o4,if_neg o5,if_neg o6,if_neg o7,if_neg o8,if_neg o9,if_neg o10,if_neg o11,if_neg o12,if_pos o13]
   exact⟨⟨⟨a1,a2,a3,a4,a5,a6,a7,hxa,⟨by show _≤zc;omega,by show zc<_;omega⟩,a10,a11,a12⟩,b,d⟩,hk⟩
 by_cases o14:op=14
 · simp only[doM,if_neg o1,if_neg o2,if_neg o3,if_neg o4,if_neg o5,if_neg o6,if_neg o7,if_neg o8,if_neg o9,if_neg o10,if_neg o11,if_neg o12,if_neg o13,if_pos o14]
   exact⟨zhq h4 _ _,hk⟩
 simp only[doM,if_neg o1,if_neg o2,if_neg o3,if_neg o4,if_neg o5,if_neg o6,if_neg o7,if_neg o8,if_neg o9,if_neg o10,if_neg o11,if_neg o12,if_neg o13,if_neg o14]
 exact⟨zhq h4 _ _,hk⟩
theorem yas{r:Rn}{p q s word:Int}(h:zei r p q s word):DoR (pc4 r) (zgr r p q s):=by
 obtain⟨h1,h2,h3,hp,hq,hs,hw⟩:=h
 exact⟨zdo h1,h2,h3,yzg hs.1 hs.2,za6 h1 (by omega) (by omega),⟨by show 0≤q % 8;omega,by show q % 8<8;omega⟩,zry (c:=q % 8)⟩
theorem yuj{r:Rn}{op p q s word:Int}(h:zei r p q s word):RnR (zbd r op p q s word)∧(zbd r op p q s word).ks.length≤r.ks.length+2:=by
 have hz:=yas h
 unfold zbd
 split
 · exact⟨zhq hz.1 _ _,by show r.ks.length≤_;omega⟩
 · exact do_in hz
theorem read4{m:By}(hm:zaz m){a:Int}:0≤(za9 m a 4).2∧(za9 m a 4).2<4294967296:=by
 unfold za9
 split
 · have h:=zm0 (m:=(m.drop a.toNat).take (4:Int).toNat) (fun b hb=>hm.2 b (List.mem_of_mem_drop (List.mem_of_mem_take hb)))
   have hl:((m.drop a.toNat).take (4:Int).toNat).length≤4:=List.length_take_le _ _
   refine⟨h.1,Int.lt_of_lt_of_le h.2 ?_⟩
   generalize ((m.drop a.toNat).take (4:Int).toNat).length=n at hl
   have:n=0∨n=1∨n=2∨n=3∨n=4:=by omega
   rcases this with rfl|rfl|rfl|rfl|rfl<;>decide
 · exact⟨by show (0:Int)≤0;omega,by show (0:Int)<_;omega⟩
theorem zzp{r:Rn}(h:RnR r)(hc:r.cs=0)(hk:r.ks.length+2≤2097152){x:Int}(h0:0≤x)(h1:x<4294967296):zei r (x/256 % 256) (x/65536 % 256) (x/16777216) x:=⟨h,hc,hk,by omega,by omega,by omega,⟨h0,by omega⟩⟩
theorem yt4{r:Rn}(h:zn0 r):RnR (zbc r)∧(zbc r).ks.length≤r.ks.length+3:=by
 obtain⟨h1,h2,h3⟩:=h
 have hpc:U64 r.pc:=h1.1.2.2.2.1
 obtain⟨t1,t2⟩:=zgg h1 (kind:=0) hpc (show r.ks.length+1≤2097152 by omega)
 obtain⟨c1,c2,c3⟩:=zho r 0 r.pc
 have tk:(zam r 0 r.pc).1.ks.length=r.ks.length+1:=by rw[zhp];simp
 unfold zbc
 split
 · unfold ybl
   split
   · split
     · have hm:zaz (zam r 0 r.pc).1.m:=t1.1.1
       obtain⟨x0,x1⟩:=read4 hm (a:=(zam r 0 r.pc).2.2)
       obtain⟨a,b⟩:=yuj (op:=(za9 (zam r 0 r.pc).1.m (zam r 0 r.pc).2.2 4).2 % 256) (zzp t1 (c1.trans h2) (by omega) x0 x1)
       exact⟨a,by unfold yxs;omega⟩
     · exact⟨zhq t1 _ _,by show (zam r 0 r.pc).1.ks.length≤_;omega⟩
   · exact⟨zhq t1 _ _,by show (zam r 0 r.pc).1.ks.length≤_;omega⟩
 · exact⟨zhq h1 _ _,by show r.ks.length≤_;omega⟩
theorem yg9:zar Tryz.prog kEH0 := .cons (by kernel_rfl) yhl yg8
theorem ytg:DictOk Tryz.prog FEH0:=zaw (yg9.append zd6) .nil .nil
theorem yhj:Sound Tryz.prog 162 (zta [ruP] [ruP] (fun x=>some (zn0 (Rn.of x))) (fun x=>(zbc (Rn.of x)).t)):=by
 refine zg5 mixed Tryz.func162 (by kernel_rfl) (by kernel_rfl) ytg (fun  (x:RnT) h => ?_)
 have h:zn0 (Rn.of x):=h
 suffices g:zik Tryz.prog FEH0 (yyn (Rn.of x).pc) Tryz.f162 [ruP] [ruP] (Rn.of x).t (zbc (Rn.of x)).t from ⟨_,g⟩
 generalize Rn.of x=r at *
 obtain⟨h1,h2,h3⟩:=h
 have hpc:U64 r.pc:=h1.1.2.2.2.1
 have hpc0:=hpc.1
 obtain⟨t1,t2⟩:=zgg h1 (kind:=0) hpc (show r.ks.length+1≤2097152 by omega)
 obtain⟨c1,c2,c3⟩:=zho r 0 r.pc
 have tk:(zam r 0 r.pc).1.ks.length=r.ks.length+1:=by rw[zhp];simp
 have e4:r.pc.tmod 4=r.pc % 4:=Int.tmod_eq_emod_of_nonneg hpc0
 refine zae (zus r (zbc r)) ?_
 conv=>zeta
 rw[e4]
 by_cases g1:r.pc % 4=0
 case neg =>
  have ey:zbc r=zdn r 20 r.pc:=by unfold zbc;rw[if_neg g1]
  rw[ey]
  refine⟨by decide,fun _ => ?_,fun g=>absurd (by simpa using g) g1⟩
  (repeat' apply And.intro)<;>first|exact trivial|rfl
 case pos =>
  have ey:zbc r=ybl (zam r 0 r.pc) r.pc:=by unfold zbc;rw[if_pos g1]
  rw[ey]
  refine⟨by decide,fun g=>absurd g1 (by simpa using g),fun _=>⟨⟨rfl,rfl,rfl,rfl,rfl,rfl,h1,hpc⟩,zam r 0 r.pc, ?_, ?_⟩⟩
  · (repeat' apply And.intro)<;>first|exact trivial|rfl
  generalize zam r 0 r.pc=t at *
  unfold ybl
  by_cases g2:t.2.1=0
  case neg =>
   rw[if_neg g2]
   refine⟨fun _ => ?_,fun g=>absurd (by simpa using g) g2⟩
   (repeat' apply And.intro)<;>first|exact trivial|rfl
  case pos =>
   rw[if_pos g2]
   refine⟨fun g=>absurd g2 (by simpa using g),fun _=>⟨⟨rfl,t1.1.1,t2⟩, ?_⟩⟩
   have hm:zaz t.1.m:=t1.1.1
   obtain⟨x0,x1⟩:=read4 hm (a:=t.2.2)
   by_cases g3:(za9 t.1.m t.2.2 4).1=true
   case neg =>
    rw[if_neg g3]
    refine⟨fun _ => ?_,fun g=>absurd (by simpa using g) g3⟩
    (repeat' apply And.intro)<;>first|exact trivial|rfl
   case pos =>
    rw[if_pos g3]
    refine⟨fun g=>absurd g3 (by simpa using g),fun _=>⟨(t.1,(za9 t.1.m t.2.2 4).2), ?_, ?_⟩⟩
    · (repeat' apply And.intro)<;>first|exact trivial|rfl
    · dsimp only
      generalize (za9 t.1.m t.2.2 4).2=x at *
      have f0:IntKind.i64.wrap (x.tmod 256)=x % 256:=by rw[Int.tmod_eq_emod_of_nonneg x0];exact zac (by omega) (by omega)
      have f1:IntKind.i64.wrap ((IntKind.u64.wrap (x.tdiv 256)).tmod 256)=x/256 % 256:=by
       rw[Int.tdiv_eq_ediv_of_nonneg x0,zah (by omega) (by omega),Int.tmod_eq_emod_of_nonneg (by omega)]
       exact zac (by omega) (by omega)
      have f2:IntKind.i64.wrap ((IntKind.u64.wrap (x.tdiv 65536)).tmod 256)=x/65536 % 256:=by
       rw[Int.tdiv_eq_ediv_of_nonneg x0,zah (by omega) (by omega),Int.tmod_eq_emod_of_nonneg (by omega)]
       exact zac (by omega) (by omega)
      have f3:IntKind.i64.wrap (IntKind.u64.wrap (x.tdiv 16777216))=x/16777216:=by
       rw[Int.tdiv_eq_ediv_of_nonneg x0,zah (by omega) (by omega)]
       exact zac (by omega) (by omega)
      rw[f0,f1,f2,f3]
      refine⟨by decide,by decide,by decide,by decide,by decide,by decide,⟨rfl,rfl,rfl,rfl,rfl,rfl,zzp t1 (c1.trans h2) (by omega) x0 x1⟩, ?_⟩
      (repeat' apply And.intro)<;>first|exact trivial|rfl
theorem yuz:zar Tryz.prog kEH1 := .cons (by kernel_rfl) yhj (yg9.append yg6)
theorem yth:DictOk Tryz.prog FEH1:=zaw yuz .nil .nil
def Rn.ofH(h:Ha):Rn:=⟨h.1,h.2.1,h.2.2.1,h.2.2.2.1,h.2.2.2.2.1,h.2.2.2.2.2.1,h.2.2.2.2.2.2.1,h.2.2.2.2.2.2.2.1,h.2.2.2.2.2.2.2.2.1,h.2.2.2.2.2.2.2.2.2.1,h.2.2.2.2.2.2.2.2.2.2.1,h.2.2.2.2.2.2.2.2.2.2.2.1,(toC h.2.2.2.2.2.2.2.2.2.2.2.2).1.1,(toC h.2.2.2.2.2.2.2.2.2.2.2.2).1.2.1,(toC h.2.2.2.2.2.2.2.2.2.2.2.2).1.2.2,(toC h.2.2.2.2.2.2.2.2.2.2.2.2).2.1.1,(toC h.2.2.2.2.2.2.2.2.2.2.2.2).2.1.2.1,(toC h.2.2.2.2.2.2.2.2.2.2.2.2).2.1.2.2,(toC h.2.2.2.2.2.2.2.2.2.2.2.2).2.2.1,(toC h.2.2.2.2.2.2.2.2.2.2.2.2).2.2.2.1,(toC h.2.2.2.2.2.2.2.2.2.2.2.2).2.2.2.2,false,0,0,0,[],false,false,0,false,0⟩
theorem zp9{t:Tl}(h:TlR t)(k:Int):TlR (zcm t k)∧(zcm t k).2.2.length=t.2.2.length:=by
 obtain⟨a,b,c,d⟩:=h
 have hz:EnR zE:=⟨yqt,zor,zor,zor⟩
 have hl:(zcm t k).2.2.length=t.2.2.length:=by simp[zcm]
 refine⟨⟨a,b,by rw[hl];exact c,fun e he => ?_⟩,hl⟩
 rcases List.mem_or_eq_of_mem_set he with he|rfl
 · exact d e he
 · exact hz
theorem zpj{r:Rn}{pl:Bool}{pk:Int}(h:zr5 r pk):zn0 (r.start pl pk):=by
 obtain⟨h1,h2,_⟩:=h
 exact⟨⟨h1,h2,Nat.zero_le _⟩,rfl,by show 0+3≤2097152;omega⟩
theorem ywh(k:Cch):toC (ofC k)=k:=rfl
theorem ym6(r:Rn)(k:Int):r.evict k=r.withK (ofC (zcm (toC r.k).1 k,zcm (toC r.k).2.1 k,zcm (toC r.k).2.2 k)):=rfl
theorem ybw{r:Rn}(h:zn0 r)(k:Int):zn0 (r.evict k):=by
 obtain⟨h1,e,f⟩:=h
 have hc:ChR (toC r.k):=h1.1.2.2.2.2.2.2.2.2.2.2.2
 rw[ym6]
 refine⟨RnR.withK h1 ?_,e,f⟩
 rw[ywh]
 exact⟨(zp9 hc.1 k).1,(zp9 hc.2.1 k).1,(zp9 hc.2.2 k).1⟩
theorem zj0{r:Rn}{pl:Bool}{pk:Int}(h:zr5 r pk):zn0 (r.first pl pk):=by
 unfold Rn.first
 split
 · exact ybw (zpj h) _
 · exact zpj h
theorem yhn{r:Rn}{pl:Bool}{pk:Int}(h:zr5 r pk):zuu r pl pk (zck r pl pk):=by
 have hb:=zj0 (pl:=pl) h
 obtain⟨h1,h2,k0,k1,l1,l2,l3⟩:=h
 have hsz:SzH (r.m,r.u,r.pc,r.mo,r.su,r.mx,r.sa,r.tv,r.ep,r.em,r.ca,r.tl,r.s1,r.w1,r.m1,r.s2,r.w2,r.m2,r.s3,r.w3,r.m3):=⟨h1.1.1,h1.2.1,h1.2.2.2.2.2.2.2.2.2.2.2.1.2.2.1,h1.2.2.2.2.2.2.2.2.2.2.2.2.1.2.2.1,h1.2.2.2.2.2.2.2.2.2.2.2.2.2.2.2.1⟩
 obtain⟨_,_,q1,q2,q3⟩:=id hsz
 have q1:SzR r.m1.length:=q1
 have q2:SzR r.m2.length:=q2
 have q3:SzR r.m3.length:=q3
 refine zae (zuv r pl pk (zck r pl pk)) ?_
 conv=>zeta
 refine⟨⟨rfl,rfl,rfl,rfl,rfl,hsz⟩,fun z=>z=r.first pl pk,⟨fun g => ?_,fun g => ?_⟩, ?_⟩
 · have g':(decide (pk≥128) && !pl)=true:=by cases hd:decide (pk≥128)<;>rw[hd] at g<;>simp_all
   have hp:pk≥128:=by simp only[Bool.and_eq_true,decide_eq_true_eq] at g';exact g'.1
   have ew:IntKind.i64.wrap (pk-128)=pk-128:=zac (by omega) (by omega)
   have e0:(0:Int)≤pk-128:=by omega
   have ef:r.first pl pk=(r.start pl pk).evict (pk-128):=by unfold Rn.first;rw[if_pos g']
   rw[ew,ef]
   refine⟨⟨rfl,q1,l1,e0⟩,⟨rfl,q2,l2,e0⟩,⟨rfl,q3,l3,e0⟩,(r.start pl pk).evict (pk-128), ?_,rfl⟩
   (repeat' apply And.intro)<;>first|exact trivial|rfl
 · have g':¬ (decide (pk≥128) && !pl)=true:=by cases hd:decide (pk≥128)<;>rw[hd] at g<;>simp_all
   have ef:r.first pl pk=r.start pl pk:=by unfold Rn.first;rw[if_neg g']
   rw[ef]
   refine⟨r.start pl pk, ?_,rfl⟩
   (repeat' apply And.intro)<;>first|exact trivial|rfl
 · rintro z rfl
   unfold zck
   generalize r.first pl pk=z at *
   by_cases hc:(zbc z).cs=0
   · rw[if_pos hc]
     refine⟨⟨rfl,rfl,rfl,rfl,rfl,rfl,hb⟩,fun _ => ?_,fun g=>absurd hc (by simpa using g)⟩
     (repeat' apply And.intro)<;>first|exact trivial|rfl
   · rw[if_neg hc]
     refine⟨⟨rfl,rfl,rfl,rfl,rfl,rfl,hb⟩,fun g=>absurd (by simpa using g) hc,fun _=>⟨⟨rfl,rfl,rfl,rfl,rfl,hsz⟩, ?_⟩⟩
     (repeat' apply And.intro)<;>first|exact trivial|rfl
theorem yhm:Sound Tryz.prog 65 (zad [haP,bl,i64] [ruP] (fun t=>some (zr5 (Rn.ofH t.1) t.2.2)) (fun t=>(zck (Rn.ofH t.1) t.2.1 t.2.2).t)):=by
 refine zlc mixed Tryz.func65 (by kernel_rfl) (by kernel_rfl) yth (fun t h => ?_)
 obtain⟨x,pl,pk⟩:Ha × Bool × Int:=t
 have h:zr5 (Rn.ofH x) pk:=h
 exact⟨_,yhn h⟩
end Go.Proofs.YtfiddfbagbaofaaGreat.V
