/- The reference's step: a whole step; and that it keeps its kinds. Conditions: those in each statement. -/
import Derived.Test.YtfiddfbagbaofaaGreatEG
import Derived.KernelRfl
namespace Go.Proofs.YtfiddfbagbaofaaGreat.V
open Go
def yw0(r:Rn)(x:Int):Rn:=zbg r (x % 256) (x/256 % 256) (x/65536 % 256) (x/16777216) x
def ybr(t:Rn × Int × Int)(pc:Int):Rn :=
 if t.2.1=0 then (if (zbc t.1.m t.2.2 4).1=true then yw0 t.1 (zbc t.1.m t.2.2 4).2 else zd1 t.1 1 pc) else zd1 t.1 t.2.1 pc
def zbd(r:Rn):Rn:=if r.pc % 4=0 then ybr (zao r 0 r.pc) r.pc else zd1 r 20 r.pc
def zog(r:Rn):Prop:=RnR r∧r.cs=0∧r.ks.length+3≤2097152
def kEH0:Known:=(208,ztv [ruP,i64,i64,i64,i64,u64] [ruP] (fun t=>some (zer (Rn.of t.1) t.2.2.1 t.2.2.2.1 t.2.2.2.2.1 t.2.2.2.2.2)) (fun t=>(zbg (Rn.of t.1) t.2.1 t.2.2.1 t.2.2.2.1 t.2.2.2.2.1 t.2.2.2.2.2).t))::kEG0
def FEH0:Dict:=mkD (kEH0++kB3) [] []
def ys7(pc:Int)(k:Nat):Option CutS :=
 if k=6 then some (CutS.mk (Rn × Int × Int) (fun _=>slots 62 [(1,.ptr 6 0),(2,.ptr 7 0),(3,.v (.int .u64 pc)),(4,.ptr 8 0)]) (fun z=>dead6++[.fix (zwb z.1 9) true (some 110),.fix yl4 true (some 110),.fix [.v (.int .i64 z.2.1),.v (.int .u64 z.2.2)] true (some 77)]++yec z.1))
 else if k=12 then some (CutS.mk (Rn × Int) (fun z=>slots 62 [(1,.ptr 6 0),(2,.ptr 7 0),(6,.v (.int .u64 z.2))]) (fun z=>dead6++[.fix (zwb z.1 8) true (some 110),.fix yl4 true (some 110)]++yec z.1)) else none
def yx1(pc:Int):Specs:={ Specs.none with cut:=ys7 pc }
def ykr(r y:Rn):Prop:=zi2 Tryz.prog FEH0 (yx1 r.pc) Tryz.f162 [ruP] [ruP] r.t y.t
def kEH1:Known:=(162,ztv [ruP] [ruP] (fun x=>some (zog (Rn.of x))) (fun x=>(zbd (Rn.of x)).t))::kEH0++kEE0
def FEH1:Dict:=mkD kEH1 [] []
def Rn.start(r:Rn)(pl:Bool)(pk:Int):Rn:={ r with pl:=pl,pk:=pk,cs:=0,tw:=0,ks:=[],fd:=false,f1:=false,f2:=0,f3:=false,f4:=0 }
def Rn.evict(r:Rn)(k:Int):Rn:={ r with s1:=(zcq (r.s1,r.w1,r.m1) k).1,w1:=(zcq (r.s1,r.w1,r.m1) k).2.1,m1:=(zcq (r.s1,r.w1,r.m1) k).2.2,s2:=(zcq (r.s2,r.w2,r.m2) k).1,w2:=(zcq (r.s2,r.w2,r.m2) k).2.1,m2:=(zcq (r.s2,r.w2,r.m2) k).2.2,s3:=(zcq (r.s3,r.w3,r.m3) k).1,w3:=(zcq (r.s3,r.w3,r.m3) k).2.1,m3:=(zcq (r.s3,r.w3,r.m3) k).2.2 }
def Rn.first(r:Rn)(pl:Bool)(pk:Int):Rn:=if (decide (pk≥128) && !pl)=true then (r.start pl pk).evict (pk-128) else r.start pl pk
def Rn.back(r y:Rn):Rn:={ y with m:=r.m,u:=r.u,pc:=r.tv,mo:=2,su:=r.su,mx:=r.mx,sa:=r.sa,tv:=r.tv,ep:=r.pc,em:=r.mo,ca:=y.cs,tl:=y.tw }
def zcy(r:Rn)(pl:Bool)(pk:Int):Rn:=if (zbd (r.first pl pk)).cs=0 then zbd (r.first pl pk) else r.back (zbd (r.first pl pk))
def zsu(r:Rn)(pk:Int):Prop:=HaR r.h∧r.u.length=8∧0≤pk∧pk≤255∧1≤r.m1.length∧1≤r.m2.length∧1≤r.m3.length
def argH(r:Rn):Heap:=[.arr [.i .u8] r.m false,.arr [.i .u64] r.u false,.arr shE r.m1 false,.arr shE r.m2 false,.arr shE r.m3 false]
def yon(r:Rn)(pl:Bool)(pk:Int)(k:Nat):Option CutS :=
 if k=3 then some (CutS.mk Rn (fun _=>slots 72 [(1,.v (.bool pl)),(2,.v (.int .i64 pk)),(3,.ptr 5 0),(6,.ptr 6 0),(7,.ptr 7 0)]) (fun z=>argH r++[.fix ((zwb r 0).take 21) true (some 41),.fix yl4 true (some 110),.fix (zwb z 8) true (some 110)]++yec z)) else none
def stepX(r:Rn)(pl:Bool)(pk:Int):Specs:={ Specs.none with cond:=yon r pl pk }
def zvf(r:Rn)(pl:Bool)(pk:Int)(y:Rn):Prop:=zal Tryz.prog FEH1 (stepX r pl pk) Tryz.f65 [haP,bl,i64] [ruP] (r.h,pl,pk) y.t
set_option linter.unusedVariables false
theorem zvb(r y:Rn):ykr r y=(
 let A0(a:Int):=IntKind.i64.wrap (a.tmod 256);
 let A1(a:Rn × Int)(b:Int):=IntKind.u64.wrap (a.2.tdiv b);
 let A2(a b:Es):=List.length a=List.length b;
 let A3(a b c:Prop):=a∧b∧c;
 let A4(a b c d e:Prop):=A3 a b (A3 c d e);
 let A5(a:Rn):=List.length a.26;
 let A6(a:Rn × Int):=A0 (A1 a 256);
 let A7(a:Rn × Int):=IntKind.i64.wrap (A1 a 16777216);
 let A8(a b c d e f g h i:Prop):=A4 a b c d (A4 e f g h i);
 let A9:=(0:Int)=0;
 let Aa:=(0:Nat)=0;
 let Ab(a:Rn × Int):=A0 (A1 a 65536);
 let Ac(a b c d e f g h i j k l m n o p q:Prop):=A8 a b c d e f g h (A8 i j k l m n o p q);
 let Ad(a:Rn × Int):=zbg a.1 (A0 a.2) (A6 a) (Ab a) (A7 a) a.2;
 let Ae:=Value.slice none 0 0;
 let Af:=(zao r 0 r.3).1;
 let Ah(a b c d e f g h i j k l m n o p q r s t u v w:Prop)(x y:Bool)(z B C:Prop)(D E:Rn):=Ac a b c d e f g h i j k l m n o p (Ac q r s t u v w (x=y) z B C (D.1=E.1) (D.2=E.2) (D.15=E.15) (D.18=E.18) (D.21=E.21)
  (D.26=E.26));
 let Ai(a b:Rn):=A2 a.21 b.21;
 let Aj(a:Int):=a≠0;
 let Ak(a b:Rn):=A2 a.18 b.18;
 let Al(a b:Rn):=List.length a.1=List.length b.1;
 let Am(a b:Rn):=A2 a.15 b.15;
 let An:=Aj 256;
 let Ao(a b:Rn):=List.length a.2=List.length b.2;
 let Ap:=false=false;
 let Aq(a b:Rn):=A5 a=A5 b;
 let Ar(a b c d e f g:Prop)(h i:Rn):=Ah a a A9 A9 A9 A9 A9 A9 b A9 c b A9 c b d c a A9 b d e a false false A9 f g h i;
 let Au(a:Rn):=Ah (y.9=a.9) (y.10=a.10) (y.11=a.11) (y.12=a.12) (y.13=a.13) (y.14=a.14) Aa (Am y a) (y.16=a.16) (y.17=a.17) Aa (Ak y a) (y.19=a.19) (y.20=a.20) Aa (Ai y a) (y.22=a.22) (y.23=a.23) (y.24=a.24)
  (y.25=a.25) Aa (A5 y=A5 a) (y.27=a.27) y.28 a.28 (y.29=a.29) (y.30=a.30) (y.31=a.31) y a;
 let Aw(a:Rn × Int × Int):=a.2.2;
 let Ax:=Ae=Ae;
 let Ay(a:Rn)(b:Prop)(c:Rn):=(Al a a∧b)∧A3 Aa (Al y c) (A8 Aa (Ao y c) (y.3=c.3) (y.4=c.4) (y.5=c.5) (y.6=c.6) (y.7=c.7) (y.8=c.8) (Au c));
 let Az(a:Prop)(b:Bool)(c d:Prop):=A3 a (b=true→c) (b=false→d);
 let AB(a:Rn × Int × Int):=A4 (Ao a.1 a.1) (Am a.1 a.1) (Ak a.1 a.1) (Ai a.1 a.1) (Aq a.1 a.1);
 let AC(a:Rn × Int × Int) := !(zbc a.1.1 (Aw a) 4).1;
 let AD:=(zao r 0 r.3).2;
 Az (Aj 4) (r.3.tmod 4 != 0) (Ay r (A4 (Ao r r) (Am r r) (Ak r r) (Ai r r) (Aq r r)) (zd1 r 20 r.3)) ((Al r r∧A3 (Ao r r) (Am r r) (A4 (Ak r r) (Ai r r) (Aq r r) (RnR r) (U64 r.3)))∧∃(x0:Rn × Int ×
  Int),Az (A4 (r.3=r.3) Aa (Al x0.1 Af) Aa (A8 (Ao x0.1 Af) (x0.1.3=Af.3) (x0.1.4=Af.4) (x0.1.5=Af.5) (x0.1.6=Af.6) (x0.1.7=Af.7) (x0.1.8=Af.8) (x0.1.9=Af.9) (Ac (x0.1.10=Af.10) (x0.1.11 =
  Af.11) (x0.1.12=Af.12) (x0.1.13=Af.13) (x0.1.14=Af.14) Aa (Am x0.1 Af) (x0.1.16=Af.16) (x0.1.17=Af.17) Aa (Ak x0.1 Af) (x0.1.19=Af.19) (x0.1.20=Af.20) Aa (Ai x0.1 Af) (x0.1.22=Af.22) (Ac
  (x0.1.23=Af.23) (x0.1.24=Af.24) (x0.1.25=Af.25) Aa (Aq x0.1 Af) (x0.1.27=Af.27) (x0.1.28=Af.28) (x0.1.29=Af.29) (x0.1.30=Af.30) (x0.1.31=Af.31) Ax Ax A9 A9 Ap Ap (Ar A9 Ax A9 Ap Ap (x0.2.1 =
  AD.1) (Aw x0=AD.2) x0.1 Af))))) (x0.2.1 != 0) (Ay x0.1 (AB x0) (zd1 x0.1 x0.2.1 r.3)) (A3 (A3 (Al x0.1 x0.1) (zaj x0.1.1) (U64 (Aw x0))) (AC x0=true→Ay x0.1 (AB x0) (zd1 x0.1 (1
  : Int) r.3)) (AC x0=false→∃(x1:Rn × Int),A3 (A3 (x1.2=(zbc x0.1.1 (Aw x0) 4).2) Aa (A8 (Al x1.1 x0.1) Aa (Ao x1.1 x0.1) (x1.1.3=x0.1.3) (x1.1.4=x0.1.4) (x1.1.5=x0.1.5)
  (x1.1.6=x0.1.6) (x1.1.7=x0.1.7) (Ac (x1.1.8=x0.1.8) (x1.1.9=x0.1.9) (x1.1.10=x0.1.10) (x1.1.11=x0.1.11) (x1.1.12=x0.1.12) (x1.1.13=x0.1.13) (x1.1.14=x0.1.14) Aa (Am
  x1.1 x0.1) (x1.1.16=x0.1.16) (x1.1.17=x0.1.17) Aa (Ak x1.1 x0.1) (x1.1.19=x0.1.19) (x1.1.20=x0.1.20) Aa (Ac (Ai x1.1 x0.1) (x1.1.22=x0.1.22) (x1.1.23=x0.1.23) (x1.1.24 =
  x0.1.24) (x1.1.25=x0.1.25) Aa (Aq x1.1 x0.1) (x1.1.27=x0.1.27) (x1.1.28=x0.1.28) (x1.1.29=x0.1.29) (x1.1.30=x0.1.30) (x1.1.31=x0.1.31) Ax Ax A9 A9 (Ar Ap A9 Ax A9 Ax Ap A9 x1.1
  x0.1))))) An (Ac An An (Aj 65536) An (Aj 16777216) (A3 (Al x1.1 x1.1) (Ao x1.1 x1.1) (A4 (Am x1.1 x1.1) (Ak x1.1 x1.1) (Ai x1.1 x1.1) (Aq x1.1 x1.1) (zer x1.1 (A6 x1) (Ab x1) (A7
  x1) x1.2))) Aa (Al y (Ad x1)) Aa (Ao y (Ad x1)) (y.3=(Ad x1).3) (y.4=(Ad x1).4) (y.5=(Ad x1).5) (y.6=(Ad x1).6) (y.7=(Ad x1).7) (y.8=(Ad x1).8) (Au (Ad x1))))))):=by kernel_rfl
theorem zvg(r:Rn)(pl:Bool)(pk:Int)(y:Rn):zvf r pl pk y=(
 let A0(a:Int):=a=0;
 let A1(a b c:Prop):=a∧b∧c;
 let A2(a b c d e:Prop):=A1 a b (A1 c d e);
 let A3:=A0 0;
 let A4(a b:Es):=List.length a=List.length b;
 let A5:=(0:Nat)=0;
 let A6(a b c d e f g h i:Prop):=A2 a b c d (A2 e f g h i);
 let A7(a:Rn):=List.length a.2;
 let A8(a:Rn):=List.length a.1;
 let A9:=IntKind.i64.wrap (pk-128);
 let Aa(a b c d e f g h i j k l m n o p q:Prop):=A6 a b c d e f g h (A6 i j k l m n o p q);
 let Ab(a b c d e f g h i j k l m n o p q r s t u v w x y z B C D E F G H:Prop):=Aa a b c d e f g h i j k l m n o p (Aa q r s t u v w x y z B C D E F G H);
 let Ac:=Value.slice none 0 0;
 let Ad(a:Rn):=List.length a.26;
 let Ae(a:Bool):=a=false;
 let Af(a b c d e f g h:Prop)(i j:Int)(k l m:Prop)(n o:Int)(p q r s t u v w x y z B C D E F G H I J:Prop):=Ab a b c d e f g h (i=j) k l m (n=o) p q r s t u v w x y z B C D E F G H I J;
 let Ah:=Ae false;
 let Ai(a b:Rn):=Af (y.14=(zbd a).14) A5 (A4 y.15 (zbd a).15) (y.16=(zbd a).16) (y.17=(zbd a).17) A5 (A4 y.18 (zbd a).18) (y.19=(zbd a).19) y.20 (zbd a).20 A5 (A4 y.21 (zbd a).21) (y.22=(zbd a).22) y.23
  (zbd a).23 (y.24=(zbd a).24) (y.25=(zbd a).25) A5 (Ad y=Ad (zbd a)) (y.27=(zbd a).27) (y.28=(zbd a).28) (y.29=(zbd a).29) (y.30=(zbd a).30) (y.31=(zbd a).31) (r.1=r.1) (r.2=r.2) (r.15=r.15) (r.18 =
  r.18) (r.21=r.21) (y.1=b.1) (y.2=b.2) (y.15=(zbd a).15) (y.18=(zbd a).18) (y.21=(zbd a).21) (y.26=(zbd a).26);
 let Aj(a b:Int)(c:Es):=(zcq (a,b,c) A9).2;
 let Ak(a b:Rn):=A4 a.21 b.21;
 let Al(a b:Rn):=A4 a.18 b.18;
 let Am(a b:Rn):=A4 a.15 b.15;
 let An(a b:Rn):=A8 a=A8 b;
 let Ao(a b:Rn):=A7 a=A7 b;
 let Ap(a:Rn):=(zbd a).24==0;
 let Aq(a:Es)(b:CsT [Cs.i IntKind.i64,Cs.sl shE]):=List.length a=List.length b.2;
 let Ar(a:Prop)(b:Es):=a∧A1 (SzR (List.length b)) ((1:Nat)≤List.length b) ((0:PmT [i64])≤A9);
 let Au(a b:Int)(c:Es):=(zcq (a,b,c) A9).1;
 let Aw:=bif decide (pk≥128) then !pl else false;
 let Ax(a:Rn)(b:Prop)(c:Rn→Prop):=A1 (pl=pl) (pk=pk) (A6 (r.1=r.1) (r.2=r.2) (r.15=r.15) (r.18=r.18) (r.21=r.21) A5 (A8 r=A8 r) A5 (Af (A7 r=A7 r) (r.3=r.3) (r.4=r.4) (r.5=r.5) (r.6=r.6) (r.7=r.7)
  (r.8=r.8) (r.9=r.9) r.10 r.10 (r.11=r.11) (r.12=r.12) (r.13=r.13) r.14 r.14 A5 (A4 r.15 r.15) (r.16=r.16) (r.17=r.17) A5 (A4 r.18 r.18) (r.19=r.19) (r.20=r.20) A5 (A4 r.21 r.21) (Ac=Ac) (Ac=Ac) A3 A3 Ah Ah A3 A3 A3 (Ab
  A3 A3 A3 A3 A3 (Ac=Ac) A3 A3 (Ac=Ac) A3 A3 (Ac=Ac) Ah A3 A3 A3 (Ac=Ac) Ah Ah A3 Ah A3 A5 (A8 a=A8 r) A5 (A7 a=A7 r) (a.3=r.3) (a.4=r.4) (a.5=r.5) (a.6=r.6) (a.7=r.7) (a.8=r.8) b)))∧c a;
 let Ay(a:Rn):=y.13=(zbd a).13;
 let Az:=An r r∧A2 (Ao r r) (Am r r) (Al r r) (Ak r r) (SzH (r.1,r.2,r.3,r.4,r.5,r.6,r.7,r.8,r.9,r.10,r.11,r.12,r.13,r.14,r.15,r.16,r.17,r.18,r.19,r.20,r.21));
 let AB:=Aj r.19 r.20 r.21;
 let AC:=List.length r.21;
 let AD(a:Es)(b c:Int)(d:Es):=a=(Aj b c d).2;
 Az∧∃(x0:Rn→Prop),((Aw=true→Ar (Am r r) r.15∧A1 (Ar (Al r r) r.18) (Ak r r∧A1 (SzR AC) ((1:Nat)≤AC) ((0:PmT [i64])≤A9)) (∃(x1:Rn),Ax x1 (Ab (x1.9=r.9) (x1.10=r.10) (x1.11=r.11) (x1.12=r.12) (x1.13
  = Au r.13 r.14 r.15) (x1.14=(Aj r.13 r.14 r.15).1) A5 (Aq x1.15 (Aj r.13 r.14 r.15)) (x1.16=Au r.16 r.17 r.18) (x1.17=(Aj r.16 r.17 r.18).1) A5 (Aq x1.18 (Aj r.16 r.17 r.18)) (x1.19=Au r.19 r.20 r.21) (x1.20=AB.1) A5
  (Aq x1.21 AB) (x1.22=pl) (x1.23=pk) (A0 x1.24) (A0 x1.25) A5 (Ad x1=0) (Ae x1.27) (Ae x1.28) (A0 x1.29) (Ae x1.30) (A0 x1.31) (x1.1=r.1) (x1.2=r.2) (AD x1.15 r.13 r.14 r.15) (AD x1.18 r.16 r.17 r.18) (AD
  x1.21 r.19 r.20 r.21) (x1.26=[])) x0))∧(Ae Aw→∃(x2:Rn),Ax x2 (Af (x2.9=r.9) (x2.10=r.10) (x2.11=r.11) (x2.12=r.12) (x2.13=r.13) (x2.14=r.14) A5 (Am x2 r) x2.16 r.16 (x2.17=r.17) A5 (Al x2 r) x2.19
  r.19 (x2.20=r.20) A5 (Ak x2 r) (x2.22=pl) (x2.23=pk) (A0 x2.24) (A0 x2.25) A5 (Ad x2=0) (Ae x2.27) (Ae x2.28) (A0 x2.29) (Ae x2.30) (A0 x2.31) (x2.1=r.1) (x2.2=r.2) (x2.15=r.15) (x2.18=r.18) (x2.21 =
  r.21) (x2.26=[])) x0))∧∀(x3:Rn),x0 x3→A1 (A1 (An x3 x3) (Ao x3 x3) (A2 (Am x3 x3) (Al x3 x3) (Ak x3 x3) (Ad x3=Ad x3) (zog x3))) (Ap x3=true→A5∧A1 (An y (zbd x3)) A5 (A2 (Ao y (zbd x3)) (y.3 =
  (zbd x3).3) (y.4=(zbd x3).4) (y.5=(zbd x3).5) (A6 (y.6=(zbd x3).6) (y.7=(zbd x3).7) (y.8=(zbd x3).8) (y.9=(zbd x3).9) (y.10=(zbd x3).10) (y.11=(zbd x3).11) (y.12=(zbd x3).12) (Ay x3) (Ai x3
  (zbd x3))))) (Ae (Ap x3)→Aa Az A5 (An y r) A5 (Ao y r) (y.3=r.8) (y.4=2) (y.5=r.5) (y.6=r.6) (y.7=r.7) (y.8=r.8) (y.9=r.3) (y.10=r.4) (y.11=(zbd x3).24) (y.12=(zbd x3).25) (Ay x3) (Ai x3 r))):=by kernel_rfl
set_option linter.unusedSimpArgs false
set_option linter.unusedVariables false
theorem zgf{r:Rn}(h:RnR r){a x:Int}(hx:U64 x):RnR (zb3 r a x):=by
 obtain⟨⟨a1,a2,a3,a4,a5,a6,a7,a8,a9,a10,a11,a12⟩,b,d⟩:=h
 have hl:(if 0<a then r.u.set a.toNat x else r.u).length=r.u.length:=by split<;>simp
 refine⟨⟨a1, ?_, ?_,a4,a5,a6,a7,a8,a9,a10,a11,a12⟩,hl.trans b,d⟩
 · show SzR (if 0<a then r.u.set a.toNat x else r.u).length
   rw[hl];exact a2
 · show ∀y ∈ (if 0<a then r.u.set a.toNat x else r.u),U64 y
   intro y hy
   split at hy
   · rcases List.mem_or_eq_of_mem_set hy with hy|rfl
     · exact a3 y hy
     · exact hx
   · exact a3 y hy
theorem zh8{r:Rn}(h:RnR r)(c v:Int):RnR (zd1 r c v):=⟨h.1,h.2.1,h.2.2⟩
theorem yi2:∀(ps:Ps)(m b:By),zaj m→(∀x ∈ b,0≤x∧x<256)→(∀p ∈ ps,0≤p.2.1∧0≤p.2.2∧p.2.2+p.2.1≤m.length)→zaj (zii m ps b)
 | [],m,b,h,_,_=>h
 | p::ps,m,b,h,hb,hp=>by
  obtain⟨h1,h2,h3⟩:=hp p (by simp)
  have hl:(zg0 m p.2.2.toNat (b.take p.2.1.toNat)).length=m.length:=zxz (by simp;omega)
  unfold zii
  refine yi2 ps _ _ ⟨by rw[hl];exact h.1,fun x hx => ?_⟩ (fun x hx=>hb x (List.mem_of_mem_drop hx)) (fun q hq=>by rw[hl];exact hp q (by simp[hq]))
  unfold zg0 at hx
  rcases List.mem_append.1 hx with hx|hx
  · rcases List.mem_append.1 hx with hx|hx
    · exact h.2 x (List.mem_of_mem_take hx)
    · exact hb x (List.mem_of_mem_take hx)
  · exact h.2 x (List.mem_of_mem_drop hx)
theorem zh0{t:Tl}(h:TlR t)(f:Fc):TlR (zdg t f):=by
 obtain⟨a,b,c,d⟩:=h
 unfold zdg
 split
 · refine⟨a,b,by simpa using c,fun e he => ?_⟩
   obtain⟨x,hx,rfl⟩:=List.mem_map.1 he
   unfold zok
   split
   · exact⟨yd8,zj5,zj5,zj5⟩
   · exact d x hx
 · exact⟨a,b,c,d⟩
theorem yyy{s:Int}(h0:0≤s)(h1:s<256):U64 (zfk s):=by
 unfold zfk
 split
 · exact zel _
 · exact⟨h0,by omega⟩
theorem yra{m:By}{ps:Ps}(hm:zaj m)(hp:PsR m.length ps):U64 (zbq (zeo m ps)):=zh1 (zj9 hm) (Nat.le_trans ze7 hp.2.2.1)
def DoR(r:Rn)(z:Zx):Prop:=RnR r∧r.cs=0∧r.ks.length+2≤2097152∧U64 z.2.2.2.1∧U64 z.2.2.2.2.2.1∧(0≤z.2.2.1∧z.2.2.1<8)∧(1≤z.2.2.2.2.2.2.2.2∧z.2.2.2.2.2.2.2.2≤8)
theorem do_in{r:Rn}{z:Zx}{op s word:Int}(h:DoR r z):RnR (doM r z op s word)∧(doM r z op s word).ks.length≤r.ks.length+2:=by
 obtain⟨h4,h2,h3,hi,hxa,hc8,hW⟩:=h
 obtain⟨za,zb,zc,imm,jump,xa,xb,xc,w⟩:=z
 dsimp only at hi hxa hc8 hW
 have hk:r.ks.length≤r.ks.length+2:=by omega
 have hPW:zee r (IntKind.u64.wrap (xb+imm)) w:=⟨h4,h3,zel _,hW.1,hW.2⟩
 have hP8:zee r (IntKind.u64.wrap (xb+imm)) 8:=⟨h4,h3,zel _,by omega,by omega⟩
 have put:∀{w v:Int},zee r (IntKind.u64.wrap (xb+imm)) w→(zas r 2 (IntKind.u64.wrap (xb+imm)) w).1.cs=0→RnR (zx0 (zas r 2 (IntKind.u64.wrap (xb+imm)) w) w v)∧(zx0 (zas r 2 (IntKind.u64.wrap (xb+imm)) w) w v).ks.length≤r.ks.length+2:=by
  intro w v hP hc
  obtain⟨n1,n2,n3,n4,n5,n6,n7⟩:=zdu (kind:=2) hP
  have n8:=n7 h2 hc
  rw[← n3] at n8
  obtain⟨⟨a1,a2,a3,a4,a5,a6,a7,a8,a9,a10,a11,a12⟩,b,d⟩:=n1
  exact⟨⟨⟨yi2 _ _ _ a1 (fun x hx=>zww _ _ x hx) (fun p hp=>by obtain⟨x1,x2,x3,x4⟩:=n8.1.2.2.2 p hp;exact⟨x1,x3,x4⟩),a2,a3,a4,a5,a6,a7,a8,a9,a10,a11,a12⟩,b,d⟩,n2⟩
 have hpc:∀x:Int,RnR { r with pc:=IntKind.u64.wrap x }:=fun x=>by
  obtain⟨⟨a1,a2,a3,a4,a5,a6,a7,a8,a9,a10,a11,a12⟩,b,d⟩:=h4
  exact⟨⟨a1,a2,a3,zel _,a5,a6,a7,a8,a9,a10,a11,a12⟩,b,d⟩
 obtain⟨⟨a1,a2,a3,a4,a5,a6,a7,a8,a9,a10,a11,a12⟩,b,d⟩:=id h4
 by_cases o1:op=1
 · simp only[doM,if_pos o1]
   exact⟨zgf h4 hi,hk⟩
 by_cases o2:op=2
 · simp only[doM,if_neg o1,if_pos o2]
   exact⟨zgf h4 (zel _),hk⟩
 by_cases o3:op=3
 · simp only[doM,if_neg o1,if_neg o2,if_pos o3]
   exact⟨zgf h4 (zel _),hk⟩
 by_cases o4:op=4
 · simp only[doM,if_neg o1,if_neg o2,if_neg o3,if_pos o4]
   exact⟨zgf h4 (zel _),hk⟩
 by_cases o5:op=5
 · simp only[doM,if_neg o1,if_neg o2,if_neg o3,if_neg o4,if_pos o5]
   obtain⟨n1,n2,n3,n4,n5,n6,n7⟩:=zdu (kind:=1) hPW
   unfold ztr
   split
   · rename_i hc
     have n8:=n7 h2 hc
     rw[← n3] at n8
     exact⟨zgf n1 (yra n1.1.1 n8.1),n2⟩
   · exact⟨n1,n2⟩
 by_cases o6:op=6
 · simp only[doM,if_neg o1,if_neg o2,if_neg o3,if_neg o4,if_neg o5,if_pos o6]
   obtain⟨n1,n2,n3,n4,n5,n6,n7⟩:=zdu (kind:=2) hPW
   unfold zk9
   split
   · rename_i hc
     exact put hPW hc
   · exact⟨n1,n2⟩
 by_cases o7:op=7
 · simp only[doM,if_neg o1,if_neg o2,if_neg o3,if_neg o4,if_neg o5,if_neg o6,if_pos o7]
   obtain⟨n1,n2,n3,n4,n5,n6,n7⟩:=zdu (kind:=2) hP8
   unfold yqe
   split
   · rename_i hc
     have n8:=n7 h2 hc
     rw[← n3] at n8
     obtain⟨x,y⟩:=put (v:=IntKind.u64.wrap (yl2 (zas r 2 (IntKind.u64.wrap (xb+imm)) 8)+xc)) hP8 hc
     exact⟨zgf x (yra n1.1.1 n8.1),y⟩
   · exact⟨n1,n2⟩
 by_cases o8:op=8
 · simp only[doM,if_neg o1,if_neg o2,if_neg o3,if_neg o4,if_neg o5,if_neg o6,if_neg o7,if_pos o8]
   split
   · exact⟨h4,hk⟩
   · exact⟨hpc _,hk⟩
 by_cases o9:op=9
 · simp only[doM,if_neg o1,if_neg o2,if_neg o3,if_neg o4,if_neg o5,if_neg o6,if_neg o7,if_neg o8,if_pos o9]
   split
   · exact⟨⟨⟨a1,a2,a3,a4,a5,hxa,a7,a8,a9,a10,a11,a12⟩,b,d⟩,hk⟩
   · exact⟨h4,hk⟩
 by_cases o10:op=10
 · simp only[doM,if_neg o1,if_neg o2,if_neg o3,if_neg o4,if_neg o5,if_neg o6,if_neg o7,if_neg o8,if_neg o9,if_pos o10]
   exact⟨⟨⟨a1,a2,a3,a4,a5,a6,a7,a8,a9,a10,a11,a12⟩,b,d⟩,hk⟩
 by_cases o11:op=11
 · simp only[doM,if_neg o1,if_neg o2,if_neg o3,if_neg o4,if_neg o5,if_neg o6,if_neg o7,if_neg o8,if_neg o9,if_neg o10,if_pos o11]
   unfold zeg
   split
   · exact⟨⟨⟨a1,a2,a3,a4,a5,a6,a7,a8,a9,a10,a11,a12⟩,b,d⟩,hk⟩
   · refine⟨RnR.withK (r:=fenced r _) ⟨⟨a1,a2,a3,a4,a5,a6,a7,a8,a9,a10,a11,a12⟩,b,d⟩ ?_,hk⟩
     exact⟨zh0 a12.1 _,zh0 a12.2.1 _,zh0 a12.2.2 _⟩
 by_cases o12:op=12
 · simp only[doM,if_neg o1,if_neg o2,if_neg o3,if_neg o4,if_neg o5,if_neg o6,if_neg o7,if_neg o8,if_neg o9,if_neg o10,if_neg o11,if_pos o12]
   exact⟨⟨⟨a1,a2,a3,zel _,a9,a6,a7,a8,a9,a10,a11,a12⟩,b,d⟩,hk⟩
 by_cases o13:op=13
 · simp only[doM,if_neg o1,if_neg o2,if_neg o3,if_neg o4,if_neg o5,if_neg o6,if_neg o7,if_neg o8,if_neg o9,if_neg o10,if_neg o11,if_neg o12,if_pos o13]
   exact⟨⟨⟨a1,a2,a3,a4,a5,a6,a7,hxa,⟨by show _≤zc;omega,by show zc<_;omega⟩,a10,a11,a12⟩,b,d⟩,hk⟩
 by_cases o14:op=14
 · simp only[doM,if_neg o1,if_neg o2,if_neg o3,if_neg o4,if_neg o5,if_neg o6,if_neg o7,if_neg o8,if_neg o9,if_neg o10,if_neg o11,if_neg o12,if_neg o13,if_pos o14]
   exact⟨zh8 h4 _ _,hk⟩
 simp only[doM,if_neg o1,if_neg o2,if_neg o3,if_neg o4,if_neg o5,if_neg o6,if_neg o7,if_neg o8,if_neg o9,if_neg o10,if_neg o11,if_neg o12,if_neg o13,if_neg o14]
 exact⟨zh8 h4 _ _,hk⟩
theorem yau{r:Rn}{p q s word:Int}(h:zer r p q s word):DoR (pc4 r) (zg7 r p q s):=by
 obtain⟨h1,h2,h3,hp,hq,hs,hw⟩:=h
 exact⟨zd2 h1,h2,h3,yyy hs.1 hs.2,za9 h1 (by omega) (by omega),⟨by show 0≤q % 8;omega,by show q % 8<8;omega⟩,zsn (c:=q % 8)⟩
theorem ytp{r:Rn}{op p q s word:Int}(h:zer r p q s word):RnR (zbg r op p q s word)∧(zbg r op p q s word).ks.length≤r.ks.length+2:=by
 have hz:=yau h
 unfold zbg
 split
 · exact⟨zh8 hz.1 _ _,by show r.ks.length≤_;omega⟩
 · exact do_in hz
theorem read4{m:By}(hm:zaj m){a:Int}:0≤(zbc m a 4).2∧(zbc m a 4).2<4294967296:=by
 unfold zbc
 split
 · have h:=zkp (m:=(m.drop a.toNat).take (4:Int).toNat) (fun b hb=>hm.2 b (List.mem_of_mem_drop (List.mem_of_mem_take hb)))
   have hl:((m.drop a.toNat).take (4:Int).toNat).length≤4:=List.length_take_le _ _
   refine⟨h.1,Int.lt_of_lt_of_le h.2 ?_⟩
   generalize ((m.drop a.toNat).take (4:Int).toNat).length=n at hl
   have:n=0∨n=1∨n=2∨n=3∨n=4:=by omega
   rcases this with rfl|rfl|rfl|rfl|rfl<;>decide
 · exact⟨by show (0:Int)≤0;omega,by show (0:Int)<_;omega⟩
theorem zzq{r:Rn}(h:RnR r)(hc:r.cs=0)(hk:r.ks.length+2≤2097152){x:Int}(h0:0≤x)(h1:x<4294967296):zer r (x/256 % 256) (x/65536 % 256) (x/16777216) x:=⟨h,hc,hk,by omega,by omega,by omega,⟨h0,by omega⟩⟩
theorem ys8{r:Rn}(h:zog r):RnR (zbd r)∧(zbd r).ks.length≤r.ks.length+3:=by
 obtain⟨h1,h2,h3⟩:=h
 have hpc:U64 r.pc:=h1.1.2.2.2.1
 obtain⟨t1,t2⟩:=zgw h1 (kind:=0) hpc (show r.ks.length+1≤2097152 by omega)
 obtain⟨c1,c2,c3⟩:=zh6 r 0 r.pc
 have tk:(zao r 0 r.pc).1.ks.length=r.ks.length+1:=by rw[zh7];simp
 unfold zbd
 split
 · unfold ybr
   split
   · split
     · have hm:zaj (zao r 0 r.pc).1.m:=t1.1.1
       obtain⟨x0,x1⟩:=read4 hm (a:=(zao r 0 r.pc).2.2)
       obtain⟨a,b⟩:=ytp (op:=(zbc (zao r 0 r.pc).1.m (zao r 0 r.pc).2.2 4).2 % 256) (zzq t1 (c1.trans h2) (by omega) x0 x1)
       exact⟨a,by unfold yw0;omega⟩
     · exact⟨zh8 t1 _ _,by show (zao r 0 r.pc).1.ks.length≤_;omega⟩
   · exact⟨zh8 t1 _ _,by show (zao r 0 r.pc).1.ks.length≤_;omega⟩
 · exact⟨zh8 h1 _ _,by show r.ks.length≤_;omega⟩
theorem yg9:zar Tryz.prog kEH0 := .cons (by kernel_rfl) yhk yg8
theorem ysi:DictOk Tryz.prog FEH0:=zay (yg9.append zei) .nil .nil
theorem yhi:Sound Tryz.prog 162 (ztv [ruP] [ruP] (fun x=>some (zog (Rn.of x))) (fun x=>(zbd (Rn.of x)).t)):=by
 refine zhk mixed Tryz.func162 (by kernel_rfl) (by kernel_rfl) ysi (fun  (x:RnT) h => ?_)
 have h:zog (Rn.of x):=h
 suffices g:zi2 Tryz.prog FEH0 (yx1 (Rn.of x).pc) Tryz.f162 [ruP] [ruP] (Rn.of x).t (zbd (Rn.of x)).t from ⟨_,g⟩
 generalize Rn.of x=r at *
 obtain⟨h1,h2,h3⟩:=h
 have hpc:U64 r.pc:=h1.1.2.2.2.1
 have hpc0:=hpc.1
 obtain⟨t1,t2⟩:=zgw h1 (kind:=0) hpc (show r.ks.length+1≤2097152 by omega)
 obtain⟨c1,c2,c3⟩:=zh6 r 0 r.pc
 have tk:(zao r 0 r.pc).1.ks.length=r.ks.length+1:=by rw[zh7];simp
 have e4:r.pc.tmod 4=r.pc % 4:=Int.tmod_eq_emod_of_nonneg hpc0
 refine zab (zvb r (zbd r)) ?_
 conv=>zeta
 rw[e4]
 by_cases g1:r.pc % 4=0
 case neg =>
  have ey:zbd r=zd1 r 20 r.pc:=by unfold zbd;rw[if_neg g1]
  rw[ey]
  refine⟨by decide,fun _ => ?_,fun g=>absurd (by simpa using g) g1⟩
  (repeat' apply And.intro)<;>first|exact trivial|rfl
 case pos =>
  have ey:zbd r=ybr (zao r 0 r.pc) r.pc:=by unfold zbd;rw[if_pos g1]
  rw[ey]
  refine⟨by decide,fun g=>absurd g1 (by simpa using g),fun _=>⟨⟨rfl,rfl,rfl,rfl,rfl,rfl,h1,hpc⟩,zao r 0 r.pc, ?_, ?_⟩⟩
  · (repeat' apply And.intro)<;>first|exact trivial|rfl
  generalize zao r 0 r.pc=t at *
  unfold ybr
  by_cases g2:t.2.1=0
  case neg =>
   rw[if_neg g2]
   refine⟨fun _ => ?_,fun g=>absurd (by simpa using g) g2⟩
   (repeat' apply And.intro)<;>first|exact trivial|rfl
  case pos =>
   rw[if_pos g2]
   refine⟨fun g=>absurd g2 (by simpa using g),fun _=>⟨⟨rfl,t1.1.1,t2⟩, ?_⟩⟩
   have hm:zaj t.1.m:=t1.1.1
   obtain⟨x0,x1⟩:=read4 hm (a:=t.2.2)
   by_cases g3:(zbc t.1.m t.2.2 4).1=true
   case neg =>
    rw[if_neg g3]
    refine⟨fun _ => ?_,fun g=>absurd (by simpa using g) g3⟩
    (repeat' apply And.intro)<;>first|exact trivial|rfl
   case pos =>
    rw[if_pos g3]
    refine⟨fun g=>absurd g3 (by simpa using g),fun _=>⟨(t.1,(zbc t.1.m t.2.2 4).2), ?_, ?_⟩⟩
    · (repeat' apply And.intro)<;>first|exact trivial|rfl
    · dsimp only
      generalize (zbc t.1.m t.2.2 4).2=x at *
      have f0:IntKind.i64.wrap (x.tmod 256)=x % 256:=by rw[Int.tmod_eq_emod_of_nonneg x0];exact zaa (by omega) (by omega)
      have f1:IntKind.i64.wrap ((IntKind.u64.wrap (x.tdiv 256)).tmod 256)=x/256 % 256:=by
       rw[Int.tdiv_eq_ediv_of_nonneg x0,zah (by omega) (by omega),Int.tmod_eq_emod_of_nonneg (by omega)]
       exact zaa (by omega) (by omega)
      have f2:IntKind.i64.wrap ((IntKind.u64.wrap (x.tdiv 65536)).tmod 256)=x/65536 % 256:=by
       rw[Int.tdiv_eq_ediv_of_nonneg x0,zah (by omega) (by omega),Int.tmod_eq_emod_of_nonneg (by omega)]
       exact zaa (by omega) (by omega)
      have f3:IntKind.i64.wrap (IntKind.u64.wrap (x.tdiv 16777216))=x/16777216:=by
       rw[Int.tdiv_eq_ediv_of_nonneg x0,zah (by omega) (by omega)]
       exact zaa (by omega) (by omega)
      rw[f0,f1,f2,f3]
      refine⟨by decide,by decide,by decide,by decide,by decide,by decide,⟨rfl,rfl,rfl,rfl,rfl,rfl,zzq t1 (c1.trans h2) (by omega) x0 x1⟩, ?_⟩
      (repeat' apply And.intro)<;>first|exact trivial|rfl
theorem yt4:zar Tryz.prog kEH1 := .cons (by kernel_rfl) yhi (yg9.append yg6)
theorem ysj:DictOk Tryz.prog FEH1:=zay yt4 .nil .nil
def Rn.ofH(h:Ha):Rn:=⟨h.1,h.2.1,h.2.2.1,h.2.2.2.1,h.2.2.2.2.1,h.2.2.2.2.2.1,h.2.2.2.2.2.2.1,h.2.2.2.2.2.2.2.1,h.2.2.2.2.2.2.2.2.1,h.2.2.2.2.2.2.2.2.2.1,h.2.2.2.2.2.2.2.2.2.2.1,h.2.2.2.2.2.2.2.2.2.2.2.1,(toC h.2.2.2.2.2.2.2.2.2.2.2.2).1.1,(toC h.2.2.2.2.2.2.2.2.2.2.2.2).1.2.1,(toC h.2.2.2.2.2.2.2.2.2.2.2.2).1.2.2,(toC h.2.2.2.2.2.2.2.2.2.2.2.2).2.1.1,(toC h.2.2.2.2.2.2.2.2.2.2.2.2).2.1.2.1,(toC h.2.2.2.2.2.2.2.2.2.2.2.2).2.1.2.2,(toC h.2.2.2.2.2.2.2.2.2.2.2.2).2.2.1,(toC h.2.2.2.2.2.2.2.2.2.2.2.2).2.2.2.1,(toC h.2.2.2.2.2.2.2.2.2.2.2.2).2.2.2.2,false,0,0,0,[],false,false,0,false,0⟩
theorem zqv{t:Tl}(h:TlR t)(k:Int):TlR (zcq t k)∧(zcq t k).2.2.length=t.2.2.length:=by
 obtain⟨a,b,c,d⟩:=h
 have hz:EnR zE:=⟨yd8,zj5,zj5,zj5⟩
 have hl:(zcq t k).2.2.length=t.2.2.length:=by simp[zcq]
 refine⟨⟨a,b,by rw[hl];exact c,fun e he => ?_⟩,hl⟩
 rcases List.mem_or_eq_of_mem_set he with he|rfl
 · exact d e he
 · exact hz
theorem zp1{r:Rn}{pl:Bool}{pk:Int}(h:zsu r pk):zog (r.start pl pk):=by
 obtain⟨h1,h2,_⟩:=h
 exact⟨⟨h1,h2,Nat.zero_le _⟩,rfl,by show 0+3≤2097152;omega⟩
theorem yvx(k:Cch):toC (ofC k)=k:=rfl
theorem ymw(r:Rn)(k:Int):r.evict k=r.withK (ofC (zcq (toC r.k).1 k,zcq (toC r.k).2.1 k,zcq (toC r.k).2.2 k)):=rfl
theorem ybz{r:Rn}(h:zog r)(k:Int):zog (r.evict k):=by
 obtain⟨h1,e,f⟩:=h
 have hc:ChR (toC r.k):=h1.1.2.2.2.2.2.2.2.2.2.2.2
 rw[ymw]
 refine⟨RnR.withK h1 ?_,e,f⟩
 rw[yvx]
 exact⟨(zqv hc.1 k).1,(zqv hc.2.1 k).1,(zqv hc.2.2 k).1⟩
theorem zkg{r:Rn}{pl:Bool}{pk:Int}(h:zsu r pk):zog (r.first pl pk):=by
 unfold Rn.first
 split
 · exact ybz (zp1 h) _
 · exact zp1 h
theorem yhn{r:Rn}{pl:Bool}{pk:Int}(h:zsu r pk):zvf r pl pk (zcy r pl pk):=by
 have hb:=zkg (pl:=pl) h
 obtain⟨h1,h2,k0,k1,l1,l2,l3⟩:=h
 have hsz:SzH (r.m,r.u,r.pc,r.mo,r.su,r.mx,r.sa,r.tv,r.ep,r.em,r.ca,r.tl,r.s1,r.w1,r.m1,r.s2,r.w2,r.m2,r.s3,r.w3,r.m3):=⟨h1.1.1,h1.2.1,h1.2.2.2.2.2.2.2.2.2.2.2.1.2.2.1,h1.2.2.2.2.2.2.2.2.2.2.2.2.1.2.2.1,h1.2.2.2.2.2.2.2.2.2.2.2.2.2.2.2.1⟩
 obtain⟨_,_,q1,q2,q3⟩:=id hsz
 have q1:SzR r.m1.length:=q1
 have q2:SzR r.m2.length:=q2
 have q3:SzR r.m3.length:=q3
 refine zab (zvg r pl pk (zcy r pl pk)) ?_
 conv=>zeta
 refine⟨⟨rfl,rfl,rfl,rfl,rfl,hsz⟩,fun z=>z=r.first pl pk,⟨fun g => ?_,fun g => ?_⟩, ?_⟩
 · have g':(decide (pk≥128) && !pl)=true:=by cases hd:decide (pk≥128)<;>rw[hd] at g<;>simp_all
   have hp:pk≥128:=by simp only[Bool.and_eq_true,decide_eq_true_eq] at g';exact g'.1
   have ew:IntKind.i64.wrap (pk-128)=pk-128:=zaa (by omega) (by omega)
   have e0:(0:Int)≤pk-128:=by omega
   have ef:r.first pl pk=(r.start pl pk).evict (pk-128):=by unfold Rn.first;rw[if_pos g']
   rw[ew,ef]
   refine⟨⟨rfl,q1,l1,e0⟩,⟨rfl,q2,l2,e0⟩,⟨rfl,q3,l3,e0⟩,(r.start pl pk).evict (pk-128), ?_,rfl⟩
   (repeat' apply And.intro)<;>first|exact trivial|rfl
 · have g':¬ (decide (pk≥128) && !pl)=true:=by cases hd:decide (pk≥128)<;>rw[hd] at g<;>simp_all
   have ef:r.first pl pk=r.start pl pk:=by unfold Rn.first;rw[if_neg g']
   rw[ef]
   refine⟨r.start pl pk, ?_,rfl⟩
   (repeat' apply And.intro)<;>first|exact trivial|rfl
 · rintro z rfl
   unfold zcy
   generalize r.first pl pk=z at *
   by_cases hc:(zbd z).cs=0
   · rw[if_pos hc]
     refine⟨⟨rfl,rfl,rfl,rfl,rfl,rfl,hb⟩,fun _ => ?_,fun g=>absurd hc (by simpa using g)⟩
     (repeat' apply And.intro)<;>first|exact trivial|rfl
   · rw[if_neg hc]
     refine⟨⟨rfl,rfl,rfl,rfl,rfl,rfl,hb⟩,fun g=>absurd (by simpa using g) hc,fun _=>⟨⟨rfl,rfl,rfl,rfl,rfl,hsz⟩, ?_⟩⟩
     (repeat' apply And.intro)<;>first|exact trivial|rfl
theorem yhm:Sound Tryz.prog 65 (zai [haP,bl,i64] [ruP] (fun t=>some (zsu (Rn.ofH t.1) t.2.2)) (fun t=>(zcy (Rn.ofH t.1) t.2.1 t.2.2).t)):=by
 refine zlr mixed Tryz.func65 (by kernel_rfl) (by kernel_rfl) ysj (fun t h => ?_)
 obtain⟨x,pl,pk⟩:Ha × Bool × Int:=t
 have h:zsu (Rn.ofH x) pk:=h
 exact⟨_,yhn h⟩
end Go.Proofs.YtfiddfbagbaofaaGreat.V
