/- Drawn translations (seat G). Conditions: those in each statement. -/
import Derived.Test.YtfiddfbagbaofaaGreatES
import Derived.KernelRfl
namespace Go.Proofs.YtfiddfbagbaofaaGreat.V
open Go
def FET:Dict:=mkD ((81,newS)::(yvr++kES)) [] []
def ChK(x:Cf):Prop:=TlK (x.1,x.2.1,x.2.2.1)∧TlK (x.2.2.2.1,x.2.2.2.2.1,x.2.2.2.2.2.1)∧TlK (x.2.2.2.2.2.2.1,x.2.2.2.2.2.2.2.1,x.2.2.2.2.2.2.2.2)
def rET1:List (FuncId × RelS):=(118,stale1)::(116,zwv)::(117,near1)::rES1
abbrev Tq:=By × Ct × Cf × Int × Int × Int
abbrev tqP:List Pm:=[byP,zds,chP,i64,u64,i64]
def TqK(z:Tq):Prop:=zan z.1∧U64 z.2.1.2.2.2∧ChK z.2.2.1∧U64 z.2.2.2.2.1
def dtrR:RelS:=ygk [byP] tqP (([],(0,false,false,0),zCf,0,0,0):Tq) (fun m:By=>zan m) (fun _ (z:Tq)=>TqK z)
def yuw(l:List (Nat × Av)):List Av:=slots 96 ([(3,.ptr 1 0),(4,.ptr 2 0),(8,.ptr 3 0),(9,.ptr 4 0),(10,.ptr 10 0)]++l)
def dtH(m:By)(r:Rn)(c:Ct)(ci ch:Int)(l:Heap):Heap:=[.arr [.i .u8] m false,.fix (ctA (0,false,false,0)) true (some 65),.fix zCfA true (some 39),.fix [.sl 0 1 0 m.length,.v (.int .i64 ci),.v (.int .i64 ch)] true (some 244),.fix (haA r 5) true (some 41)]++haH r++[.fix (ctA c) true (some 65)]++l
def dtK(k:Cf):Heap := .fix (cfA k 12) true (some 39)::cfH k
def dtFin(m:By)(r:Nat):Option CutW :=
 if r=4 then some { β:=Rn × Ct × Bool × Int × Int,sl:=fun z=>yuw [(30,.v (.bool z.2.2.1))],H:=fun z=>dtH m z.1 z.2.1 z.2.2.2.1 z.2.2.2.2 [] }
 else if r=23 then some { β:=Tq,sl:=fun z=>slots 96 [(2,.sl 3 1 0 z.1.length),(3,.ptr 1 0),(4,.ptr 2 0),(5,.v (.int .i64 z.2.2.2.1)),(6,.v (.int .u64 z.2.2.2.2.1)),(7,.v (.int .i64 z.2.2.2.2.2))],H:=fun z=>[.arr [.i .u8] m false,.fix (ctA z.2.1) true (some 65),.fix (cfA z.2.2.1 4) true (some 39),.arr [.i .u8] z.1 true]++cfH z.2.2.1 }
 else none
def yuv(m:By)(r:Nat):Option CutW :=
 if r=5 then some { β:=Rn × Ct × Int × Int,sl:=fun _=>yuw [],H:=fun z=>dtH m z.1 z.2.1 z.2.2.1 z.2.2.2 [] }
 else if r=9 then some { β:=Rn × Ct × Cf × Int × Int,sl:=fun _=>yuw [(11,.ptr 11 0)],H:=fun z=>dtH m z.1 z.2.1 z.2.2.2.1 z.2.2.2.2 (dtK z.2.2.1) }
 else if r=13 then some { β:=Rn × Ct × Cf × Int × Int × Int × Int,sl:=fun z=>yuw [(11,.ptr 11 0),(12,.v (.int .i64 z.2.2.2.1)),(13,.v (.int .u64 z.2.2.2.2.1))],H:=fun z=>dtH m z.1 z.2.1 z.2.2.2.2.2.1 z.2.2.2.2.2.2 (dtK z.2.2.1) }
 else if r=21 then some { β:=Rn × Ct × Cf × Int × Int × Int × Int × Int,sl:=fun z=>yuw [(11,.ptr 11 0),(12,.v (.int .i64 z.2.2.2.1)),(13,.v (.int .u64 z.2.2.2.2.1)),(15,.v (.int .i64 z.2.2.2.2.2.1))],H:=fun z=>dtH m z.1 z.2.1 z.2.2.2.2.2.2.1 z.2.2.2.2.2.2.2 (dtK z.2.2.1) }
 else none
def dtX(m:By):SpecW:={ plan:=fun _=>some (fun _ => .std),cond:=yuv m,fin:=dtFin m }
def yh0(m:By):Prop:=vcP Tryz.prog FET (Rels.of rET1) (dtX m) Tryz.f37 [byP] tqP m TqK
set_option linter.unusedVariables false
set_option maxRecDepth 10000
theorem ztn(m:By):yh0 m=(
 let A0(a:Rn × Ct × Cf × Int × Int × Int × Int × Int):=a.snd.snd.fst;
 let A1(a:By × Ct × Cf × Int × Int × Int):=a.snd.snd.fst;
 let A2(a:Cf):=a.snd.snd.snd.snd.snd;
 let A3(a:Es)(b:Nat):=List.length a=b;
 let A4(a b c:Prop):=a∧b∧c;
 let A5(a b c d e:Prop):=A4 a b (A4 c d e);
 let A6(a b:Es):=A3 a (List.length b);
 let A7:=(0:Nat)=0;
 let A8(a:By)(b:Nat):=List.length a=b;
 let A9(a:Rn × Ct × Cf × Int × Int × Int × Int × Int):=a.snd.fst;
 let Aa(a:Cf):=(A2 a).snd.snd.snd;
 let Ab(a:Cf):=(A2 a).fst;
 let Ac(a:Cf):=a.snd.snd.fst;
 let Ad(a b c d e f g h i:Prop):=A5 a b c d (A5 e f g h i);
 let Ae(a b:By):=A8 a (List.length b);
 let Af(a:By × Ct × Cf × Int × Int × Int):=a.snd.fst;
 let Ah(a b c d e f g h i j k l m n o p q:Prop):=Ad a b c d e f g h (Ad i j k l m n o p q);
 let Ai(a:Ct):=a.snd.snd.snd;
 let Aj(a:Ct):=a.snd.fst;
 let Ak(a:Cf):=(A2 a).snd.snd.fst;
 let Al(a:Cf):=(A2 a).snd.fst;
 let Am(a:Cf):=a.snd.snd.snd.snd.fst;
 let An(a:Cf):=a.snd.fst;
 let Ao(a:Rn × Ct × Cf × Int × Int × Int × Int × Int):=Ac (A0 a);
 let Ap(a:By × Ct × Cf × Int × Int × Int):=Ab (A1 a);
 let Aq(a:Int × Int):=zbe m a.fst;
 let Ar(a:Ct):=a.snd.snd.fst;
 let Au(a:Cf):=a.snd.snd.snd.fst;
 let Aw(a:Rn × Ct × Cf × Int × Int × Int × Int × Int):=Ab (A0 a);
 let Ax(a:By × Ct × Cf × Int × Int × Int):=Ac (A1 a);
 let Ay(a:Rn × Ct × Cf × Int × Int × Int × Int × Int):=Aa (A0 a);
 let Az:=Int.ofNat 0;
 let AB(a:By × Ct × Cf × Int × Int × Int):=Aa (A1 a);
 let AC(a:By × Ct × Cf × Int × Int × Int)(b:PmT [byP] × Int × Int)(c d e:Prop)(f:Rn × Ct × Cf × Int × Int × Int × Int × Int):=Ad (A8 a.fst (List.length b.fst)) c d e (m=m) ((Af a).fst=(A9 f).fst) (Aj (Af a)=Aj (A9 f)) (Ar
  (Af a)=Ar (A9 f)) (Ah (Ai (Af a)=Ai (A9 f)) ((A1 a).fst=(A0 f).fst) (An (A1 a)=An (A0 f)) A7 (A6 (Ax a) (Ao f)) (Au (A1 a)=Au (A0 f)) (Am (A1 a)=Am (A0 f)) A7 (A6 (Ap a) (Aw f)) (Al (A1 a)=Al (A0 f)) (Ak (A1 a)=Ak (A0 f)) A7
  (A6 (AB a) (Ay f)) (a.fst=b.fst) (Ax a=Ao f) (Ap a=Aw f) (AB a=Ay f));
 let AD(a:Rn × Ct × Cf × Int × Int × Int × Int × Int):=a.snd.snd.snd.snd.snd;
 let AE(a:Rn × Ct × Cf × Int × Int):=a.snd.snd.fst;
 let AF:=zj1 Fz.none Fz.none;
 let AG(a:Int):=a=0;
 let AH(a:Rn × Ct × Cf × Int × Int × Int × Int × Int):=a.fst.1;
 let AI(a:PmT [haP] × Int × Int):=a.fst.snd;
 let AJ(a b c d e f g h i j k l m n o p q r s t u v w x y z B C D E F G H:Prop):=Ah a b c d e f g h i j k l m n o p (Ah q r s t u v w x y z B C D E F G H);
 let AK(a:By × Ct × Cf × Int × Int × Int):=a.snd.snd.snd.snd.snd;
 let AL:=AG 0;
 let AM(a:Rn × Ct × Cf × Int × Int × Int × Int × Int):=a.snd.snd.snd.snd.fst;
 let AN(a:Rn × Ct × Cf × Int × Int × Int × Int):=a.snd.snd.fst;
 let AO(a:By × Ct × Cf × Int × Int × Int):=a.snd.snd.snd.snd.fst;
 let AP(a:PmT [haP] × Int × Int):=(AI a).snd;
 let AQ:=Value.slice none 0 0;
 let AR(a b c d:Prop):=A4 (a∧b) c d;
 let AS(a:Rn):=List.length a.2;
 let AT(a:PmT [haP] × Int × Int):=(AP a).snd.snd;
 let AU(a b c:Prop):=AR a b AF c;
 let AV(a:PmT [haP] × Int × Int):=(AT a).snd.snd.snd.snd;
 let AW(a:CsT [Cs.i IntKind.i64,Cs.sl shE,Cs.i IntKind.i64,Cs.i IntKind.i64,Cs.sl shE,Cs.i IntKind.i64,Cs.i IntKind.i64,Cs.sl shE]):=a.snd.snd.snd.snd;
 let AX(a:PmT [haP] × Int × Int):=(AV a).snd.snd.snd.snd;
 let AY(a:PmT [haP] × Int × Int):=(AX a).snd;
 let AZ(a:By × Ct × Cf × Int × Int × Int)(b:Rn × Ct × Cf × Int × Int × Int × Int × Int):=AK a=(AD b).fst;
 let B0(a:By × Ct × Cf × Int × Int × Int)(b:Rn × Ct × Cf × Int × Int × Int × Int × Int):=AO a=AM b;
 let B1(a:By × Ct × Cf × Int × Int × Int)(b:Rn × Ct × Cf × Int × Int × Int × Int × Int):=a.snd.snd.snd.fst=b.snd.snd.snd.fst;
 let B2(a:Rn × Ct × Cf × Int × Int × Int × Int):=a.snd.fst;
 let B3(a:Rn × Ct × Cf × Int × Int):=a.snd.fst;
 let B4(a:PmT [chP] × Int × Int):=a.fst.snd;
 let B5(a:Int):=a≤100000;
 let B6(a:Rn × Ct × Cf × Int × Int × Int × Int):=a.snd.snd.snd;
 let B7(a:Prop)(b:By × Ct × Cf × Int × Int × Int→Prop)(c:By × Ct × Cf × Int × Int × Int):=AU A7 a (b c);
 let B8(a:Int × Int)(b c:Prop):=A4 (Aq a) b c;
 let B9(a:Bool):=a=false;
 let Ba(a:Rn × Ct × Cf × Int × Int):=Ac (AE a);
 let Bb(a:CsT [Cs.i IntKind.i64,Cs.sl shE,Cs.i IntKind.i64,Cs.i IntKind.i64,Cs.sl shE,Cs.i IntKind.i64,Cs.i IntKind.i64,Cs.sl shE]):=(AW a).snd.snd;
 let Bc(a:Rn × Ct × Cf × Int × Int):=Aa (AE a);
 let Bd(a b:Rn)(c d e f g h i j:Prop)(k l:Ct)(m n o p:Prop)(q r:Cf)(s t:Es)(u:Prop)(v w:Es)(x y z:Prop):=AJ (A6 a.15 b.15) (a.16=b.16) c A7 (A6 a.18 b.18) d e A7 (A6 a.21 b.21) f g h i j (k.fst=l.fst) m n o
  p (An q=An r) A7 (A6 s t) u (Am q=Am r) A7 (A6 v (Ab r)) (Al q=Al r) (Ak q=Ak r) A7 (A6 w (Aa r)) x y z;
 let Be(a:CsT [Cs.i IntKind.i64,Cs.sl shE]):=List.length a.snd;
 let Bf:=B9 false;
 let Bg(a:Rn × Ct × Int × Int):=a.snd.fst;
 let Bh(a b:Int × Int)(c:Prop)(d e:Rn)(f:Prop):=AJ (B9 false) (Az=Az) AL AL (AQ=AQ) AL AL (AQ=AQ) AL AL (AQ=AQ) A7 (Ae m m) (a.fst=b.fst) (a.snd=b.snd) A7 c A7 (AS d=AS e) (d.3=e.3) (d.4=e.4) (d.5=e.5)
  (d.6=e.6) (d.7=e.7) (d.8=e.8) (d.9=e.9) (d.10=e.10) (d.11=e.11) (d.12=e.12) (d.13=e.13) (d.14=e.14) A7 f;
 let Bi(a:Int):=(1:Int)≤a;
 let Bj(a:CsT [Cs.sl shE,Cs.i IntKind.i64,Cs.i IntKind.i64,Cs.sl shE,Cs.i IntKind.i64,Cs.i IntKind.i64,Cs.sl shE]):=List.length a.fst;
 let Bk(a:Rn × Ct × Cf × Int × Int × Int × Int):=Ac (AN a);
 let Bl(a:Rn × Ct × Bool × Int × Int):=a.snd.fst;
 let Bm(a:Rn × Ct × Cf × Int × Int):=Ab (AE a);
 let Bn(a:PmT [byP] × Int × Int)(b:Prop):=Aq a.snd∧zan a.fst→b;
 let Bo(a:PmT [zds] × Int × Int):=a.fst.snd;
 let Bp(a:CsT [Cs.i IntKind.i64,Cs.sl shE,Cs.i IntKind.i64,Cs.i IntKind.i64,Cs.sl shE,Cs.i IntKind.i64,Cs.i IntKind.i64,Cs.sl shE]):=List.length (AW a).fst;
 let Bq(a:Rn × Ct × Cf × Int × Int × Int × Int × Int):=Ae (AH a) (AH a)∧A5 (Ae m m) (Aq (AD a).snd) (zan (AH a)) (U64 (Ai (A9 a))) (U64 (AM a));
 let Br (a:PmT [Pm.one (Cs.sl [Ty.i IntKind.u8]),Pm.st [Cs.i IntKind.i64,Cs.b,Cs.b,Cs.i IntKind.u64],Pm.st [Cs.i IntKind.i64,Cs.i IntKind.i64,Cs.sl shE,Cs.i IntKind.i64,Cs.i IntKind.i64,Cs.sl shE,Cs.i IntKind.i64,Cs.i
  IntKind.i64,Cs.sl shE],Pm.one (Cs.i IntKind.i64),Pm.one (Cs.i IntKind.u64),Pm.one (Cs.i IntKind.i64)]):=a.snd.snd.fst.snd;
 let Bs(a:Rn × Ct × Cf × Int × Int × Int × Int)(b:Rn × Ct × Cf × Int × Int)(c d e f g h i j k l m n o p q r:Prop):=Bd a.fst b.fst c d e f g h i j (B2 a) (B3 b) k l m n (AN a) (AE b) (Bk a) (Ba b) o (Ab (AN a)) (Aa (AN
  a)) p q r;
 let Bt(a:Rn × Ct × Cf × Int × Int):=a.fst.1;
 let Bu(a:Rn × Ct × Cf × Int × Int):=a.fst.21;
 let Bv(a:PmT [haP] × Int × Int):=Bb (AY a);
 let Bw(a:Rn × Ct × Cf × Int × Int):=a.fst.18;
 let Bx(a:Rn × Ct × Cf × Int × Int):=a.fst.15;
 let Bz(a:Rn × Ct × Cf × Int × Int × Int × Int):=a.fst.1;
 let BA(a:Rn × Ct × Cf × Int × Int × Int × Int × Int)(b:Rn × Ct × Cf × Int × Int × Int × Int)(c d e f g h i j k l m n o p q r:Prop):=Bd a.fst b.fst c d e f g h i j (A9 a) (B2 b) k l m n (A0 a) (AN b) (Ao a) (Bk b) o (Aw a)
  (Ay a) p q r;
 let BB(a:Rn × Ct × Cf × Int × Int × Int × Int)(b:PmT [i64] × Int × Int)(c:PmT [u64] × Int × Int)(d:Int × Int)(e:Rn × Ct × Cf × Int × Int)(f:Prop)(g:Rn × Ct × Cf × Int × Int × Int × Int→Prop):=AU ((B6 a).fst =
  b.fst) (A5 ((B6 a).snd.fst=c.fst) (m=m) (Az=Az) Bf (Bh (B6 a).snd.snd d (Ae (Bz a) (Bt e)) a.fst e.fst f)) (g a);
 let BC(a:Rn × Ct × Cf × Int × Int × Int × Int × Int)(b:Int)(c:Rn × Ct × Cf × Int × Int × Int × Int)(d:Prop)(e:Int × Int)(f:Prop)(g:Rn × Ct × Cf × Int × Int × Int × Int × Int→Prop):=A4 (A4 (a.snd.snd.snd.fst=b)
  (AM a=(B6 c).snd.fst) (A5 d (m=m) (Az=Az) Bf (Bh (AD a).snd e (Ae (AH a) (Bz c)) a.fst c.fst f))) AF (g a);
 let BD(a:Rn × Ct × Cf × Int × Int)(b:Rn × Ct × Int × Int)(c d e f g h i j k l m n o:Prop)(p:PmT [chP] × Int × Int)(q r:Prop)(s:Nat)(t:Prop):=AJ (A6 (Bx a) b.fst.15) (a.fst.16=b.fst.16) c A7 (A6 (Bw a)
  b.fst.18) d e A7 (A6 (Bu a) b.fst.21) f g h i j ((B3 a).fst=(Bg b).fst) k l m n o A7 (A3 (Ba a) (Bj (B4 p).snd)) q r A7 (A3 (Bm a) s) (Al (AE a)=(AW (B4 p)).snd.fst) (Ak (AE a)=(Bb (B4 p)).fst) A7 (A3 (Bc a)
  (Be (Bb (B4 p)))) (Ba a=(B4 p).snd.fst) t (Bc a=(Bb (B4 p)).snd);
 let BE(a:Nat):=a≤1000;
 let BF(a:Rn × Ct × Cf × Int × Int × Int × Int × Int)(b c:Prop):=AR (Bq a) b (Bq a) c;
 let BG(a:Prop)(b:By)(c d:Prop):=a→(Ae b b∧c)∧d;
 let BH(a:Rn × Ct × Cf × Int × Int × Int × Int × Int)(b c:Prop):=A4 (BF a b c) (Bq a) c;
 let BI(a:Rn × Ct × Cf × Int × Int)(b:Int × Int)(c:Rn × Ct × Int × Int)(d:Prop)(e:Rn × Ct × Cf × Int × Int→Prop):=AU (m=m) (A4 (Az=Az) Bf (Bh a.snd.snd.snd b (Ae (Bt a) c.fst.1) a.fst c.fst d)) (e a);
 let BJ(a:Rn × Ct × Bool × Int × Int):=a.snd.snd.snd;
 let BK(a b c d e f g h i j k l m:Prop)(n:Rn × Ct × Bool × Int × Int)(o:PmT [haP] × Int × Int)(p q r s t:Prop)(u:PmT [zds] × Int × Int):=AJ A7 a b c d e f g h i j k l m A7 (A3 n.fst.15 (Bj (AY o).snd)) p q A7 (A3
  n.fst.18 (Bp (AY o))) r s A7 (A3 n.fst.21 (Be (Bv o))) t (n.fst.2=(AI o).fst) (n.fst.15=(AY o).snd.fst) (n.fst.18=(AW (AY o)).fst) (n.fst.21=(Bv o).snd) ((Bl n).fst=u.fst.fst) (Aj (Bl n)=(Bo u).fst) (Ar (Bl n) =
  (Bo u).snd.fst) (Ai (Bl n)=(Bo u).snd.snd);
 let BL(a b c d e f g h i j k l m:Prop)(n:Rn × Ct × Int × Int)(o:Rn × Ct × Bool × Int × Int)(p q r s t:Prop)(u:Int):=AJ A7 a b c d e f g h i j k l m A7 (A6 n.fst.15 o.fst.15) p q A7 (A6 n.fst.18 o.fst.18) r s A7 (A6
  n.fst.21 o.fst.21) (n.fst.1=o.fst.1) (n.fst.2=o.fst.2) (n.fst.15=o.fst.15) (n.fst.18=o.fst.18) (n.fst.21=o.fst.21) t (Aj (Bg n)=Aj (Bl o)) (Ar (Bg n)=Ar (Bl o)) (Ai (Bg n)=u);
 let BM(a:Nat):=(1:Nat)≤a;
 let BN(a:PmT [chP] × Int × Int):=Bp (B4 a);
 let BO(a:PmT [haP] × Int × Int):=(AV a).snd.snd;
 let BP(a:PmT [haP] × Int × Int):=(AT a).snd.snd;
 let BQ(a:CsT [Cs.i IntKind.i64,Cs.sl shE,Cs.i IntKind.i64,Cs.i IntKind.i64,Cs.sl shE,Cs.i IntKind.i64,Cs.i IntKind.i64,Cs.sl shE]):=a.snd.snd.snd.fst;
 let BR(a:CsT [Cs.i IntKind.i64,Cs.sl shE,Cs.i IntKind.i64,Cs.i IntKind.i64,Cs.sl shE,Cs.i IntKind.i64,Cs.i IntKind.i64,Cs.sl shE]):=a.snd.snd.fst;
 let BS(a:Int × Int)(b c:Prop):=Aq a∧b→c;
 let BT(a:PmT [byP] × Int × Int)(b:Prop):=Bn a (A4 b b b);
 let BU(a:PmT [i64] × Int × Int)(b:Int):=B8 a.snd ((0:Int)≤a.fst) (a.fst<b);
 let BV(a:Prop)(b:Int × Int)(c:Prop)(d:Int)(e:Prop):=BG a m (B8 b c (B5 d)) e;
 let BW(a:PmT [byP] × Int × Int)(b c:Prop):=Bn a (b∧c);
 let BX(a:Nat)(b:Es):=a=List.length b;
 let BY(a:PmT [bl] × Int × Int)(b:Bool)(c:Prop):=a.fst=b→c;
 let BZ(a:Rn × Ct × Int × Int):=a.fst.21;
 let C0(a:PmT [haP] × Int × Int):=List.length (AI a).fst;
 let C1(a b:Int)(c:Es):=(a,b,c);
 let C2(a:Rn × Ct × Int × Int):=a.fst.18;
 let C3(a:PmT [bl] × Int × Int)(b:(Cs.i IntKind.i64).T × CsT [Cs.i IntKind.i64,Cs.sl shE])(c d:Prop):=A5 (Ae m m) (Aq a.snd) (TlR b) c d;
 let C4(a b c:Prop):=(a∧b)∧c;
 let C5(a:Prop)(b:PmT [i64] × Int × Int)(c d e:Prop):=BG a m (B8 b.snd c d) e;
 let C6(a:Rn × Ct × Int × Int):=a.fst.15;
 let C7(a:PmT [haP] × Int × Int):=List.length a.fst.fst;
 let C8(a:Rn × Ct × Int × Int):=a.fst.1;
 let C9(a:Rn × Ct × Cf × Int × Int × Int × Int)(b:Rn × Ct × Cf × Int × Int):=a.fst.15=Bx b;
 let Ca(a:PmT [bl] × Int × Int)(b:Rn × Ct × Cf × Int × Int)(c:Prop)(d:Es)(e f:Int):=BS a.snd True (BY a true (C4 (A6 (Bc b) (Bc b)) (C3 a (C1 (Al (AE b)) (Ak (AE b)) (Bc b)) (BM (List.length (Bc b)))
  (BE (List.length (Bc b)))) c)∧BY a false (C4 (A6 d d) (C3 a (C1 e f d) (BM (List.length d)) (BE (List.length d))) c));
 let Cb(a:PmT [u64] × Int × Int)(b:Prop):=BS a.snd (U64 a.fst) b;
 let Cc(a:Rn × Ct × Cf × Int × Int × Int × Int)(b:Rn × Ct × Cf × Int × Int):=a.fst.17=b.fst.17;
 let Cd(a:Rn × Ct × Cf × Int × Int × Int × Int)(b:Rn × Ct × Cf × Int × Int):=a.fst.2=b.fst.2;
 let Ce(a:Rn × Ct × Cf × Int × Int × Int × Int)(b:Rn × Ct × Cf × Int × Int):=a.fst.18=Bw b;
 let Cg(a:Rn × Ct × Cf × Int × Int × Int × Int)(b:Rn × Ct × Cf × Int × Int):=Aj (B2 a)=Aj (B3 b);
 let Ch(a:Rn × Ct × Cf × Int × Int × Int × Int)(b:Rn × Ct × Cf × Int × Int):=Bz a=Bt b;
 let Ci(a:Rn × Ct × Cf × Int × Int × Int × Int)(b:Rn × Ct × Cf × Int × Int):=a.fst.19=b.fst.19;
 let Cj(a:Rn × Ct × Cf × Int × Int × Int × Int)(b:Rn × Ct × Cf × Int × Int):=a.fst.21=Bu b;
 let Ck(a:Rn × Ct × Cf × Int × Int × Int × Int)(b:Rn × Ct × Cf × Int × Int):=Ar (B2 a)=Ar (B3 b);
 let Cl(a:Rn × Ct × Cf × Int × Int × Int × Int)(b:Rn × Ct × Cf × Int × Int):=Ai (B2 a)=Ai (B3 b);
 let Cm(a:Rn × Ct × Cf × Int × Int × Int × Int)(b:Rn × Ct × Cf × Int × Int):=Ab (AN a)=Bm b;
 let Cn(a:Rn × Ct × Cf × Int × Int × Int × Int)(b:Rn × Ct × Cf × Int × Int):=a.fst.20=b.fst.20;
 let Co(a:Rn × Ct × Cf × Int × Int × Int × Int)(b:Rn × Ct × Cf × Int × Int):=Aa (AN a)=Bc b;
 let Cp(a:Rn × Ct × Cf × Int × Int × Int × Int)(b:Rn × Ct × Cf × Int × Int):=(AN a).fst=(AE b).fst;
 let Cq(a:Rn × Ct × Cf × Int × Int × Int × Int)(b:Rn × Ct × Cf × Int × Int):=Bk a=Ba b;
 let Cr(a:Int)(b:PmT [i64] × Int × Int):=IntKind.i64.wrap (a+b.fst);
 let Cu(a:PmT [i64] × Int × Int):=decide (a.fst>0);
 let Cv(a:Rn × Ct × Cf × Int × Int × Int × Int)(b:Rn × Ct × Cf × Int × Int):=Au (AN a)=Au (AE b);
 let Cw(a:Rn)(b:Es)(c:Int)(d:Es)(e f:Int)(g:Es):=(a.13,a.14,b,a.16,c,d,C1 e f g);
 let Cx(a:Rn × Ct × Bool × Int × Int)(b:PmT [haP] × Int × Int):=a.fst.17=BQ (AY b);
 let Cy(a:Rn × Ct × Bool × Int × Int)(b:PmT [haP] × Int × Int):=a.fst.16=BR (AY b);
 let Cz(a:Rn × Ct × Bool × Int × Int)(b:PmT [haP] × Int × Int):=a.fst.19=(AW (AY b)).snd.fst;
 let CA(a:Rn × Ct × Cf × Int × Int)(b:PmT [chP] × Int × Int):=An (AE a)=(B4 b).fst;
 let CB(a:Rn × Ct × Cf × Int × Int)(b:PmT [chP] × Int × Int):=(AE a).fst=b.fst.fst;
 let CC(a:Rn × Ct × Bool × Int × Int)(b:PmT [haP] × Int × Int):=a.fst.6=(AT b).snd.fst;
 let CD(a:Rn × Ct × Bool × Int × Int)(b:PmT [haP] × Int × Int):=a.fst.12=(BO b).snd.fst;
 let CE(a:Rn × Ct × Bool × Int × Int)(b:PmT [haP] × Int × Int):=a.fst.14=(AY b).fst;
 let CF(a:Rn × Ct × Bool × Int × Int)(b:PmT [haP] × Int × Int):=a.fst.13=(AX b).fst;
 let CG(a:Rn × Ct × Bool × Int × Int)(b:PmT [haP] × Int × Int):=a.fst.8=(BP b).snd.fst;
 let CH(a:Rn × Ct × Bool × Int × Int)(b:PmT [haP] × Int × Int):=a.fst.11=(BO b).fst;
 let CI(a:Rn × Ct × Bool × Int × Int)(b:PmT [haP] × Int × Int):=a.fst.10=(AV b).snd.fst;
 let CJ(a:Rn × Ct × Bool × Int × Int)(b:PmT [haP] × Int × Int):=a.fst.4=(AP b).snd.fst;
 let CK(a:Rn × Ct × Bool × Int × Int)(b:PmT [haP] × Int × Int):=a.fst.20=(Bv b).fst;
 let CL(a:Rn × Ct × Cf × Int × Int)(b:Rn × Ct × Int × Int):=Aj (B3 a)=Aj (Bg b);
 let CM(a:Rn × Ct × Cf × Int × Int)(b:Rn × Ct × Int × Int):=Ai (B3 a)=Ai (Bg b);
 let CN(a:Rn × Ct × Int × Int)(b:Rn × Ct × Bool × Int × Int):=AS a.fst=AS b.fst;
 let CO(a:Rn × Ct × Cf × Int × Int)(b:Rn × Ct × Int × Int):=Ar (B3 a)=Ar (Bg b);
 let CP(a:Rn × Ct × Cf × Int × Int × Int × Int × Int)(b:Rn × Ct × Cf × Int × Int × Int × Int):=Ar (A9 a)=Ar (B2 b);
 let CQ(a:Rn × Ct × Cf × Int × Int × Int × Int × Int)(b:Rn × Ct × Cf × Int × Int × Int × Int):=Aj (A9 a)=Aj (B2 b);
 let CR(a:Rn × Ct × Cf × Int × Int × Int × Int × Int)(b:Rn × Ct × Cf × Int × Int × Int × Int):=(A0 a).fst=(AN b).fst;
 let CS(a:Rn × Ct × Cf × Int × Int × Int × Int × Int)(b:Rn × Ct × Cf × Int × Int × Int × Int):=Ai (A9 a)=Ai (B2 b);
 let CT(a:Rn × Ct × Cf × Int × Int × Int × Int × Int)(b:Rn × Ct × Cf × Int × Int × Int × Int):=Au (A0 a)=Au (AN b);
 let CU(a:PmT [zds] × Int × Int) := !onM (a.fst.fst,(Bo a).fst,(Bo a).snd.fst,(Bo a).snd.snd);
 let CV(a:Prop)(b:Rn × Ct × Bool × Int × Int)(c:Int × Int)(d:PmT [haP] × Int × Int)(e:Prop)(f:Rn × Ct × Bool × Int × Int→Prop):=AU a (A5 (m=m) (AG Az) Bf Bf (Ah (AG Az) AL AL (AQ=AQ) AL AL (AQ=AQ) AL AL (AQ
  = AQ) A7 (Ae m m) ((BJ b).fst=c.fst) ((BJ b).snd=c.snd) A7 (A8 b.fst.1 (List.length d.fst.fst)) e)) (f b);
 let CW(a:Rn × Ct × Int × Int)(b:Int × Int)(c:Rn × Ct × Bool × Int × Int)(d:Prop)(e:Rn × Ct × Int × Int→Prop):=A4 (A5 (m=m) (Az=Az) Bf Bf (Ah (Az=Az) AL AL (AQ=AQ) AL AL (AQ=AQ) AL AL (AQ=AQ) A7 (Ae m m)
  (a.snd.snd.fst=b.fst) (a.snd.snd.snd=b.snd) A7 (Ae a.fst.1 c.fst.1) d)) AF (e a);
 let CX(a:Prop)(b:PmT [i64] × Int × Int)(c:Prop):=C5 a b (Bi 4) (B5 4) c;
 let CY(a:Prop)(b:Int × Int)(c:Prop):=BV a b (Bi 4) 4 c;
 let CZ(a c:Prop)(d:Int × Int) (e:(Cs.sl [Ty.i IntKind.u8]).T × CsT [Cs.sl [Ty.i IntKind.u64],Cs.i IntKind.u64,Cs.i IntKind.i64,Cs.b,Cs.b,Cs.i IntKind.u64,Cs.i IntKind.u64,Cs.i IntKind.u64,Cs.i IntKind.i64,Cs.i
  IntKind.i64,Cs.i IntKind.u64,Cs.i IntKind.i64,Cs.i IntKind.i64,Cs.sl shE,Cs.i IntKind.i64,Cs.i IntKind.i64,Cs.sl shE,Cs.i IntKind.i64,Cs.i IntKind.i64,Cs.sl shE]):=A5 a c (Ae m m) (Aq d) (HaV e);
 let D0(a:Prop)(b:Int × Int)(c:Int)(d:Prop):=BV a b (Bi c) c d;
 AR (Ae m m) (zan m) (A4 (Ae m m) (zbe m 0) True) (∀(x0:PmT [haP] × Int × Int),BS x0.snd (HaV x0.fst) (C4 (C7 x0=C7 x0) (A4 (C0 x0=C0 x0) (Bj (AY x0).snd=Bj (AY x0).snd) (CZ (Bp (AY x0) =
  Bp (AY x0)) (Be (Bv x0)=Be (Bv x0)) x0.snd (x0.fst.fst,(AI x0).fst,(AP x0).fst,(AP x0).snd.fst,(AT x0).fst,(AT x0).snd.fst,(BP x0).fst,(BP x0).snd.fst,(AV x0).fst,(AV x0).snd.fst,(BO x0).fst,(BO
  x0).snd.fst,(AX x0).fst,(AY x0).fst,(AY x0).snd.fst,BR (AY x0),BQ (AY x0),(AW (AY x0)).fst,(AW (AY x0)).snd.fst,(Bv x0).fst,(Bv x0).snd))) (∀(x1:PmT [zds] × Int × Int),B8 x1.snd ((-1) ≤
  x1.fst.fst∧x1.fst.fst≤4) (U64 x1.fst.snd.snd.snd)→∃(x2:Rn × Ct × Bool × Int × Int→Prop),A4 (U64 (Bo x1).snd.snd) (CY (CU x1=true) x1.snd (∀(x3:PmT [i64] × Int × Int),BU x3 4→∃(x4:Rn ×
  Ct × Bool × Int × Int),CV (x4.snd.snd.fst=Cu x3) x4 x3.snd x0 (BK (AS x4.fst=C0 x0) (x4.fst.3=(AP x0).fst) (CJ x4 x0) (x4.fst.5=(AT x0).fst) (CC x4 x0) (x4.fst.7=(BP x0).fst) (CG x4 x0)
  (x4.fst.9=(AV x0).fst) (CI x4 x0) (CH x4 x0) (CD x4 x0) (CF x4 x0) (CE x4 x0) x4 x0 (Cy x4 x0) (Cx x4 x0) (Cz x4 x0) (CK x4 x0) (x4.fst.1=x0.fst.fst) x1) x2)) (B9 (CU x1)→∃(x5:Rn ×
  Ct × Bool × Int × Int),CV (B9 x5.snd.snd.fst) x5 x1.snd x0 (BK (AS x5.fst=C0 x0) (x5.fst.3=(AP x0).fst) (CJ x5 x0) (x5.fst.5=(AT x0).fst) (CC x5 x0) (x5.fst.7=(BP x0).fst) (CG x5 x0) (x5.fst.9 =
  (AV x0).fst) (CI x5 x0) (CH x5 x0) (CD x5 x0) (CF x5 x0) (CE x5 x0) x5 x0 (Cy x5 x0) (Cx x5 x0) (Cz x5 x0) (CK x5 x0) (x5.fst.1=x0.fst.fst) x1) x2)∧∀(x6:Rn × Ct × Bool × Int × Int),x2 x6
  → ∃(x7:Rn × Ct × Int × Int→Prop),C4 (BV (x6.snd.snd.fst=true) (BJ x6) (Bi 2) 2 (∀(x8:PmT [i64] × Int × Int),C5 (BU x8 2) x8 (Bi 2) (B5 2) (∀(x9:PmT [i64] × Int ×
  Int),BU x9 2→∃(x10:Rn × Ct × Int × Int),CW x10 x9.snd x6 (BL (CN x10 x6) (x10.fst.3=x6.fst.3) (x10.fst.4=x6.fst.4) (x10.fst.5=x6.fst.5) (x10.fst.6=x6.fst.6) (x10.fst.7=x6.fst.7) (x10.fst.8
  = x6.fst.8) (x10.fst.9=x6.fst.9) (x10.fst.10=x6.fst.10) (x10.fst.11=x6.fst.11) (x10.fst.12=x6.fst.12) (x10.fst.13=x6.fst.13) (x10.fst.14=x6.fst.14) x10 x6 (x10.fst.16=x6.fst.16) (x10.fst.17=x6.fst.17)
  (x10.fst.19=x6.fst.19) (x10.fst.20=x6.fst.20) ((Bg x10).fst=x8.fst) (zng (Cr 1 x9) 1)) x7))) (B9 x6.snd.snd.fst→∃(x11:Rn × Ct × Int × Int),CW x11 (BJ x6) x6 (BL (CN x11 x6)
  (x11.fst.3=x6.fst.3) (x11.fst.4=x6.fst.4) (x11.fst.5=x6.fst.5) (x11.fst.6=x6.fst.6) (x11.fst.7=x6.fst.7) (x11.fst.8=x6.fst.8) (x11.fst.9=x6.fst.9) (x11.fst.10=x6.fst.10) (x11.fst.11=x6.fst.11)
  (x11.fst.12=x6.fst.12) (x11.fst.13=x6.fst.13) (x11.fst.14=x6.fst.14) x11 x6 (x11.fst.16=x6.fst.16) (x11.fst.17=x6.fst.17) (x11.fst.19=x6.fst.19) (x11.fst.20=x6.fst.20) ((Bg x11).fst=(Bl x6).fst) (Ai
  (Bl x6))) x7) (∀(x12:Rn × Ct × Int × Int),x7 x12→Ad (Ae (C8 x12) (C8 x12)) (A6 (C6 x12) (C6 x12)) (A6 (C2 x12) (C2 x12)) (A6 (BZ x12) (BZ x12)) (Ae m m) (Aq x12.snd.snd) (zan (C8 x12)) (U64 (Ai
  (Bg x12))) (ChV (Cw x12.fst (C6 x12) x12.fst.17 (C2 x12) x12.fst.19 x12.fst.20 (BZ x12)))∧∀(x13:PmT [chP] × Int × Int),D0 (Aq x13.snd∧ChV x13.fst) x13.snd 14 (∀(x14:PmT [bl] × Int × Int),BS
  x14.snd True (∃(x15:Rn × Ct × Cf × Int × Int→Prop),C4 (BY x14 true (C4 (BN x13=BN x13) (C3 x14 (BR (B4 x13),BQ (B4 x13),(AW (B4 x13)).fst) (BM (BN x13)) (BE (BN x13))) (∀(x16:PmT [tlP]
  × Int × Int),B8 x16.snd (TlR x16.fst) (A3 x16.fst.snd.snd (BN x13))→∃(x17:Rn × Ct × Cf × Int × Int),BI x17 x16.snd x12 (BD x17 x12 (x17.fst.17=x12.fst.17) (x17.fst.19=x12.fst.19) (x17.fst.20=x12.fst.20)
  (Bt x17=C8 x12) (x17.fst.2=x12.fst.2) (Bx x17=C6 x12) (Bw x17=C2 x12) (Bu x17=BZ x12) (CL x17 x12) (CO x17 x12) (CM x17 x12) (CB x17 x13) (CA x17 x13) x13 (Au (AE x17) =
  x16.fst.fst) (Am (AE x17)=x16.fst.snd.fst) (Be x16.fst.snd) (Bm x17=x16.fst.snd.snd)) x15))) (BY x14 false (∃(x18:Rn × Ct × Cf × Int × Int),BI x18 x14.snd x12 (BD x18 x12 (x18.fst.17=x12.fst.17)
  (x18.fst.19=x12.fst.19) (x18.fst.20=x12.fst.20) (Bt x18=C8 x12) (x18.fst.2=x12.fst.2) (Bx x18=C6 x12) (Bw x18=C2 x12) (Bu x18=BZ x12) (CL x18 x12) (CO x18 x12) (CM x18 x12) (CB x18
  x13) (CA x18 x13) x13 (Au (AE x18)=BR (B4 x13)) (Am (AE x18)=BQ (B4 x13)) (BN x13) (Bm x18=(AW (B4 x13)).fst)) x15)) (∀(x19:Rn × Ct × Cf × Int × Int),BV (x15 x19) x19.snd.snd.snd (Bi 3)
  3 (∀(x20:PmT [i64] × Int × Int),BG (BU x20 3) (Bt x19) (A4 (AS x19.fst=AS x19.fst) (A6 (Bx x19) (Bx x19)) (CZ (A6 (Bw x19) (Bw x19)) (A6 (Bu x19) (Bu x19)) x20.snd (Bt x19,
  x19.fst.2,x19.fst.3,x19.fst.4,x19.fst.5,x19.fst.6,x19.fst.7,x19.fst.8,x19.fst.9,x19.fst.10,x19.fst.11,x19.fst.12,Cw x19.fst (Bx x19) x19.fst.17 (Bw x19) x19.fst.19 x19.fst.20 (Bu x19)))) (∀(x21:PmT
  [u64] × Int × Int),CY (Aq x21.snd∧U64 x21.fst) x21.snd (∀(x22:PmT [i64] × Int × Int),BU x22 4→∃(x23:Rn × Ct × Cf × Int × Int × Int × Int→Prop),C4 (Cu x22=true→CX ((x20.fst==0)=true)
  x22 (∀(x24:PmT [bl] × Int × Int),Ca x24 x19 (∀(x25:PmT [u64] × Int × Int),Cb x25 (∃(x26:Rn × Ct × Cf × Int × Int × Int × Int),BB x26 x20 x25 x25.snd x19 (Bs x26 x19 (Cc x26 x19) (Ci x26 x19) (Cn
  x26 x19) (Ch x26 x19) (Cd x26 x19) (C9 x26 x19) (Ce x26 x19) (Cj x26 x19) (Cg x26 x19) (Ck x26 x19) (Cl x26 x19) (Cp x26 x19) (Cv x26 x19) (Cq x26 x19) (Cm x26 x19) (Co x26 x19)) x23))
  (Ba x19) (AE x19).fst (An (AE x19)))∧CX (B9 (x20.fst==0)) x22 (∀(x27:PmT [bl] × Int × Int),Ca x27 x19 (∀(x25:PmT [u64] × Int × Int),Cb x25 (∃(x26:Rn × Ct × Cf × Int × Int × Int × Int),BB x26
  x20 x25 x25.snd x19 (Bs x26 x19 (Cc x26 x19) (Ci x26 x19) (Cn x26 x19) (Ch x26 x19) (Cd x26 x19) (C9 x26 x19) (Ce x26 x19) (Cj x26 x19) (Cg x26 x19) (Ck x26 x19) (Cl x26 x19) (Cp x26
  x19) (Cv x26 x19) (Cq x26 x19) (Cm x26 x19) (Co x26 x19)) x23)) (Bm x19) (Au (AE x19)) (Am (AE x19)))) (B9 (Cu x22)→∃(x28:Rn × Ct × Cf × Int × Int × Int × Int),BB x28 x20 x21 x22.snd x19 (Bs x28
  x19 (Cc x28 x19) (Ci x28 x19) (Cn x28 x19) (Ch x28 x19) (Cd x28 x19) (C9 x28 x19) (Ce x28 x19) (Cj x28 x19) (Cg x28 x19) (Ck x28 x19) (Cl x28 x19) (Cp x28 x19) (Cv x28 x19) (Cq x28
  x19) (Cm x28 x19) (Co x28 x19)) x23) (∀(x29:Rn × Ct × Cf × Int × Int × Int × Int),D0 (x23 x29) (B6 x29).snd.snd 256 (∀(x30:PmT [i64] × Int × Int),C5 (BU x30 256) x30 (Bi 30) (B5
  30) (∀(x31:PmT [bl] × Int × Int),BS x31.snd True (∃(x32:Rn × Ct × Cf × Int × Int × Int × Int × Int→Prop),C4 (D0 (x31.fst=true) x31.snd 5 (∀(x33:PmT [i64] × Int × Int),C5 (BU x33 5)
  x33 (Bi 3) (B5 3) (∀(x34:PmT [i64] × Int × Int),BU x34 3→∃(x35:Rn × Ct × Cf × Int × Int × Int × Int × Int),BC x35 (IntKind.i64.wrap (x33.fst-1)) x29 ((AD x35).fst=Cr (254 :
  Int) x34) x34.snd (BA x35 x29 (x35.fst.17=x29.fst.17) (x35.fst.19=x29.fst.19) (x35.fst.20=x29.fst.20) (AH x35=Bz x29) (x35.fst.2=x29.fst.2) (x35.fst.15=x29.fst.15) (x35.fst.18=x29.fst.18) (x35.fst.21 =
  x29.fst.21) (CQ x35 x29) (CP x35 x29) (CS x35 x29) (CR x35 x29) (CT x35 x29) (Ao x35=Bk x29) (Aw x35=Ab (AN x29)) (Ay x35=Aa (AN x29))) x32))) (BY x31 false (∃(x36:Rn × Ct × Cf × Int × Int × Int ×
  Int × Int),BC x36 (B6 x29).fst x29 ((AD x36).fst=x30.fst) x31.snd (BA x36 x29 (x36.fst.17=x29.fst.17) (x36.fst.19=x29.fst.19) (x36.fst.20=x29.fst.20) (AH x36=Bz x29) (x36.fst.2=x29.fst.2) (x36.fst.15
  = x29.fst.15) (x36.fst.18=x29.fst.18) (x36.fst.21=x29.fst.21) (CQ x36 x29) (CP x36 x29) (CS x36 x29) (CR x36 x29) (CT x36 x29) (Ao x36=Bk x29) (Aw x36=Ab (AN x29)) (Ay x36=Aa (AN x29))) x32)) (∀
  (x37:Rn × Ct × Cf × Int × Int × Int × Int × Int),x32 x37→∃(x38:By × Ct × Cf × Int × Int × Int→Prop),C4 (A5 (A5 (Bq x37∧∀(x39:PmT [byP] × Int × Int),BW x39 (A4 (∃(x40:By × Ct × Cf × Int × Int × Int),B7
  (AC x40 x39 (B1 x40 x37) (B0 x40 x37) (AZ x40 x37) x37) x38 x40) (∃(x40:By × Ct × Cf × Int × Int × Int),B7 (AC x40 x39 (B1 x40 x37) (B0 x40 x37) (AZ x40 x37) x37) x38 x40) (∃(x40:By × Ct × Cf × Int ×
  Int × Int),B7 (AC x40 x39 (B1 x40 x37) (B0 x40 x37) (AZ x40 x37) x37) x38 x40)) (AR (∃(x40:By × Ct × Cf × Int × Int × Int),B7 (AC x40 x39 (B1 x40 x37) (B0 x40 x37) (AZ x40 x37) x37) x38 x40) (∃(x40
  : By × Ct × Cf × Int × Int × Int),B7 (AC x40 x39 (B1 x40 x37) (B0 x40 x37) (AZ x40 x37) x37) x38 x40) ((∃(x40:By × Ct × Cf × Int × Int × Int),B7 (AC x40 x39 (B1 x40 x37) (B0 x40 x37) (AZ x40 x37) x37)
  x38 x40)∧∃(x40:By × Ct × Cf × Int × Int × Int),B7 (AC x40 x39 (B1 x40 x37) (B0 x40 x37) (AZ x40 x37) x37) x38 x40) (∃(x40:By × Ct × Cf × Int × Int × Int),B7 (AC x40 x39 (B1 x40 x37) (B0 x40 x37)
  (AZ x40 x37) x37) x38 x40))) (BF x37 (∀(x41:PmT [byP] × Int × Int),BT x41 (∃(x42:By × Ct × Cf × Int × Int × Int),B7 (AC x42 x41 (B1 x42 x37) (B0 x42 x37) (AZ x42 x37) x37) x38 x42)) (∀(x43:PmT [byP]
  × Int × Int),Bn x43 (∃(x44:By × Ct × Cf × Int × Int × Int),B7 (AC x44 x43 (B1 x44 x37) (B0 x44 x37) (AZ x44 x37) x37) x38 x44))) (Bq x37∧∀(x45:PmT [byP] × Int × Int),BW x45 (∃(x46:By × Ct × Cf ×
  Int × Int × Int),B7 (AC x46 x45 (B1 x46 x37) (B0 x46 x37) (AZ x46 x37) x37) x38 x46) (∃(x46:By × Ct × Cf × Int × Int × Int),B7 (AC x46 x45 (B1 x46 x37) (B0 x46 x37) (AZ x46 x37) x37) x38 x46)) (Bq
  x37) (∀(x43:PmT [byP] × Int × Int),Bn x43 (∃(x44:By × Ct × Cf × Int × Int × Int),B7 (AC x44 x43 (B1 x44 x37) (B0 x44 x37) (AZ x44 x37) x37) x38 x44))) (BH x37 (∀(x41:PmT [byP] × Int × Int),BT x41 (∃
  (x42:By × Ct × Cf × Int × Int × Int),B7 (AC x42 x41 (B1 x42 x37) (B0 x42 x37) (AZ x42 x37) x37) x38 x42)) (∀(x43:PmT [byP] × Int × Int),Bn x43 (∃(x44:By × Ct × Cf × Int × Int × Int),B7 (AC x44 x43 (B1
  x44 x37) (B0 x44 x37) (AZ x44 x37) x37) x38 x44))) (BF x37 (∀(x45:PmT [byP] × Int × Int),BW x45 (∃(x46:By × Ct × Cf × Int × Int × Int),B7 (AC x46 x45 (B1 x46 x37) (B0 x46 x37) (AZ x46 x37) x37) x38
  x46) (∃(x46:By × Ct × Cf × Int × Int × Int),B7 (AC x46 x45 (B1 x46 x37) (B0 x46 x37) (AZ x46 x37) x37) x38 x46)) (∀(x43:PmT [byP] × Int × Int),Bn x43 (∃(x44:By × Ct × Cf × Int × Int × Int),B7 (AC x44
  x43 (B1 x44 x37) (B0 x44 x37) (AZ x44 x37) x37) x38 x44))) (Bq x37) (∀(x43:PmT [byP] × Int × Int),Bn x43 (∃(x44:By × Ct × Cf × Int × Int × Int),B7 (AC x44 x43 (B1 x44 x37) (B0 x44 x37) (AZ x44
  x37) x37) x38 x44))) (A4 (A5 (A5 (Bq x37∧∀(x39:PmT [byP] × Int × Int),BW x39 (A4 (∃(x40:By × Ct × Cf × Int × Int × Int),B7 (AC x40 x39 (B1 x40 x37) (B0 x40 x37) (AZ x40 x37) x37) x38 x40) (∃(x40:By
  × Ct × Cf × Int × Int × Int),B7 (AC x40 x39 (B1 x40 x37) (B0 x40 x37) (AZ x40 x37) x37) x38 x40) (∃(x40:By × Ct × Cf × Int × Int × Int),B7 (AC x40 x39 (B1 x40 x37) (B0 x40 x37) (AZ x40 x37) x37) x38
  x40)) (AR (∃(x40:By × Ct × Cf × Int × Int × Int),B7 (AC x40 x39 (B1 x40 x37) (B0 x40 x37) (AZ x40 x37) x37) x38 x40) (∃(x40:By × Ct × Cf × Int × Int × Int),B7 (AC x40 x39 (B1 x40 x37) (B0 x40 x37) (AZ
  x40 x37) x37) x38 x40) ((∃(x40:By × Ct × Cf × Int × Int × Int),B7 (AC x40 x39 (B1 x40 x37) (B0 x40 x37) (AZ x40 x37) x37) x38 x40)∧∃(x40:By × Ct × Cf × Int × Int × Int),B7 (AC x40 x39 (B1 x40 x37)
  (B0 x40 x37) (AZ x40 x37) x37) x38 x40) (∃(x40:By × Ct × Cf × Int × Int × Int),B7 (AC x40 x39 (B1 x40 x37) (B0 x40 x37) (AZ x40 x37) x37) x38 x40))) (BF x37 (∀(x41:PmT [byP] × Int × Int),BT x41 (∃
  (x42:By × Ct × Cf × Int × Int × Int),B7 (AC x42 x41 (B1 x42 x37) (B0 x42 x37) (AZ x42 x37) x37) x38 x42)) (∀(x43:PmT [byP] × Int × Int),Bn x43 (∃(x44:By × Ct × Cf × Int × Int × Int),B7 (AC x44 x43 (B1
  x44 x37) (B0 x44 x37) (AZ x44 x37) x37) x38 x44))) (Bq x37∧∀(x45:PmT [byP] × Int × Int),BW x45 (∃(x46:By × Ct × Cf × Int × Int × Int),B7 (AC x46 x45 (B1 x46 x37) (B0 x46 x37) (AZ x46 x37) x37)
  x38 x46) (∃(x46:By × Ct × Cf × Int × Int × Int),B7 (AC x46 x45 (B1 x46 x37) (B0 x46 x37) (AZ x46 x37) x37) x38 x46)) (Bq x37) (∀(x43:PmT [byP] × Int × Int),Bn x43 (∃(x44:By × Ct × Cf × Int × Int ×
  Int),B7 (AC x44 x43 (B1 x44 x37) (B0 x44 x37) (AZ x44 x37) x37) x38 x44))) (BH x37 (∀(x41:PmT [byP] × Int × Int),BT x41 (∃(x42:By × Ct × Cf × Int × Int × Int),B7 (AC x42 x41 (B1 x42 x37) (B0 x42
  x37) (AZ x42 x37) x37) x38 x42)) (∀(x43:PmT [byP] × Int × Int),Bn x43 (∃(x44:By × Ct × Cf × Int × Int × Int),B7 (AC x44 x43 (B1 x44 x37) (B0 x44 x37) (AZ x44 x37) x37) x38 x44))) (BF x37 (∀(x45:PmT
  [byP] × Int × Int),BW x45 (∃(x46:By × Ct × Cf × Int × Int × Int),B7 (AC x46 x45 (B1 x46 x37) (B0 x46 x37) (AZ x46 x37) x37) x38 x46) (∃(x46:By × Ct × Cf × Int × Int × Int),B7 (AC x46 x45 (B1 x46 x37)
  (B0 x46 x37) (AZ x46 x37) x37) x38 x46)) (∀(x43:PmT [byP] × Int × Int),Bn x43 (∃(x44:By × Ct × Cf × Int × Int × Int),B7 (AC x44 x43 (B1 x44 x37) (B0 x44 x37) (AZ x44 x37) x37) x38 x44))) (Bq x37) (∀
  (x43:PmT [byP] × Int × Int),Bn x43 (∃(x44:By × Ct × Cf × Int × Int × Int),B7 (AC x44 x43 (B1 x44 x37) (B0 x44 x37) (AZ x44 x37) x37) x38 x44))) (A5 (BH x37 (∀(x41:PmT [byP] × Int × Int),BT x41 (∃
  (x42:By × Ct × Cf × Int × Int × Int),B7 (AC x42 x41 (B1 x42 x37) (B0 x42 x37) (AZ x42 x37) x37) x38 x42)) (∀(x43:PmT [byP] × Int × Int),Bn x43 (∃(x44:By × Ct × Cf × Int × Int × Int),B7 (AC x44 x43 (B1
  x44 x37) (B0 x44 x37) (AZ x44 x37) x37) x38 x44))) (BH x37 (∀(x41:PmT [byP] × Int × Int),BT x41 (∃(x42:By × Ct × Cf × Int × Int × Int),B7 (AC x42 x41 (B1 x42 x37) (B0 x42 x37) (AZ x42 x37) x37) x38
  x42)) (∀(x43:PmT [byP] × Int × Int),Bn x43 (∃(x44:By × Ct × Cf × Int × Int × Int),B7 (AC x44 x43 (B1 x44 x37) (B0 x44 x37) (AZ x44 x37) x37) x38 x44))) (Bq x37∧∀(x43:PmT [byP] × Int × Int),Bn x43
  (∃(x44:By × Ct × Cf × Int × Int × Int),B7 (AC x44 x43 (B1 x44 x37) (B0 x44 x37) (AZ x44 x37) x37) x38 x44)) (Bq x37) (∀(x43:PmT [byP] × Int × Int),Bn x43 (∃(x44:By × Ct × Cf × Int × Int × Int),B7 (AC
  x44 x43 (B1 x44 x37) (B0 x44 x37) (AZ x44 x37) x37) x38 x44))) (A5 (BH x37 (∀(x45:PmT [byP] × Int × Int),BW x45 (∃(x46:By × Ct × Cf × Int × Int × Int),B7 (AC x46 x45 (B1 x46 x37) (B0 x46 x37) (AZ
  x46 x37) x37) x38 x46) (∃(x46:By × Ct × Cf × Int × Int × Int),B7 (AC x46 x45 (B1 x46 x37) (B0 x46 x37) (AZ x46 x37) x37) x38 x46)) (∀(x43:PmT [byP] × Int × Int),Bn x43 (∃(x44:By × Ct × Cf × Int × Int ×
  Int),B7 (AC x44 x43 (B1 x44 x37) (B0 x44 x37) (AZ x44 x37) x37) x38 x44))) (BH x37 (∀(x45:PmT [byP] × Int × Int),BW x45 (∃(x46:By × Ct × Cf × Int × Int × Int),B7 (AC x46 x45 (B1 x46 x37) (B0 x46
  x37) (AZ x46 x37) x37) x38 x46) (∃(x46:By × Ct × Cf × Int × Int × Int),B7 (AC x46 x45 (B1 x46 x37) (B0 x46 x37) (AZ x46 x37) x37) x38 x46)) (∀(x43:PmT [byP] × Int × Int),Bn x43 (∃(x44:By × Ct × Cf ×
  Int × Int × Int),B7 (AC x44 x43 (B1 x44 x37) (B0 x44 x37) (AZ x44 x37) x37) x38 x44))) (Bq x37∧∀(x43:PmT [byP] × Int × Int),Bn x43 (∃(x44:By × Ct × Cf × Int × Int × Int),B7 (AC x44 x43 (B1 x44
  x37) (B0 x44 x37) (AZ x44 x37) x37) x38 x44)) (Bq x37) (∀(x43:PmT [byP] × Int × Int),Bn x43 (∃(x44:By × Ct × Cf × Int × Int × Int),B7 (AC x44 x43 (B1 x44 x37) (B0 x44 x37) (AZ x44 x37) x37) x38
  x44)))) (∀(x47:By × Ct × Cf × Int × Int × Int),x38 x47→∃(x48:PmT [Pm.one (Cs.sl [Ty.i IntKind.u8]),Pm.st [Cs.i IntKind.i64,Cs.b,Cs.b,Cs.i IntKind.u64],Pm.st [Cs.i IntKind.i64,Cs.i IntKind.i64,Cs.sl shE,Cs.i
  IntKind.i64,Cs.i IntKind.i64,Cs.sl shE,Cs.i IntKind.i64,Cs.i IntKind.i64,Cs.sl shE],Pm.one (Cs.i IntKind.i64),Pm.one (Cs.i IntKind.u64),Pm.one (Cs.i IntKind.i64)]),A5 (A7∧Ad (List.length x48.fst=List.length x47.fst)
  (x48.snd.fst.fst=(Af x47).fst) (x48.snd.fst.snd.fst=Aj (Af x47)) (x48.snd.fst.snd.snd.fst=Ar (Af x47)) (x48.snd.fst.snd.snd.snd=Ai (Af x47)) (x48.snd.snd.fst.fst=(A1 x47).fst) ((Br x48).fst=An (A1 x47)) A7 (Ah
  (BX (Bj (Br x48).snd) (Ax x47)) (BR (Br x48)=Au (A1 x47)) (BQ (Br x48)=Am (A1 x47)) A7 (BX (Bp (Br x48)) (Ap x47)) ((AW (Br x48)).snd.fst=Al (A1 x47)) ((Bb (Br x48)).fst=Ak (A1 x47)) A7 (BX
  (Be (Bb (Br x48))) (AB x47)) (x48.snd.snd.snd.fst=x47.snd.snd.snd.fst) (x48.snd.snd.snd.snd.fst=AO x47) (x48.snd.snd.snd.snd.snd=AK x47) (m=m) (x48.fst=x47.fst) ((Br x48).snd.fst=Ax x47) ((AW (Br x48)).fst
  = Ap x47) ((Bb (Br x48)).snd=AB x47))) (zan x48.fst) (U64 (Ai x48.snd.fst)) (ChK x48.snd.snd.fst) (U64 x48.snd.snd.snd.snd.fst)))))))))))))))))):=by kernel_rfl
set_option linter.unusedSimpArgs false
set_option linter.unusedVariables false
set_option maxRecDepth 10000
set_option maxHeartbeats 2000000
theorem ytu:DictOk Tryz.prog FET:=za1 (.cons (by kernel_rfl) yos ((zay.cons (by kernel_rfl) zmv .nil).append yvk)) .nil .nil
theorem yru:zb7 Tryz.prog (Rels.of rET1):=zdq (by kernel_rfl) yhe <| zdq (by kernel_rfl) ybd <| zdq (by kernel_rfl) zza yrt
def DtJ1(m:By)(q:Rn × Ct × Bool × Int × Int):Prop:=HaV q.1.h∧U64 q.2.1.2.2.2∧zbe m q.2.2.2.1
theorem dt_1{m:By}{q:Rn × Ct × Bool × Int × Int}(h1:HaV q.1.h)(h2:U64 q.2.1.2.2.2)(h3:zbe m q.2.2.2.1):DtJ1 m q:=⟨h1,h2,h3⟩
def DtJ2(m:By)(q:Rn × Ct × Int × Int):Prop:=HaV q.1.h∧U64 q.2.1.2.2.2∧zbe m q.2.2.1
theorem dt_2{m:By}{q:Rn × Ct × Int × Int}(h1:HaV q.1.h)(h2:U64 q.2.1.2.2.2)(h3:zbe m q.2.2.1):DtJ2 m q:=⟨h1,h2,h3⟩
def DtJ3(m:By)(q:Rn × Ct × Cf × Int × Int):Prop:=HaV q.1.h∧U64 q.2.1.2.2.2∧ChK q.2.2.1∧zbe m q.2.2.2.1
theorem dt_3{m:By}{q:Rn × Ct × Cf × Int × Int}(h1:HaV q.1.h)(h2:U64 q.2.1.2.2.2)(h3:ChK q.2.2.1)(h4:zbe m q.2.2.2.1):DtJ3 m q:=⟨h1,h2,h3,h4⟩
def DtJ4(m:By)(q:Rn × Ct × Cf × Int × Int × Int × Int):Prop:=HaV q.1.h∧U64 q.2.1.2.2.2∧ChK q.2.2.1∧U64 q.2.2.2.2.1∧zbe m q.2.2.2.2.2.1
theorem dt_4{m:By}{q:Rn × Ct × Cf × Int × Int × Int × Int}(h1:HaV q.1.h)(h2:U64 q.2.1.2.2.2)(h3:ChK q.2.2.1)(h4:U64 q.2.2.2.2.1)(h5:zbe m q.2.2.2.2.2.1):DtJ4 m q:=⟨h1,h2,h3,h4,h5⟩
def DtJ5(m:By)(q:Rn × Ct × Cf × Int × Int × Int × Int × Int):Prop:=HaV q.1.h∧U64 q.2.1.2.2.2∧ChK q.2.2.1∧U64 q.2.2.2.2.1∧zbe m q.2.2.2.2.2.2.1
theorem dt_5{m:By}{q:Rn × Ct × Cf × Int × Int × Int × Int × Int}(h1:HaV q.1.h)(h2:U64 q.2.1.2.2.2)(h3:ChK q.2.2.1)(h4:U64 q.2.2.2.2.1)(h5:zbe m q.2.2.2.2.2.2.1):DtJ5 m q:=⟨h1,h2,h3,h4,h5⟩
def DtJ6(m:By)(q:Tq):Prop:=zan q.1∧U64 q.2.1.2.2.2∧ChK q.2.2.1∧U64 q.2.2.2.2.1
theorem dt_6{m:By}{q:Tq}(h1:zan q.1)(h2:U64 q.2.1.2.2.2)(h3:ChK q.2.2.1)(h4:U64 q.2.2.2.2.1):DtJ6 m q:=⟨h1,h2,h3,h4⟩
theorem dtx_1{p:Rn × Ct × Bool × Int × Int→Prop}{f1:By}{f2:Us}{f3:Int}{f4:Int}{f5:Bool}{f6:Bool}{f7:Int}{f8:Int}{f9:Int}{f10:Int}{f11:Int}{f12:Int}{f13:Int}{f14:Int}{f15:Es}{f16:Int}{f17:Int}{f18:Es}{f19:Int}{f20:Int}{f21:Es}{c1:Int}{c2 c3:Bool}{c4:Int}{b:Bool}{i h:Int}(g:p (⟨f1,f2,f3,f4,f5,f6,f7,f8,f9,f10,f11,f12,f13,f14,f15,f16,f17,f18,f19,f20,f21,false,0,0,0,[],false,false,0,false,0⟩,(c1,c2,c3,c4),b,i,h)):∃z,p z:=⟨_,g⟩
theorem dtx_2{p:Rn × Ct × Int × Int→Prop}{f1:By}{f2:Us}{f3:Int}{f4:Int}{f5:Bool}{f6:Bool}{f7:Int}{f8:Int}{f9:Int}{f10:Int}{f11:Int}{f12:Int}{f13:Int}{f14:Int}{f15:Es}{f16:Int}{f17:Int}{f18:Es}{f19:Int}{f20:Int}{f21:Es}{c1:Int}{c2 c3:Bool}{c4:Int}{i h:Int}(g:p (⟨f1,f2,f3,f4,f5,f6,f7,f8,f9,f10,f11,f12,f13,f14,f15,f16,f17,f18,f19,f20,f21,false,0,0,0,[],false,false,0,false,0⟩,(c1,c2,c3,c4),i,h)):∃z,p z:=⟨_,g⟩
theorem dtx_3{p:Rn × Ct × Cf × Int × Int→Prop}{f1:By}{f2:Us}{f3:Int}{f4:Int}{f5:Bool}{f6:Bool}{f7:Int}{f8:Int}{f9:Int}{f10:Int}{f11:Int}{f12:Int}{f13:Int}{f14:Int}{f15:Es}{f16:Int}{f17:Int}{f18:Es}{f19:Int}{f20:Int}{f21:Es}{c1:Int}{c2 c3:Bool}{c4:Int}{k1 k2:Int}{k3:Es}{k4 k5:Int}{k6:Es}{k7 k8:Int}{k9:Es}{i h:Int}(g:p (⟨f1,f2,f3,f4,f5,f6,f7,f8,f9,f10,f11,f12,f13,f14,f15,f16,f17,f18,f19,f20,f21,false,0,0,0,[],false,false,0,false,0⟩,(c1,c2,c3,c4),(k1,k2,k3,k4,k5,k6,k7,k8,k9),i,h)):∃z,p z:=⟨_,g⟩
theorem dtx_4{p:Rn × Ct × Cf × Int × Int × Int × Int→Prop}{f1:By}{f2:Us}{f3:Int}{f4:Int}{f5:Bool}{f6:Bool}{f7:Int}{f8:Int}{f9:Int}{f10:Int}{f11:Int}{f12:Int}{f13:Int}{f14:Int}{f15:Es}{f16:Int}{f17:Int}{f18:Es}{f19:Int}{f20:Int}{f21:Es}{c1:Int}{c2 c3:Bool}{c4:Int}{k1 k2:Int}{k3:Es}{k4 k5:Int}{k6:Es}{k7 k8:Int}{k9:Es}{a b i h:Int}(g:p (⟨f1,f2,f3,f4,f5,f6,f7,f8,f9,f10,f11,f12,f13,f14,f15,f16,f17,f18,f19,f20,f21,false,0,0,0,[],false,false,0,false,0⟩,(c1,c2,c3,c4),(k1,k2,k3,k4,k5,k6,k7,k8,k9),a,b,i,h)):∃z,p z:=⟨_,g⟩
theorem dtx_5{p:Rn × Ct × Cf × Int × Int × Int × Int × Int→Prop}{f1:By}{f2:Us}{f3:Int}{f4:Int}{f5:Bool}{f6:Bool}{f7:Int}{f8:Int}{f9:Int}{f10:Int}{f11:Int}{f12:Int}{f13:Int}{f14:Int}{f15:Es}{f16:Int}{f17:Int}{f18:Es}{f19:Int}{f20:Int}{f21:Es}{c1:Int}{c2 c3:Bool}{c4:Int}{k1 k2:Int}{k3:Es}{k4 k5:Int}{k6:Es}{k7 k8:Int}{k9:Es}{a b c i h:Int}(g:p (⟨f1,f2,f3,f4,f5,f6,f7,f8,f9,f10,f11,f12,f13,f14,f15,f16,f17,f18,f19,f20,f21,false,0,0,0,[],false,false,0,false,0⟩,(c1,c2,c3,c4),(k1,k2,k3,k4,k5,k6,k7,k8,k9),a,b,c,i,h)):∃z,p z:=⟨_,g⟩
theorem dtx_7{p:PmT tqP→Prop}{m:By}{c1:Int}{c2 c3:Bool}{c4:Int}{k1 k2:Int}{k3:Es}{k4 k5:Int}{k6:Es}{k7 k8:Int}{k9:Es}{a b c:Int}(g:p (m,(c1,c2,c3,c4),(k1,k2,k3,k4,k5,k6,k7,k8,k9),a,b,c)):∃z,p z:=⟨_,g⟩
theorem yu7{r:Rn}(v:HaV r.h):ChV (r.s1,r.w1,r.m1,r.s2,r.w2,r.m2,r.s3,r.w3,r.m3):=by
 have e:r.h.2.2.2.2.2.2.2.2.2.2.2.2=(r.s1,r.w1,r.m1,r.s2,r.w2,r.m2,r.s3,r.w3,r.m3):=rfl
 rw[← e]
 exact ha_ch v
theorem yu6{r:Rn}(v:HaV r.h):zan r.m:=ha_by v
theorem yu8{r:Rn}(v:HaV r.h):HaV (r.m,r.u,r.pc,r.mo,r.su,r.mx,r.sa,r.tv,r.ep,r.em,r.ca,r.tl,r.s1,r.w1,r.m1,r.s2,r.w2,r.m2,r.s3,r.w3,r.m3):=v
theorem cur_2{A B C:Prop}(h:A→B→C):A∧B→C:=fun ⟨a,b⟩=>h a b
theorem yuo{x:Cf}(h:ChV x):ChK x:=⟨ch_I h,ch_D h,ch_P h⟩
theorem yun{x:Cf}{t:Tl}(h:ChK x)(ht:TlR t)(e:t.2.2.length=x.2.2.2.2.2.1.length):ChK (x.1,x.2.1,x.2.2.1,t.1,t.2.1,t.2.2,x.2.2.2.2.2.2.1,x.2.2.2.2.2.2.2.1,x.2.2.2.2.2.2.2.2):=⟨h.1,sp_tl ht e h.2.1,h.2.2⟩
theorem leaf6{m:By}{z:Rn × Ct × Cf × Int × Int × Int × Int × Int}{z_9:PmT [byP] × Int × Int}(hz:DtJ5 m z)(h9:zan z_9.fst) :
 ∃(z_10:By × Ct × Cf × Int × Int × Int),((0:Nat)=(0:Nat)∧List.length z_10.fst=List.length z_9.fst∧z_10.snd.snd.snd.fst=z.snd.snd.snd.fst∧z_10.snd.snd.snd.snd.fst=z.snd.snd.snd.snd.fst∧z_10.snd.snd.snd.snd.snd =
 z.snd.snd.snd.snd.snd.fst∧m=m∧z_10.snd.fst.fst=z.snd.fst.fst∧z_10.snd.fst.snd.fst=z.snd.fst.snd.fst∧z_10.snd.fst.snd.snd.fst=z.snd.fst.snd.snd.fst∧z_10.snd.fst.snd.snd.snd=z.snd.fst.snd.snd.snd∧z_10.snd.snd.fst.fst =
 z.snd.snd.fst.fst∧z_10.snd.snd.fst.snd.fst=z.snd.snd.fst.snd.fst∧(0:Nat)=(0:Nat)∧List.length z_10.snd.snd.fst.snd.snd.fst=List.length z.snd.snd.fst.snd.snd.fst∧z_10.snd.snd.fst.snd.snd.snd.fst =
 z.snd.snd.fst.snd.snd.snd.fst∧z_10.snd.snd.fst.snd.snd.snd.snd.fst=z.snd.snd.fst.snd.snd.snd.snd.fst∧(0:Nat)=(0:Nat)∧List.length z_10.snd.snd.fst.snd.snd.snd.snd.snd.fst=List.length z.snd.snd.fst.snd.snd.snd.snd.snd.fst ∧
 z_10.snd.snd.fst.snd.snd.snd.snd.snd.snd.fst=z.snd.snd.fst.snd.snd.snd.snd.snd.snd.fst∧z_10.snd.snd.fst.snd.snd.snd.snd.snd.snd.snd.fst=z.snd.snd.fst.snd.snd.snd.snd.snd.snd.snd.fst∧(0:Nat)=(0:Nat)∧List.length
 z_10.snd.snd.fst.snd.snd.snd.snd.snd.snd.snd.snd=List.length z.snd.snd.fst.snd.snd.snd.snd.snd.snd.snd.snd∧z_10.fst=z_9.fst∧z_10.snd.snd.fst.snd.snd.fst=z.snd.snd.fst.snd.snd.fst∧z_10.snd.snd.fst.snd.snd.snd.snd.snd.fst =
 z.snd.snd.fst.snd.snd.snd.snd.snd.fst∧z_10.snd.snd.fst.snd.snd.snd.snd.snd.snd.snd.snd=z.snd.snd.fst.snd.snd.snd.snd.snd.snd.snd.snd)∧zj1 Fz.none Fz.none∧DtJ6 m z_10:=by
 refine⟨(z_9.1,z.2.1,z.2.2.1,z.2.2.2.1,z.2.2.2.2.1,z.2.2.2.2.2.1), ?_,za8,h9,hz.2.1,hz.2.2.1,hz.2.2.2.1⟩
 dsimp only
 repeat' apply And.intro
 all_goals exact rfl
theorem yux:zcm Tryz.prog 37 dtrR:=by
 refine ylr mixed Tryz.func37 (by kernel_rfl) ytu yru (fun  (m:By) hm=>⟨dtX m,zbw (by kernel_rfl), ?_⟩)
 have h0:zbe m 0:=⟨hm,Int.le_refl 0,by omega⟩
 refine zah (ztn m) ?_
 conv=>zeta
 repeat' first
  | with_reducible exact rfl
  | with_reducible apply And.intro
  | (intro z hz;have hz':zbe m z.2.1∧ChV z.1:=hz;have z1:=hz'.1;have z2:=hz'.2;have t1:=ch_I z2;have t2:=ch_D z2;have t3:=ch_P z2;have u1:=t1.1;have u2:=t2.1;have u3:=t3.1;have v1:=t1.2.1;have v2:=t2.2.1;have v3:=t3.2.1;have w1:=t1.2.2;have w2:=t2.2.2;have w3:=t3.2.2)
  | (with_reducible refine cur_2 ?_)
  | (intro q hq;obtain⟨q1,q2,q3⟩:DtJ1 m q:=hq)
  | (intro q hq;obtain⟨q1,q2,q3⟩:DtJ2 m q:=hq)
  | (intro q hq;obtain⟨q1,q2,q4,q3⟩:DtJ3 m q:=hq;have t1:=q4.1;have t2:=q4.2.1;have t3:=q4.2.2;have u1:=t1.1;have u2:=t2.1;have u3:=t3.1;have v1:=t1.2.1;have v2:=t2.2.1;have v3:=t3.2.1;have w1:=t1.2.2;have w2:=t2.2.2;have w3:=t3.2.2)
  | (intro q hq;obtain⟨q1,q2,q4,q5,q3⟩:DtJ4 m q:=hq;have t1:=q4.1;have t2:=q4.2.1;have t3:=q4.2.2;have u1:=t1.1;have u2:=t2.1;have u3:=t3.1;have v1:=t1.2.1;have v2:=t2.2.1;have v3:=t3.2.1;have w1:=t1.2.2;have w2:=t2.2.2;have w3:=t3.2.2)
  | (intro q hq;have hq5:DtJ5 m q:=hq;have q1:=hq5.1;have q2:=hq5.2.1;have q5:=hq5.2.2.2.1;have q3:=hq5.2.2.2.2)
  | (intro q hq;obtain⟨q1,q2,q4,q5⟩:DtJ6 m q:=hq)
  | intro _
  | with_reducible assumption
  | with_reducible exact leaf6 hq5 (by assumption)
  | ((with_reducible refine dt_1 ?_ ?_ ?_)<;>dsimp only)
  | ((with_reducible refine dt_2 ?_ ?_ ?_)<;>dsimp only)
  | ((with_reducible refine dt_3 ?_ ?_ ?_ ?_)<;>dsimp only)
  | ((with_reducible refine dt_4 ?_ ?_ ?_ ?_ ?_)<;>dsimp only)
  | ((with_reducible refine dt_5 ?_ ?_ ?_ ?_ ?_)<;>dsimp only)
  | ((with_reducible refine dt_6 ?_ ?_ ?_ ?_)<;>dsimp only)
  | (with_reducible apply dtx_1;dsimp only)
  | (with_reducible apply dtx_2;dsimp only)
  | (with_reducible apply dtx_3;dsimp only)
  | (with_reducible apply dtx_4;dsimp only)
  | (with_reducible apply dtx_5;dsimp only)
  | exact leaf6 hq5 (by assumption)
  | (apply dtx_7;dsimp only)
  | refine⟨DtJ1 m, ?_, ?_⟩
  | refine⟨DtJ2 m, ?_, ?_⟩
  | refine⟨DtJ3 m, ?_, ?_⟩
  | refine⟨DtJ4 m, ?_, ?_⟩
  | refine⟨DtJ5 m, ?_, ?_⟩
  | refine⟨DtJ6 m, ?_, ?_⟩
  | with_reducible exact za8
  | with_reducible exact yu7 q1
  | with_reducible exact yu6 q1
  | with_reducible exact yu8 q1
  | with_reducible exact trivial
  | with_reducible exact zbq _ _
  | (with_reducible show (_:Int)≤_;decide)
  | exact rfl
  | assumption
  | exact yuo z2
  | exact yun q4 (by assumption) (by assumption)
  | exact yun (yuo z2) (by assumption) (by assumption)
end Go.Proofs.YtfiddfbagbaofaaGreat.V
