/- The reference's step: one instruction. Conditions: those in each statement. -/
import Derived.Test.YtfiddfbagbaofaaGreatEF
import Derived.KernelRfl
namespace Go.Proofs.YtfiddfbagbaofaaGreat.V
open Go
def zfk(s:Int):Int:=if s≥128 then IntKind.u64.wrap (s-256) else s
def zg5(s:Int):Int:=if s≥128 then IntKind.u64.wrap (4*(s-256)) else 4*s
def zkj(op c mo:Int):Bool:=(decide (op≥9)&&decide (op≤11)&&(mo==0))||((op==12||op==13) && !(mo==2))||((op==13)&&decide (c>2))
def ztr(r:Rn)(a ea w:Int):Rn:=if (zas r 1 ea w).1.cs=0 then zb3 (zas r 1 ea w).1 a (zbq (zeo (zas r 1 ea w).1.m (zas r 1 ea w).2)) else (zas r 1 ea w).1
def zx0(x:Rn × Ps)(w v:Int):Rn:={ x.1 with m:=zii x.1.m x.2 (zce v w.toNat) }
def zk9(r:Rn)(v ea w:Int):Rn:=if (zas r 2 ea w).1.cs=0 then zx0 (zas r 2 ea w) w v else (zas r 2 ea w).1
def yl2(x:Rn × Ps):Int:=zbq (zeo x.1.m x.2)
def yqe(r:Rn)(a v ea:Int):Rn:=if (zas r 2 ea 8).1.cs=0 then zb3 (zx0 (zas r 2 ea 8) 8 (IntKind.u64.wrap (yl2 (zas r 2 ea 8)+v))) a (yl2 (zas r 2 ea 8)) else (zas r 2 ea 8).1
def yf3(a b xa xb:Int):Fc:=(!(a==0),xa, !(b==0),xb % 65536)
def yf8(k:Cch)(f:Fc):Cch:=(zdg k.1 f,zdg k.2.1 f,zdg k.2.2 f)
def fenced(r:Rn)(f:Fc):Rn:={ r with fd:=true,f1:=f.1,f2:=f.2.1,f3:=f.2.2.1,f4:=f.2.2.2 }
def zeg(r:Rn)(f:Fc):Rn:=if r.pl=true then fenced r f else (fenced r f).withK (ofC (yf8 (toC r.k) f))
abbrev Zx:=Int × Int × Int × Int × Int × Int × Int × Int × Int
def doM(r:Rn)(z:Zx)(op s word:Int):Rn :=
 if op=1 then zb3 r z.1 z.2.2.2.1
 else if op=2 then zb3 r z.1 (IntKind.u64.wrap (z.2.2.2.2.2.2.1+z.2.2.2.2.2.2.2.1))
 else if op=3 then zb3 r z.1 (IntKind.u64.wrap (z.2.2.2.2.2.2.1+z.2.2.2.1))
 else if op=4 then zb3 r z.1 (IntKind.u64.wrap (z.2.2.2.2.2.2.1*pw (s % 64)))
 else if op=5 then ztr r z.1 (IntKind.u64.wrap (z.2.2.2.2.2.2.1+z.2.2.2.1)) z.2.2.2.2.2.2.2.2
 else if op=6 then zk9 r z.2.2.2.2.2.1 (IntKind.u64.wrap (z.2.2.2.2.2.2.1+z.2.2.2.1)) z.2.2.2.2.2.2.2.2
 else if op=7 then yqe r z.1 z.2.2.2.2.2.2.2.1 (IntKind.u64.wrap (z.2.2.2.2.2.2.1+z.2.2.2.1))
 else if op=8 then (if z.2.2.2.2.2.1=z.2.2.2.2.2.2.1 then r else { r with pc:=IntKind.u64.wrap (IntKind.u64.wrap (r.pc-4)+z.2.2.2.2.1) })
 else if op=9 then (if zbu z.2.2.2.2.2.1=true then { r with sa:=z.2.2.2.2.2.1 } else r)
 else if op=10 then { r with su:=za0 z.2.2.2.2.2.1 0,mx:=za0 z.2.2.2.2.2.1 1 }
 else if op=11 then zeg r (yf3 z.1 z.2.1 z.2.2.2.2.2.1 z.2.2.2.2.2.2.1)
 else if op=12 then { r with pc:=IntKind.u64.wrap (r.ep+z.2.2.2.2.1),mo:=r.em }
 else if op=13 then { r with ep:=z.2.2.2.2.2.1,em:=z.2.2.1 }
 else if op=14 then zd1 r (IntKind.i64.wrap (8+r.mo)) 0
 else zd1 r 2 word
def zb7(r:Rn)(a:Int):Int:=r.u.getD a.toNat 0
def zg7(r:Rn)(p q s:Int):Zx:=(p % 8,p/8 % 8,q % 8,zfk s,zg5 s,zb7 r (p % 8),zb7 r (p/8 % 8),zb7 r (q % 8),pw (q % 8 % 4))
def pc4(r:Rn):Rn:={ r with pc:=IntKind.u64.wrap (r.pc+4) }
def zbg(r:Rn)(op p q s word:Int):Rn:=if zkj op (q % 8) r.mo=true then zd1 (pc4 r) 2 word else doM (pc4 r) (zg7 r p q s) op s word
def zee(r:Rn)(va w:Int):Prop:=RnR r∧r.ks.length+2≤2097152∧U64 va∧1≤w∧w≤8
def kEG0:Known:=[
 (234,zai [byP,psP] [u64] (fun t=>some (zaj t.1∧PsR t.1.length t.2)) (fun t=>zbq (zeo t.1 t.2))),
 (235,ztv [byP,psP,i64,u64] [byP] (fun t=>some (PsR t.1.length t.2.1∧(zd9 t.2.1:Int)=t.2.2.1∧U64 t.2.2.2)) (fun t=>zii t.1 t.2.1 (zce t.2.2.2 t.2.2.1.toNat))),
 (233,ztv [ruP,i64,u64,i64] [ruP,psP] (fun t=>some (zee (Rn.of t.1) t.2.2.1 t.2.2.2)) (fun t=>((zas (Rn.of t.1) t.2.1 t.2.2.1 t.2.2.2).1.t,(zas (Rn.of t.1) t.2.1 t.2.2.1 t.2.2.2).2)))]++kEE2
def kEG1:Known:=kEG0++kHA1++kJ2++kB3++kA4
def FEG1:Dict:=mkD kEG1 [] []
def exSl(op s word:Int)(l:List (Nat × Av)):List Av:=slots 328 ([(1,.v (.int .i64 op)),(4,.v (.int .i64 s)),(5,.v (.int .u64 word)),(6,.ptr 6 0),(12,.ptr 7 0),(13,.ptr 8 0)]++l)
def exH(r:Rn):Heap:=yec r++[.fix (zwb r 0) true (some 110),.fix yl4 true (some 110),.fix ((zwb r 0).take 21) true (some 41)]
def yyi(r:Rn)(op s word:Int)(k:Nat):Option CutS :=
 if k=8 then some (CutS.mk (Int × Int × Int × Int × Int) (fun z=>exSl op s word [(14,.v (.int .i64 z.1)),(15,.v (.int .i64 z.2.1)),(16,.v (.int .i64 z.2.2.1)),(17,.v (.int .u64 z.2.2.2.1)),(18,.v (.int .u64 z.2.2.2.2))]) (fun _=>exH r)) else none
def exCut(op s word:Int)(k:Nat):Option CutS :=
 if k=17 then some (CutS.mk (Zx × Bool × Int × Rn) (fun z=>exSl op s word [(14,.v (.int .i64 z.1.1)),(15,.v (.int .i64 z.1.2.1)),(16,.v (.int .i64 z.1.2.2.1)),(17,.v (.int .u64 z.1.2.2.2.1)),(18,.v (.int .u64 z.1.2.2.2.2.1)),(19,.v (.int .u64 z.1.2.2.2.2.2.1)),(20,.v (.int .u64 z.1.2.2.2.2.2.2.1)),(21,.v (.int .u64 z.1.2.2.2.2.2.2.2.1)),(22,.v (.int .i64 z.1.2.2.2.2.2.2.2.2)),(23,.v (.int .u64 z.2.2.1)),(24,.v (.bool z.2.1))]) (fun z=>yec z.2.2.2++[.fix (zwb z.2.2.2 0) true (some 110),.fix yl4 true (some 110),.fix ((zwb { z.2.2.2 with pc:=z.2.2.1 } 0).take 21) true (some 41)]))
 else if k=44 then some (CutS.mk (Int × Int × Rn) (fun z=>slots 328 [(12,.ptr 6 0),(14,.v (.int .i64 z.1)),(29,.ptr 7 0),(31,.v (.int .u64 z.2.1))]) (fun z=>dead6++[.fix yl4 true (some 110),.fix (zwb z.2.2 8) true (some 110)]++yec z.2.2)) else none
def yyj:List Nat:=[21,23,25,27,29,34,39,46,50,54,58,64,68,72]
def yyk(o k:Nat):Option Bool :=
 if k=18 then some (o==0)
 else match yyj.findIdx? (· == k) with
  | some i=>some (i+1==o)
  | none=>none
def exX(o:Nat)(r:Rn)(op s word:Int):Specs:={ Specs.none with cond:=yyi r op s word,cut:=exCut op s word,pick:=yyk o }
abbrev zwc(o:Nat)(r:Rn)(op p q s word:Int)(y:Rn):Prop:=zi2 Tryz.prog FEG1 (exX o r op s word) Tryz.f208 [ruP,i64,i64,i64,i64,u64] [ruP] (r.t,op,p,q,s,word) y.t
def yrv(r:Rn)(op p q s word:Int)(y:Rn):Prop:=zwc 0 r op p q s word y
def yrw(r:Rn)(op p q s word:Int)(y:Rn):Prop:=zwc 1 r op p q s word y
def yrx(r:Rn)(op p q s word:Int)(y:Rn):Prop:=zwc 2 r op p q s word y
def yry(r:Rn)(op p q s word:Int)(y:Rn):Prop:=zwc 3 r op p q s word y
def yrz(r:Rn)(op p q s word:Int)(y:Rn):Prop:=zwc 4 r op p q s word y
def yr0(r:Rn)(op p q s word:Int)(y:Rn):Prop:=zwc 5 r op p q s word y
def yr1(r:Rn)(op p q s word:Int)(y:Rn):Prop:=zwc 6 r op p q s word y
def yr2(r:Rn)(op p q s word:Int)(y:Rn):Prop:=zwc 7 r op p q s word y
def yr3(r:Rn)(op p q s word:Int)(y:Rn):Prop:=zwc 8 r op p q s word y
def yr4(r:Rn)(op p q s word:Int)(y:Rn):Prop:=zwc 9 r op p q s word y
def yj9(r:Rn)(op p q s word:Int)(y:Rn):Prop:=zwc 10 r op p q s word y
def yka(r:Rn)(op p q s word:Int)(y:Rn):Prop:=zwc 11 r op p q s word y
def ykb(r:Rn)(op p q s word:Int)(y:Rn):Prop:=zwc 12 r op p q s word y
def ykc(r:Rn)(op p q s word:Int)(y:Rn):Prop:=zwc 13 r op p q s word y
def ykd(r:Rn)(op p q s word:Int)(y:Rn):Prop:=zwc 14 r op p q s word y
def yke(r:Rn)(op p q s word:Int)(y:Rn):Prop:=zwc 15 r op p q s word y
set_option linter.unusedVariables false
set_option maxHeartbeats 20000000 in
theorem zc1 :
 let A0(a:Zx × Bool × Int × Rn):=a.1.2;
 let A1(a:Zx × Bool × Int × Rn):=a.2.2.2;
 let A2:=(0:Int)=0;
 let A3(a:Int):=IntKind.u64.wrap a;
 let A4(a b c:Prop):=a∧b∧c;
 let A5(a b c d e:Prop):=A4 a b (A4 c d e);
 let A6(a:Zx × Bool × Int × Rn):=(A0 a).2.2.2;
 let A7(a b c d e f g h i:Prop):=A5 a b c d (A5 e f g h i);
 let A8(a:Rn):=List.length a.2;
 let A9(a:Int × Int × Int × Int × Int):=a.2.2.1;
 let Aa(a:Rn):=List.length a.21;
 let Ab(a:Rn):=List.length a.1;
 let Ac:=(0:Nat)=0;
 let Ad(a b c d e f g h i j k l m n o p q:Prop):=A7 a b c d e f g h (A7 i j k l m n o p q);
 let Ae(a:Rn):=List.length a.18;
 let Af(a:Zx × Bool × Int × Rn):=A9 (A6 a);
 let Ah:=Value.slice none 0 0;
 let Ai(a:Zx × Bool × Int × Rn):=(A0 a).2.2.1;
 let Aj(a:Int × Int × Int × Int × Int):=a.2.2.2;
 let Ak(a:Rn):=List.length a.15;
 let Al(a:Rn):=List.length a.26;
 let Am(a:Int):=IntKind.i64.wrap a;
 let An(a:Bool):=a=false;
 let Ao(a:Zx × Bool × Int × Rn):=Af a+Ai a;
 let Ap:=An false;
 let Aq(a:Zx × Bool × Int × Rn):=(Aj (A6 a)).2;
 let Ar(a b c d e:Bool):=bif bif a then b else c then d else e;
 let Au(a:Zx × Bool × Int × Rn)(b:Int):=zas (A1 a) 2 (A3 (Ao a)) b;
 let Aw(a:Zx × Bool × Int × Rn):=zas (A1 a) 1 (A3 (Ao a)) (Aq a);
 let Ax(a:Zx × Bool × Int × Rn):=Au a 8;
 let Ay(a b c d e f g h i j:Prop)(k l:Rn)(m n o p q r:Prop):=Ad a b c Ac d Ac e f g h i j (k.8=l.8) m n o (Ad p (k.13=l.13) (k.14=l.14) Ac (Ak k=Ak l) q (k.17=l.17) Ac (Ae k=Ae l) (k.19=l.19) (k.20=l.20) Ac (Aa k =
  Aa l) (k.22=l.22) (k.23=l.23) (k.24=l.24) r);
 let Az(a:Int × Int × Int × Int × Int):=a.2.1;
 let AB(a:Zx × Bool × Int × Rn)(b:Int):=zb3 (A1 a) a.1.1 b;
 let AC(a:Zx × Bool × Int × Rn):=(Aw a).1;
 let AD(a:Int):=(0:Nat)+a.toNat;
 let AE(a b c:Prop)(d e:Rn):=Ad A2 (Ah=Ah) Ap Ap A2 Ap A2 Ac a Ac b c (d.4=e.4) (d.5=e.5) (d.6=e.6) (d.7=e.7) (Ad (d.8=e.8) (d.9=e.9) (d.10=e.10) (d.11=e.11) (d.12=e.12) (d.13=e.13) (d.14=e.14) Ac (Ak d=Ak
  e) (d.16=e.16) (d.17=e.17) Ac (Ae d=Ae e) (d.19=e.19) (d.20=e.20) Ac (Aa d=Aa e));
 let AF(a:Zx × Bool × Int × Rn)(b:Int):=AB a (A3 b);
 let AG(a:Int):=a≠0;
 let AH(a:Int):=decide (a≥128);
 let AI(a b:Int):=An (a==b);
 let AJ(a:Int × Int × Rn):=a.2.2;
 let AK(a:Zx × Bool × Int × Rn):=(Ax a).1;
 let AL(a:Zx × Bool × Int × Rn):=Au a (Aq a);
 let AM(a b:Rn):=A8 a=A8 b;
 let AN:=AG 8;
 let AO(a b:Rn):=Ab a=Ab b;
 let AP(a:Zx × Bool × Int × Rn):=(AL a).1;
 let AQ(a:Zx × Bool × Int × Rn)(b:Int):=zd1 (A1 a) 2 b;
 let AR(a b c d e f g h i j:Prop)(k l:Rn)(m n o p q r s t u:Prop)(v:Int)(w x y:Prop):=Ad a b c d e f Ac g h i Ac j (k.19=l.19) m Ac n (Ad o (k.23=l.23) (k.24=l.24) p Ac q r s t u (k.31=v) w x y (k.18=l.18) (k.21 =
  l.21) (k.26=l.26));
 let AS(a b:Int):=a=b.tmod 8;
 let AT(a b:Rn)(c:Prop):=Ad (a.25=b.25) Ac (Al a=Al b) (a.27=b.27) (a.28=b.28) (a.29=b.29) (a.30=b.30) (a.31=b.31) (Ah=Ah) (Ah=Ah) A2 A2 Ap Ap A2 A2 (Ad A2 A2 A2 A2 A2 A2 (Ah=Ah) A2 A2 (Ah=Ah) A2 A2 (Ah=Ah) Ap
  A2 A2 c);
 let AU(a:Zx × Bool × Int × Rn):=(Aj (A6 a)).1;
 let AV(a b:Int):=a=A3 b;
 let AW(a:Int):=a==13;
 let AX(a b c d e f g h i j k:Prop):=A4 a b (A7 c d e f g h i j k);
 let AY(a b c d e f g h i j:Prop)(k l:Rn)(m n o p q r s t:Prop)(u:By):=AR a b c d e f g h i j k l m n o p q r s t (k.30=l.30) l.31 (k.1=u) (k.2=l.2) (k.15=l.15);
 let AZ(a b c d e f g h i j:Prop)(k l:Rn)(m n o p q r s t:Prop):=AY a b c d e f g h i j k l m n o p q r s t l.1;
 let B0(a:Int):=a != 0;
 let B1(a:Zx × Bool × Int × Rn):=Az (A6 a);
 let B2(a:Zx × Bool × Int × Rn):=a.1.1;
 let B3(a:Int):=a≤(64:PmT [i64]);
 let B4(a b c d e f g h i j:Prop)(k:Zx × Bool × Int × Rn)(l:Rn)(m n o p q r:Prop):=Ay a b c d e f g h i j (A1 k) l m n o p q r;
 let B5(a:Zx × Bool × Int × Rn)(b:Rn):=AO (A1 a) b;
 let B6(a:Zx × Bool × Int × Rn):=AB a (Ai a);
 let B7(a:Zx × Bool × Int × Rn):=AF a (Ao a);
 let B8(a b:Rn):=a.3=b.3;
 let B9(a:Zx × Bool × Int × Rn)(b:Rn):=AM (A1 a) b;
 let Ba(a:Zx × Bool × Int × Rn):=AF a (Af a+AU a);
 let Bb(a b:Rn):=a.12=b.12;
 let Bc(a:Zx × Bool × Int × Rn):=(A1 a).4;
 let Bd(a:Int × Int × Rn):=zb3 (AJ a) a.1 a.2.1;
 let Be(a:Int × Int × Int × Int × Int):=(A9 a).tmod 4;
 let Bf(a b:Rn):=a.11=b.11;
 let Bg(a:Int)(b:Rn):=AD a<A8 b;
 let Bh(a:Int)(b:Rn):=(0:Int)≤a∧a<(↑(A8 b):Int);
 let Bi(a:Zx × Bool × Int × Rn):=zd1 (A1 a) (Am ((8:Int)+Bc a)) 0;
 let Bj(a b:Rn):=a.10=b.10;
 let Bk(a b c:Int)(d:Int × Int × Int × Int × Int)(e f:Int)(g:Prop)(h:Int)(i:Rn)(j:Prop)(k:Int × Int × Int × Int × Int→Prop):=(a=a∧AX (b=b) (c=c) (AS d.1 e) (AS (Az d) (Am (e.tdiv 8))) (AS (A9
  d) f) g (AV (Aj d).2 (Am ((4:Int)*h))) (i.1=i.1) (i.2=i.2) (i.15=i.15) j)∧k d;
 let Bl(a:Int)(b:Rn)(c:Int):=a=List.getD b.2 (AD c) (El.zero (Ty.i IntKind.u64::[]));
 let Bm(a b:Rn):=a.16=b.16;
 let Bn(a b c:Int)(d:Int × Int × Int × Int × Int)(e f:Int)(g:Rn)(h:Prop)(i:Int × Int × Int × Int × Int→Prop):=Bk a b c d e f (AV (Aj d).1 b) b g h i;
 let Bo(a b c:Int)(d:Int × Int × Int × Int × Int)(e f:Int)(g:Rn)(h:Prop)(i:Int × Int × Int × Int × Int→Prop):=Bk a b c d e f (AV (Aj d).1 (Am (b-256))) (Am (b-256)) g h i;
 let Bp(a b c:Prop)(d:Zx × Bool × Int × Rn)(e:Int × Int × Int × Int × Int)(f:Rn)(g:Int)(h:Prop):=Ad a b c ((A0 d).1=Az e) ((A0 d).2.1=A9 e) (Ai d=(Aj e).1) ((A6 d).1=(Aj e).2) (Bl (B1 d) f e.1)
  (Bl (Af d) f (Az e)) (Bl (AU d) f (A9 e)) (Aq d=Am (pw (Be e))) (d.2.2.1=f.3) (d.2.1=Ar (Ar (decide (g≥9)) (decide (g≤11)) false (f.4==0) false) true (Ar (g==12) true (AW g) (f.4
  != 2) false) true (bif AW g then decide ((A9 e)>2) else false)) ((A1 d).1=f.1) ((A1 d).2=f.2) ((A1 d).15=f.15) h;
 let Bq(a:Zx × Bool × Int × Rn):=zb3 (AC a) a.1.1 (zbq (zeo (AC a).1 (Aw a).2));
 let Br(a b:Rn):=a.6=b.6;
 let Bs(a b:Rn):=a.9=b.9;
 let Bt(a b:Rn):=a.26=b.26;
 let Bu(a b:Rn):=a.21=b.21;
 let Bv(a:Zx × Bool × Int × Rn)(b:Int):=AF a (Af a*pw (b.tmod 64));
 let Bw(a:Zx × Bool × Int × Rn):=Al (A1 a);
 let Bx(a:Int):=AI a 1;
 let Bz(a b:Rn):=a.7=b.7;
 let BA(a b:Rn):=a.18=b.18;
 let BB(a:Int):=AI a 2;
 let BC(a:Rn × Ps):=List.length a.2;
 let BD(a b:Prop)(c:Rn):=AE a b (B8 c c) c c;
 let BE(a b:Rn):=a.5=b.5;
 let BF(a b:Prop)(c:Zx × Bool × Int × Rn)(d:Rn):=AE a b (c.2.2.1=d.3) (A1 c) d;
 let BG(a b:Rn):=a.4=b.4;
 let BH(a:Bool):=a=true;
 let BI(a:Int):=AI a 3;
 let BJ(a:Int):=AI a 4;
 let BK(a:Zx × Bool × Int × Rn)(b:Rn):=Bc a=b.4;
 let BL(a:Int):=AI a 5;
 let BM(a b:Rn):=Al a=Al b;
 let BN(a b:Rn):=Ak a=Ak b;
 let BO(a b:Rn):=Ae a=Ae b;
 let BP(a b c d e f g h i j:Prop)(k:Rn)(l:Zx × Bool × Int × Rn)(m n o p q r s t:Prop):=AZ a b c d e f g h i j k (A1 l) m n o p q r s t;
 let BQ(a:Zx × Bool × Int × Rn)(b:Rn)(c:Prop):=AT (A1 a) b c;
 let BR(a b:Rn):=Aa a=Aa b;
 let BS(a:Zx × Bool × Int × Rn)(b:Rn):=BE (A1 a) b;
 let BT(a:Zx × Bool × Int × Rn)(b:Rn):=BA (A1 a) b;
 let BU(a:Zx × Bool × Int × Rn):=An a.2.1;
 let BV(a:Int × Int × Int × Int × Int→Prop)(b:Int × Int × Int × Int × Int)(c:Rn)(d:Prop):=a b→A7 (Bh b.1 c) (Bg b.1 c) (Bh (Az b) c) (Bg (Az b) c) (Bh (A9 b) c) (Bg (A9 b) c) (AG 4) (B3 (Be b))
  d;
 let BW(a:Zx × Bool × Int × Rn)(b:Rn):=Bz (A1 a) b;
 let BX(a:Int):=AI a 6;
 let BY(a:Zx × Bool × Int × Rn):=(Af a).tmod 65536;
 let BZ(a:Zx × Bool × Int × Rn)(b:Rn):=Bu (A1 a) b;
 let C0(a:Int):=AI a 7;
 let C1(a b:Int):=BH (a==b);
 let C2(a b:Rn):=a.22=b.22;
 let C3(a b:Rn):=a.25=b.25;
 let C4(a:Zx × Bool × Int × Rn)(b:Rn):=Bt (A1 a) b;
 let C5(a:Zx × Bool × Int × Rn)(b:Rn):=Bs (A1 a) b;
 let C6(a:Int):=AI a 8;
 let C7(a b:Rn):=a.28=b.28;
 let C8(a b:Rn):=a.29=b.29;
 let C9(a:Zx × Bool × Int × Rn)(b:Rn):=Br (A1 a) b;
 let Ca(a b:Rn):=a.20=b.20;
 let Cb(a:Zx × Bool × Int × Rn)(b:Rn):=Bm (A1 a) b;
 let Cc(a:Zx × Bool × Int × Rn)(b:Rn):=Bj (A1 a) b;
 let Cd(a b:Rn):=a.17=b.17;
 let Ce(a b:Rn):=a.27=b.27;
 let Cf(a:Zx × Bool × Int × Rn)(b:Rn):=AV (A1 a).3 (b.3+4);
 let Cg(a:Zx × Bool × Int × Rn)(b:Rn):=Bf (A1 a) b;
 let Ch(a:Int)(b c d:Prop):=((BH (AH a)→b)∧(An (AH a)→c))∧d;
 let Ci(a b:Rn):=a.14=b.14;
 let Cj(a:Zx × Bool × Int × Rn)(b:Rn):=Bb (A1 a) b;
 let Ck(a:Zx × Bool × Int × Rn):=B9 a (A1 a);
 let Cl(a:Int):=AI a 9;
 let Cm(a:Rn):=A8 a=8;
 let Cn(a:Int):=a<(8:i64.T);
 let Co(a:Int):=(0:i64.T)≤a;
 let Cp(a:Rn)(b:Zx × Bool × Int × Rn):=Al a=Bw b;
 let Cq(a b:Rn):=a.13=b.13;
 let Cr(a:Prop):=A5 AN AN AN AN a;
 let Cs(a:Zx × Bool × Int × Rn):=B5 a (A1 a);
 let Ct(a:Int):=AI a 10;
 let Cu(a:Zx × Bool × Int × Rn)(b:Int × Int × Int × Int × Int):=B2 a=b.1;
 let Cv(a b:Int)(c:Es)(d:Zx × Bool × Int × Rn):=zdg (a,b,c) (B0 (B2 d),B1 d,B0 (A0 d).1,BY d);
 let Cw(a:Rn)(b:Zx × Bool × Int × Rn):=C3 a (A1 b);
 let Cx(a b:Int)(c:Es)(d:Zx × Bool × Int × Rn):=(Cv a b c d).2;
 let Cy(a:Rn)(b:Zx × Bool × Int × Rn):=Aa a=Aa (A1 b);
 let Cz(a:Rn)(b:Zx × Bool × Int × Rn):=Ae a=Ae (A1 b);
 let CA(a:Rn)(b:Zx × Bool × Int × Rn):=Ak a=Ak (A1 b);
 let CB(a:Rn)(b:Zx × Bool × Int × Rn):=C2 a (A1 b);
 let CC(a:Zx × Bool × Int × Rn):=Aa (A1 a)=Aa (A1 a);
 let CD(a b c d e f:Prop)(g h:Rn)(i j k:Prop):=Ad a b c d e f Ac (AO g h) Ac (AM g h) i j (g.5=h.5) (Br g h) (Bz g h) (g.8=h.8) k;
 let CE(a:Rn)(b:Zx × Bool × Int × Rn):=Bf a (A1 b);
 let CF(a:Zx × Bool × Int × Rn):=Ae (A1 a)=Ae (A1 a);
 let CG(a b c d e f:Prop)(g h:Rn)(i j:Prop):=CD a b c d e f g h (B8 g h) i j;
 let CH(a:Rn)(b:Zx × Bool × Int × Rn):=Bb a (A1 b);
 let CI(a:Zx × Bool × Int × Rn):=Ak (A1 a)=Ak (A1 a);
 let CJ(a:Rn)(b:Zx × Bool × Int × Rn):=Cq a (A1 b);
 let CK(a:Rn)(b:Zx × Bool × Int × Rn):=Ci a (A1 b);
 let CL(a:Rn)(b:Zx × Bool × Int × Rn):=Cd a (A1 b);
 let CM(a:Rn)(b:Zx × Bool × Int × Rn):=Ca a (A1 b);
 let CN(a:Rn)(b:Zx × Bool × Int × Rn):=Bs a (A1 b);
 let CO(a:Prop)(b c:Rn)(d:Prop)(e f:Int)(g:Prop):=a→AX Ac (AO b c) Ac (AM b c) (B8 b c) d (BE b c) (Br b c) (Bz b c) (e=f) g;
 let CP(a:Rn)(b:Zx × Bool × Int × Rn):=Bm a (A1 b);
 let CQ(a:Rn)(b:Zx × Bool × Int × Rn):=Bj a (A1 b);
 let CR(a:Zx × Bool × Int × Rn):=Bw a=Bw a;
 let CS(a:Rn)(b:Zx × Bool × Int × Rn):=Ce a (A1 b);
 let CT(a b c d e:Prop)(f:Zx × Bool × Int × Rn)(g h:Rn)(i:Prop):=CG a b c d e (A7 (Cs f) (Ck f) (CI f) (CF f) (CC f) (Bw f=Bw f) (Cm (A1 f)) (Co (B2 f)) (Cn (B2 f))) g h (BG g h) i;
 let CU(a:Rn)(b:Zx × Bool × Int × Rn):=C8 a (A1 b);
 let CV(a:Rn)(b:Zx × Bool × Int × Rn):=C7 a (A1 b);
 let CW(a:Zx × Bool × Int × Rn)(b:Int)(c d e f g:Prop)(h i:Rn)(j:Prop):=AX (BU a) (Bx b) (BB b) (BI b) (BJ b) (BL b) (BX b) (C0 b) (C6 b) (Cl b) (CG (Ct b) (AI b 11) (AI b 12) (AI b
  13) c (d∧A5 e f g (CC a) (CR a)) h i (BG h i) j);
 let CX(a b:Prop)(c d:Rn)(e f:Prop):=A5 a b Ac (AO c d) (A7 Ac (AM c d) (B8 c d) e (BE c d) (Br c d) (Bz c d) (c.8=d.8) f);
 let CY(a b c d e f g h i:Prop)(j k:Int)(l:Prop)(m:Bool)(n:Prop)(o:Rn)(p:Zx × Bool × Int × Rn)(q:Prop):=A5 a b c d (A7 e f g h i (C1 j k) l (BH m→n) (CO (An m) o (A1 p) (o.4=Bc p) o.8 (A1 p).8 q));
 let CZ(a b:Int)(c:Prop):=a=b∧c;
 let D0(a:Int)(b c:Prop):=CZ a a b∧c;
 let D1(a:Prop)(b:Rn)(c:Int)(d e:Rn)(f:Prop):=CX a (A7 (AO b b) (AM b b) (BN b b) (BO b b) (BR b b) (BM b b) (Cm b) (Co c) (Cn c)) d e (BG d e) f;
 let D2(a b:Prop)(c d:Int)(e:Zx × Bool × Int × Rn)(f g:Rn)(h:Prop):=A4 a b (CX (C1 c d) (A7 (Cs e) (Ck e) (CI e) (CF e) (CC e) (CR e) (Cm (A1 e)) (Co (B2 e)) (Cn (B2 e))) f g (BG f g) h);
 let D3(a:Zx × Bool × Int × Rn):=(A1 a).15;
 let D4(a:Zx × Bool × Int × Rn):=(Ax a).2;
 let D5(a:Zx × Bool × Int × Rn):=(AK a).1;
 let D6:=Ah=Ah;
 let D7(a:Zx × Bool × Int × Rn):=(A1 a).20;
 let D8(a:Rn)(b:Zx × Bool × Int × Rn):=a.4=Bc b;
 let D9(a:Zx × Bool × Int × Rn):=(A1 a).19;
 let Da(a:Zx × Bool × Int × Rn):=(A1 a).17;
 let Db(a b:Rn)(c:Prop):=CO (BH (B0 a.24)) b a (BG b a) b.8 a.8 c;
 let Dc(a:Zx × Bool × Int × Rn):=(A1 a).16;
 let Dd(a:Zx × Bool × Int × Rn):=(A1 a).14;
 let De(a:Int)(b:Prop)(c:Zx × Bool × Int × Rn)(d e f g:Prop):=D0 a b (A7 (BU c) (Bx a) (BB a) (BI a) (BJ a) d e f g);
 let Df(a:Zx × Bool × Int × Rn):=zce (B1 a) (Aq a).toNat;
 let Dg(a:Zx × Bool × Int × Rn):=(A1 a).13;
 let Dh(a:Zx × Bool × Int × Rn):=(A1 a).21;
 let Di(a:Zx × Bool × Int × Rn):=(A1 a).18;
 let Dj(a:Int)(b:Prop)(c:Zx × Bool × Int × Rn)(d:Prop):=A7 (CZ a a b) (BU c) (Bx a) (BB a) (BI a) (BJ a) (BL a) (BX a) d;
 let Dk(a:Rn)(b:By)(c:Ps)(d:By):=Ab a=List.length (zii b c d);
 let Dl(a:Zx × Bool × Int × Rn):=zbq (zeo (D5 a) (Ax a).2);
 let Dm(a:Zx × Bool × Int × Rn):=A4 (Cs a) (Ck a) (A5 (CI a) (CF a) (CC a) (CR a) (zee (A1 a) (A3 (Ao a)) (Aq a)));
 let Dn(a:Rn)(b:Zx × Bool × Int × Rn):=a.30=B0 (A0 b).1;
 let Do(a:Rn)(b:Nat)(c:Prop)(d:Ps)(e:Int)(f:Prop):=A5 (AO a a) (b=b) c ((↑(zd9 d):Int)=e) f;
 let Dp(a:Zx × Bool × Int × Rn):=zce (A3 (Dl a+AU a)) (8:Int).toNat;
 let Dq(a:Prop)(b c:Int)(d:Es)(e:Zx × Bool × Int × Rn):=A4 a (TlR (b,c,d)) (U64 (B1 e));
 let Dr(a b:Int)(c:Es)(d:Zx × Bool × Int × Rn):=List.length (Cx a b c d).2;
 let Ds(a:Rn)(b:Zx × Bool × Int × Rn):=a.8=(A1 b).8;
 let Dt(a b c:Int)(d:Es)(e:Zx × Bool × Int × Rn):=a=(Cv b c d e).1;
 (∀(r:Rn)(op p q s word:Int)(y:Rn),yrv r op p q s word y=(Cr (∃(x0:Int × Int × Int × Int × Int→Prop),Ch s (∃(x1:Int × Int × Int × Int × Int),Bo op s word x1 p q r (Ay (BA r r) (Bu r r) (Bt r r) (AO r
  r) (AM r r) (B8 r r) (BG r r) (BE r r) (Br r r) (Bz r r) r r (Bs r r) (Bj r r) (Bf r r) (Bb r r) (Bm r r) (AT r r (BD (AO r r) (AM r r) r))) x0) (∃(x2:Int × Int × Int × Int × Int),Bn op s word x2 p q r (Ay
  (BA r r) (Bu r r) (Bt r r) (AO r r) (AM r r) (B8 r r) (BG r r) (BE r r) (Br r r) (Bz r r) r r (Bs r r) (Bj r r) (Bf r r) (Bb r r) (Bm r r) (AT r r (BD (AO r r) (AM r r) r))) x0) (∀(x3:Int × Int × Int × Int ×
  Int),BV x0 x3 r (∃(x4:Zx × Bool × Int × Rn),D0 op (Bp (s=s) (word=word) (Cu x4 x3) x4 x3 r op (B4 (BT x4 r) (BZ x4 r) (C4 x4 r) (B5 x4 r) (B9 x4 r) (Cf x4 r) (BK x4 r) (BS x4 r) (C9 x4 r)
  (BW x4 r) x4 r (C5 x4 r) (Cc x4 r) (Cg x4 r) (Cj x4 r) (Cb x4 r) (BQ x4 r (BF (B5 x4 r) (B9 x4 r) x4 r)))) (CX (BH x4.2.1) (Cs x4∧A5 (Ck x4) (CI x4) (CF x4) (CC x4) (CR x4)) y (AQ
  x4 word) (BG y (AQ x4 word)) (AZ (Bs y (AQ x4 word)) (Bj y (AQ x4 word)) (Bf y (AQ x4 word)) (Bb y (AQ x4 word)) (Cq y (AQ x4 word)) (Ci y (AQ x4 word)) (BN y (AQ x4 word)) (Bm y (AQ x4 word)) (Cd y (AQ x4
  word)) (BO y (AQ x4 word)) y (AQ x4 word) (Ca y (AQ x4 word)) (BR y (AQ x4 word)) (C2 y (AQ x4 word)) (C3 y (AQ x4 word)) (BM y (AQ x4 word)) (Ce y (AQ x4 word)) (C7 y (AQ x4 word)) (C8 y (AQ x4 word))))))))) ∧
  (∀(r:Rn)(op p q s word:Int)(y:Rn),yrw r op p q s word y=(Cr (∃(x0:Int × Int × Int × Int × Int→Prop),Ch s (∃(x1:Int × Int × Int × Int × Int),Bo op s word x1 p q r (Ay (BA r r) (Bu r r) (Bt r r) (AO r
  r) (AM r r) (B8 r r) (BG r r) (BE r r) (Br r r) (Bz r r) r r (Bs r r) (Bj r r) (Bf r r) (Bb r r) (Bm r r) (AT r r (BD (AO r r) (AM r r) r))) x0) (∃(x2:Int × Int × Int × Int × Int),Bn op s word x2 p q r (Ay
  (BA r r) (Bu r r) (Bt r r) (AO r r) (AM r r) (B8 r r) (BG r r) (BE r r) (Br r r) (Bz r r) r r (Bs r r) (Bj r r) (Bf r r) (Bb r r) (Bm r r) (AT r r (BD (AO r r) (AM r r) r))) x0) (∀(x3:Int × Int × Int × Int ×
  Int),BV x0 x3 r (∃(x4:Zx × Bool × Int × Rn),D2 (CZ op op (Bp (s=s) (word=word) (Cu x4 x3) x4 x3 r op (B4 (BT x4 r) (BZ x4 r) (C4 x4 r) (B5 x4 r) (B9 x4 r) (Cf x4 r) (BK x4 r) (BS x4 r)
  (C9 x4 r) (BW x4 r) x4 r (C5 x4 r) (Cc x4 r) (Cg x4 r) (Cj x4 r) (Cb x4 r) (BQ x4 r (BF (B5 x4 r) (B9 x4 r) x4 r))))) (BU x4) op 1 x4 y (B6 x4) (AZ (Bs y (B6 x4)) (Bj y (B6 x4))
  (Bf y (B6 x4)) (Bb y (B6 x4)) (Cq y (B6 x4)) (Ci y (B6 x4)) (BN y (B6 x4)) (Bm y (B6 x4)) (Cd y (B6 x4)) (BO y (B6 x4)) y (B6 x4) (Ca y (B6 x4)) (BR y (B6 x4)) (C2 y (B6 x4)) (C3 y
  (B6 x4)) (BM y (B6 x4)) (Ce y (B6 x4)) (C7 y (B6 x4)) (C8 y (B6 x4))))))))∧(∀(r:Rn)(op p q s word:Int)(y:Rn),yrx r op p q s word y=(Cr (∃(x0:Int × Int × Int × Int × Int→Prop),Ch s (∃(x1 :
  Int × Int × Int × Int × Int),Bo op s word x1 p q r (Ay (BA r r) (Bu r r) (Bt r r) (AO r r) (AM r r) (B8 r r) (BG r r) (BE r r) (Br r r) (Bz r r) r r (Bs r r) (Bj r r) (Bf r r) (Bb r r) (Bm r r) (AT r r (BD
  (AO r r) (AM r r) r))) x0) (∃(x2:Int × Int × Int × Int × Int),Bn op s word x2 p q r (Ay (BA r r) (Bu r r) (Bt r r) (AO r r) (AM r r) (B8 r r) (BG r r) (BE r r) (Br r r) (Bz r r) r r (Bs r r) (Bj r r) (Bf r r)
  (Bb r r) (Bm r r) (AT r r (BD (AO r r) (AM r r) r))) x0) (∀(x3:Int × Int × Int × Int × Int),BV x0 x3 r (∃(x4:Zx × Bool × Int × Rn),D0 op (Bp (s=s) (word=word) (Cu x4 x3) x4 x3 r op (B4 (BT x4 r) (BZ
  x4 r) (C4 x4 r) (B5 x4 r) (B9 x4 r) (Cf x4 r) (BK x4 r) (BS x4 r) (C9 x4 r) (BW x4 r) x4 r (C5 x4 r) (Cc x4 r) (Cg x4 r) (Cj x4 r) (Cb x4 r) (BQ x4 r (BF (B5 x4 r) (B9 x4 r) x4 r))))
  (D2 (BU x4) (Bx op) op 2 x4 y (Ba x4) (AZ (Bs y (Ba x4)) (Bj y (Ba x4)) (Bf y (Ba x4)) (Bb y (Ba x4)) (Cq y (Ba x4)) (Ci y (Ba x4)) (BN y (Ba x4)) (Bm y (Ba x4)) (Cd y (Ba x4))
  (BO y (Ba x4)) y (Ba x4) (Ca y (Ba x4)) (BR y (Ba x4)) (C2 y (Ba x4)) (C3 y (Ba x4)) (BM y (Ba x4)) (Ce y (Ba x4)) (C7 y (Ba x4)) (C8 y (Ba x4)))))))))∧(∀(r:Rn)(op p q s word:Int) (y :
  Rn),yry r op p q s word y=(Cr (∃(x0:Int × Int × Int × Int × Int→Prop),Ch s (∃(x1:Int × Int × Int × Int × Int),Bo op s word x1 p q r (Ay (BA r r) (Bu r r) (Bt r r) (AO r r) (AM r r) (B8 r r) (BG r r) (BE
  r r) (Br r r) (Bz r r) r r (Bs r r) (Bj r r) (Bf r r) (Bb r r) (Bm r r) (AT r r (BD (AO r r) (AM r r) r))) x0) (∃(x2:Int × Int × Int × Int × Int),Bn op s word x2 p q r (Ay (BA r r) (Bu r r) (Bt r r) (AO r r)
  (AM r r) (B8 r r) (BG r r) (BE r r) (Br r r) (Bz r r) r r (Bs r r) (Bj r r) (Bf r r) (Bb r r) (Bm r r) (AT r r (BD (AO r r) (AM r r) r))) x0) (∀(x3:Int × Int × Int × Int × Int),BV x0 x3 r (∃(x4:Zx × Bool
  × Int × Rn),CT (CZ op op (Bp (s=s) (word=word) (Cu x4 x3) x4 x3 r op (B4 (BT x4 r) (BZ x4 r) (C4 x4 r) (B5 x4 r) (B9 x4 r) (Cf x4 r) (BK x4 r) (BS x4 r) (C9 x4 r) (BW x4 r) x4 r (C5 x4 r)
  (Cc x4 r) (Cg x4 r) (Cj x4 r) (Cb x4 r) (BQ x4 r (BF (B5 x4 r) (B9 x4 r) x4 r))))) (BU x4) (Bx op) (BB op) (C1 op 3) x4 y (B7 x4) (AZ (Bs y (B7 x4)) (Bj y (B7 x4)) (Bf y (B7 x4))
  (Bb y (B7 x4)) (Cq y (B7 x4)) (Ci y (B7 x4)) (BN y (B7 x4)) (Bm y (B7 x4)) (Cd y (B7 x4)) (BO y (B7 x4)) y (B7 x4) (Ca y (B7 x4)) (BR y (B7 x4)) (C2 y (B7 x4)) (C3 y (B7 x4)) (BM y
  (B7 x4)) (Ce y (B7 x4)) (C7 y (B7 x4)) (C8 y (B7 x4))))))))∧(∀(r:Rn)(op p q s word:Int)(y:Rn),yrz r op p q s word y=(Cr (∃(x0:Int × Int × Int × Int × Int→Prop),Ch s (∃(x1:Int × Int × Int ×
  Int × Int),Bo op s word x1 p q r (Ay (BA r r) (Bu r r) (Bt r r) (AO r r) (AM r r) (B8 r r) (BG r r) (BE r r) (Br r r) (Bz r r) r r (Bs r r) (Bj r r) (Bf r r) (Bb r r) (Bm r r) (AT r r (BD (AO r r) (AM r r)
  r))) x0) (∃(x2:Int × Int × Int × Int × Int),Bn op s word x2 p q r (Ay (BA r r) (Bu r r) (Bt r r) (AO r r) (AM r r) (B8 r r) (BG r r) (BE r r) (Br r r) (Bz r r) r r (Bs r r) (Bj r r) (Bf r r) (Bb r r) (Bm r
  r) (AT r r (BD (AO r r) (AM r r) r))) x0) (∀(x3:Int × Int × Int × Int × Int),BV x0 x3 r (∃(x4:Zx × Bool × Int × Rn),D0 op (Bp (s=s) (word=word) (Cu x4 x3) x4 x3 r op (B4 (BT x4 r) (BZ x4 r) (C4 x4
  r) (B5 x4 r) (B9 x4 r) (Cf x4 r) (BK x4 r) (BS x4 r) (C9 x4 r) (BW x4 r) x4 r (C5 x4 r) (Cc x4 r) (Cg x4 r) (Cj x4 r) (Cb x4 r) (BQ x4 r (BF (B5 x4 r) (B9 x4 r) x4 r)))) (A4 (BU x4) (Bx
  op) (CT (BB op) (BI op) (C1 op 4) (AG 64) (B3 (s.tmod 64)) x4 y (Bv x4 s) (AZ (Bs y (Bv x4 s)) (Bj y (Bv x4 s)) (Bf y (Bv x4 s)) (Bb y (Bv x4 s)) (Cq y (Bv x4 s)) (Ci y (Bv
  x4 s)) (BN y (Bv x4 s)) (Bm y (Bv x4 s)) (Cd y (Bv x4 s)) (BO y (Bv x4 s)) y (Bv x4 s) (Ca y (Bv x4 s)) (BR y (Bv x4 s)) (C2 y (Bv x4 s)) (C3 y (Bv x4 s)) (BM y (Bv x4 s)) (Ce y (Bv x4
  s)) (C7 y (Bv x4 s)) (C8 y (Bv x4 s))))))))))∧(∀(r:Rn)(op p q s word:Int)(y:Rn),yr0 r op p q s word y=(Cr (∃(x0:Int × Int × Int × Int × Int→Prop),Ch s (∃(x1:Int × Int × Int × Int × Int),Bo op s
  word x1 p q r (Ay (BA r r) (Bu r r) (Bt r r) (AO r r) (AM r r) (B8 r r) (BG r r) (BE r r) (Br r r) (Bz r r) r r (Bs r r) (Bj r r) (Bf r r) (Bb r r) (Bm r r) (AT r r (BD (AO r r) (AM r r) r))) x0) (∃(x2:Int
  × Int × Int × Int × Int),Bn op s word x2 p q r (Ay (BA r r) (Bu r r) (Bt r r) (AO r r) (AM r r) (B8 r r) (BG r r) (BE r r) (Br r r) (Bz r r) r r (Bs r r) (Bj r r) (Bf r r) (Bb r r) (Bm r r) (AT r r (BD (AO r
  r) (AM r r) r))) x0) (∀(x3:Int × Int × Int × Int × Int),BV x0 x3 r (∃(x4:Zx × Bool × Int × Rn),De op (Bp (s=s) (word=word) (Cu x4 x3) x4 x3 r op (B4 (BT x4 r) (BZ x4 r) (C4 x4 r) (B5 x4 r) (B9
  x4 r) (Cf x4 r) (BK x4 r) (BS x4 r) (C9 x4 r) (BW x4 r) x4 r (C5 x4 r) (Cc x4 r) (Cg x4 r) (Cj x4 r) (Cb x4 r) (BQ x4 r (BF (B5 x4 r) (B9 x4 r) x4 r)))) x4 (C1 op 5) (Dm x4) (Db
  (AC x4) y (AZ (Bs y (AC x4)) (Bj y (AC x4)) (Bf y (AC x4)) (Bb y (AC x4)) (Cq y (AC x4)) (Ci y (AC x4)) (BN y (AC x4)) (Bm y (AC x4)) (Cd y (AC x4)) (BO y (AC x4)) y (AC x4) (Ca y (AC x4)) (BR y (AC
  x4)) (C2 y (AC x4)) (C3 y (AC x4)) (BM y (AC x4)) (Ce y (AC x4)) (C7 y (AC x4)) (C8 y (AC x4)))) (An (B0 (AC x4).24)→D1 (AO (AC x4) (AC x4)∧A4 (BC (Aw x4)=BC (Aw x4)) (zaj (AC x4).1) (PsR (Ab (AC
  x4)) (Aw x4).2)) (AC x4) (B2 x4) y (Bq x4) (AZ (Bs y (Bq x4)) (Bj y (Bq x4)) (Bf y (Bq x4)) (Bb y (Bq x4)) (Cq y (Bq x4)) (Ci y (Bq x4)) (BN y (Bq x4)) (Bm y (Bq x4)) (Cd y (Bq x4))
  (BO y (Bq x4)) y (Bq x4) (Ca y (Bq x4)) (BR y (Bq x4)) (C2 y (Bq x4)) (C3 y (Bq x4)) (BM y (Bq x4)) (Ce y (Bq x4)) (C7 y (Bq x4)) (C8 y (Bq x4)))))))))∧(∀(r:Rn)(op p q s word:Int) (y :
  Rn),yr1 r op p q s word y=(Cr (∃(x0:Int × Int × Int × Int × Int→Prop),Ch s (∃(x1:Int × Int × Int × Int × Int),Bo op s word x1 p q r (Ay (BA r r) (Bu r r) (Bt r r) (AO r r) (AM r r) (B8 r r) (BG r r) (BE
  r r) (Br r r) (Bz r r) r r (Bs r r) (Bj r r) (Bf r r) (Bb r r) (Bm r r) (AT r r (BD (AO r r) (AM r r) r))) x0) (∃(x2:Int × Int × Int × Int × Int),Bn op s word x2 p q r (Ay (BA r r) (Bu r r) (Bt r r) (AO r r)
  (AM r r) (B8 r r) (BG r r) (BE r r) (Br r r) (Bz r r) r r (Bs r r) (Bj r r) (Bf r r) (Bb r r) (Bm r r) (AT r r (BD (AO r r) (AM r r) r))) x0) (∀(x3:Int × Int × Int × Int × Int),BV x0 x3 r (∃(x4:Zx × Bool
  × Int × Rn),AX (CZ op op (Bp (s=s) (word=word) (Cu x4 x3) x4 x3 r op (B4 (BT x4 r) (BZ x4 r) (C4 x4 r) (B5 x4 r) (B9 x4 r) (Cf x4 r) (BK x4 r) (BS x4 r) (C9 x4 r) (BW x4 r) x4 r (C5 x4 r)
  (Cc x4 r) (Cg x4 r) (Cj x4 r) (Cb x4 r) (BQ x4 r (BF (B5 x4 r) (B9 x4 r) x4 r))))) (BU x4) (Bx op) (BB op) (BI op) (BJ op) (BL op) (C1 op 6) (Dm x4) (C1 (AP x4).24 0→Do (AP
  x4) (BC (AL x4)) (PsR (Ab (AP x4)) (AL x4).2) (AL x4).2 (Aq x4) (U64 (B1 x4))∧AX Ac (Dk y (AP x4).1 (AL x4).2 (Df x4)) Ac (AM y (AP x4)) (B8 y (AP x4)) (BG y (AP x4)) (BE y (AP x4)) (Br y (AP x4))
  (Bz y (AP x4)) (y.8=(AP x4).8) (AY (Bs y (AP x4)) (Bj y (AP x4)) (Bf y (AP x4)) (Bb y (AP x4)) (Cq y (AP x4)) (Ci y (AP x4)) (BN y (AP x4)) (Bm y (AP x4)) (Cd y (AP x4)) (BO y (AP x4)) y (AP x4) (Ca y
  (AP x4)) (BR y (AP x4)) (C2 y (AP x4)) (C3 y (AP x4)) (BM y (AP x4)) (Ce y (AP x4)) (C7 y (AP x4)) (C8 y (AP x4)) (zii (AP x4).1 (AL x4).2 (Df x4)))) (CO (AI (AP x4).24 0) y (AP x4) (BG y (AP
  x4)) y.8 (AP x4).8 (AZ (Bs y (AP x4)) (Bj y (AP x4)) (Bf y (AP x4)) (Bb y (AP x4)) (Cq y (AP x4)) (Ci y (AP x4)) (BN y (AP x4)) (Bm y (AP x4)) (Cd y (AP x4)) (BO y (AP x4)) y (AP x4) (Ca y (AP x4)) (BR
  y (AP x4)) (C2 y (AP x4)) (C3 y (AP x4)) (BM y (AP x4)) (Ce y (AP x4)) (C7 y (AP x4)) (C8 y (AP x4)))))))))∧(∀(r:Rn)(op p q s word:Int)(y:Rn),yr2 r op p q s word y=(Cr (∃(x0:Int × Int × Int × Int ×
  Int→Prop),Ch s (∃(x1:Int × Int × Int × Int × Int),Bo op s word x1 p q r (Ay (BA r r) (Bu r r) (Bt r r) (AO r r) (AM r r) (B8 r r) (BG r r) (BE r r) (Br r r) (Bz r r) r r (Bs r r) (Bj r r) (Bf r r) (Bb r
  r) (Bm r r) (AT r r (BD (AO r r) (AM r r) r))) x0) (∃(x2:Int × Int × Int × Int × Int),Bn op s word x2 p q r (Ay (BA r r) (Bu r r) (Bt r r) (AO r r) (AM r r) (B8 r r) (BG r r) (BE r r) (Br r r) (Bz r r) r r (Bs
  r r) (Bj r r) (Bf r r) (Bb r r) (Bm r r) (AT r r (BD (AO r r) (AM r r) r))) x0) (∀(x3:Int × Int × Int × Int × Int),BV x0 x3 r (∃(x4:Zx × Bool × Int × Rn),D0 op (Bp (s=s) (word=word) (Cu x4 x3) x4 x3 r
  op (B4 (BT x4 r) (BZ x4 r) (C4 x4 r) (B5 x4 r) (B9 x4 r) (Cf x4 r) (BK x4 r) (BS x4 r) (C9 x4 r) (BW x4 r) x4 r (C5 x4 r) (Cc x4 r) (Cg x4 r) (Cj x4 r) (Cb x4 r) (BQ x4 r (BF (B5 x4 r)
  (B9 x4 r) x4 r)))) (AX (BU x4) (Bx op) (BB op) (BI op) (BJ op) (BL op) (BX op) (C1 op 7) (A4 (Cs x4) (Ck x4) (A5 (CI x4) (CF x4) (CC x4) (CR x4) (zee (A1 x4) (A3 (Ao x4)) 8)))
  (Db (AK x4) y (AZ (Bs y (AK x4)) (Bj y (AK x4)) (Bf y (AK x4)) (Bb y (AK x4)) (Cq y (AK x4)) (Ci y (AK x4)) (BN y (AK x4)) (Bm y (AK x4)) (Cd y (AK x4)) (BO y (AK x4)) y (AK x4) (Ca y (AK x4)) (BR y
  (AK x4)) (C2 y (AK x4)) (C3 y (AK x4)) (BM y (AK x4)) (Ce y (AK x4)) (C7 y (AK x4)) (C8 y (AK x4)))) (An (B0 (AK x4).24)→A4 (AO (AK x4) (AK x4)∧A4 (BC (Ax x4)=BC (Ax x4)) (zaj (D5 x4)) (PsR (Ab (AK
  x4)) (D4 x4))) (Do (AK x4) (BC (Ax x4)) (PsR (Ab (AK x4)) (D4 x4)) (D4 x4) 8 (U64 (A3 (Dl x4+AU x4)))) (∃(x5:Int × Int × Rn),D1 (CZ x5.1 (B2 x4) (AX (x5.2.1=Dl x4) D6 D6 A2 A2 Ap
  Ap A2 A2 A2 (Ad A2 A2 A2 A2 A2 D6 A2 A2 D6 A2 A2 D6 Ap A2 A2 A2 (Ad D6 Ap Ap A2 Ap A2 Ac (Dk (AJ x5) (D5 x4) (D4 x4) (Dp x4)) Ac (AM (AJ x5) (AK x4)) ((AJ x5).3=(AK x4).3) (BG (AJ x5) (AK x4)) (BE (AJ x5)
  (AK x4)) (Br (AJ x5) (AK x4)) (Bz (AJ x5) (AK x4)) ((AJ x5).8=(AK x4).8) (AY (Bs (AJ x5) (AK x4)) (Bj (AJ x5) (AK x4)) (Bf (AJ x5) (AK x4)) (Bb (AJ x5) (AK x4)) (Cq (AJ x5) (AK x4)) (Ci (AJ x5) (AK x4))
  (BN (AJ x5) (AK x4)) (Bm (AJ x5) (AK x4)) (Cd (AJ x5) (AK x4)) (BO (AJ x5) (AK x4)) (AJ x5) (AK x4) (Ca (AJ x5) (AK x4)) (BR (AJ x5) (AK x4)) (C2 (AJ x5) (AK x4)) (C3 (AJ x5) (AK x4)) (BM (AJ x5) (AK
  x4)) (Ce (AJ x5) (AK x4)) (C7 (AJ x5) (AK x4)) (C8 (AJ x5) (AK x4)) (zii (D5 x4) (D4 x4) (Dp x4))))))) (AJ x5) x5.1 y (Bd x5) (AZ (Bs y (Bd x5)) (Bj y (Bd x5)) (Bf y (Bd x5)) (Bb y (Bd x5))
  (Cq y (Bd x5)) (Ci y (Bd x5)) (BN y (Bd x5)) (Bm y (Bd x5)) (Cd y (Bd x5)) (BO y (Bd x5)) y (Bd x5) (Ca y (Bd x5)) (BR y (Bd x5)) (C2 y (Bd x5)) (C3 y (Bd x5)) (BM y (Bd x5)) (Ce y
  (Bd x5)) (C7 y (Bd x5)) (C8 y (Bd x5)))))))))))∧(∀(r:Rn)(op p q s word:Int)(y:Rn),yr3 r op p q s word y=(Cr (∃(x0:Int × Int × Int × Int × Int→Prop),Ch s (∃(x1:Int × Int × Int × Int × Int),Bo
  op s word x1 p q r (Ay (BA r r) (Bu r r) (Bt r r) (AO r r) (AM r r) (B8 r r) (BG r r) (BE r r) (Br r r) (Bz r r) r r (Bs r r) (Bj r r) (Bf r r) (Bb r r) (Bm r r) (AT r r (BD (AO r r) (AM r r) r))) x0) (∃(x2 :
  Int × Int × Int × Int × Int),Bn op s word x2 p q r (Ay (BA r r) (Bu r r) (Bt r r) (AO r r) (AM r r) (B8 r r) (BG r r) (BE r r) (Br r r) (Bz r r) r r (Bs r r) (Bj r r) (Bf r r) (Bb r r) (Bm r r) (AT r r (BD
  (AO r r) (AM r r) r))) x0) (∀(x3:Int × Int × Int × Int × Int),BV x0 x3 r (∃(x4:Zx × Bool × Int × Rn),D0 op (Bp (s=s) (word=word) (Cu x4 x3) x4 x3 r op (B4 (BT x4 r) (BZ x4 r) (C4 x4 r) (B5 x4 r)
  (B9 x4 r) (Cf x4 r) (BK x4 r) (BS x4 r) (C9 x4 r) (BW x4 r) x4 r (C5 x4 r) (Cc x4 r) (Cg x4 r) (Cj x4 r) (Cb x4 r) (BQ x4 r (BF (B5 x4 r) (B9 x4 r) x4 r)))) (AX (BU x4) (Bx op) (BB op)
  (BI op) (BJ op) (BL op) (BX op) (C0 op) (C1 op 8) (BH (B1 x4 != Af x4)→AX Ac (AO y (A1 x4)) Ac (AM y (A1 x4)) (AV y.3 (x4.2.2.1+(A6 x4).1)) (D8 y x4) (BE y (A1 x4)) (Br y (A1 x4)) (Bz y
  (A1 x4)) (Ds y x4) (BP (CN y x4) (CQ y x4) (CE y x4) (CH y x4) (CJ y x4) (CK y x4) (CA y x4) (CP y x4) (CL y x4) (Cz y x4) y x4 (CM y x4) (Cy y x4) (CB y x4) (Cw y x4) (Cp y x4) (CS y
  x4) (CV y x4) (CU y x4))) (CO (An (B1 x4 != Af x4)) y (A1 x4) (D8 y x4) y.8 (A1 x4).8 (BP (CN y x4) (CQ y x4) (CE y x4) (CH y x4) (CJ y x4) (CK y x4) (CA y x4) (CP y x4) (CL y x4) (Cz y x4)
  y x4 (CM y x4) (Cy y x4) (CB y x4) (Cw y x4) (Cp y x4) (CS y x4) (CV y x4) (CU y x4)))))))))∧(∀(r:Rn)(op p q s word:Int)(y:Rn),yr4 r op p q s word y=(Cr (∃(x0:Int × Int × Int × Int × Int →
  Prop),Ch s (∃(x1:Int × Int × Int × Int × Int),Bo op s word x1 p q r (Ay (BA r r) (Bu r r) (Bt r r) (AO r r) (AM r r) (B8 r r) (BG r r) (BE r r) (Br r r) (Bz r r) r r (Bs r r) (Bj r r) (Bf r r) (Bb r r)
  (Bm r r) (AT r r (BD (AO r r) (AM r r) r))) x0) (∃(x2:Int × Int × Int × Int × Int),Bn op s word x2 p q r (Ay (BA r r) (Bu r r) (Bt r r) (AO r r) (AM r r) (B8 r r) (BG r r) (BE r r) (Br r r) (Bz r r) r r (Bs r
  r) (Bj r r) (Bf r r) (Bb r r) (Bm r r) (AT r r (BD (AO r r) (AM r r) r))) x0) (∀(x3:Int × Int × Int × Int × Int),BV x0 x3 r (∃(x4:Zx × Bool × Int × Rn),D0 op (Bp (s=s) (word=word) (Cu x4 x3) x4 x3 r op
  (B4 (BT x4 r) (BZ x4 r) (C4 x4 r) (B5 x4 r) (B9 x4 r) (Cf x4 r) (BK x4 r) (BS x4 r) (C9 x4 r) (BW x4 r) x4 r (C5 x4 r) (Cc x4 r) (Cg x4 r) (Cj x4 r) (Cb x4 r) (BQ x4 r (BF (B5 x4 r)
  (B9 x4 r) x4 r)))) (CY (BU x4) (Bx op) (BB op) (BI op) (BJ op) (BL op) (BX op) (C0 op) (C6 op) op 9 (U64 (B1 x4)) (zbu (B1 x4)) (AX Ac (AO y (A1 x4)) Ac (AM y (A1 x4)) (B8 y (A1 x4)) (D8 y
  x4) (BE y (A1 x4)) (Br y (A1 x4)) (y.7=B1 x4) (Ds y x4) (BP (CN y x4) (CQ y x4) (CE y x4) (CH y x4) (CJ y x4) (CK y x4) (CA y x4) (CP y x4) (CL y x4) (Cz y x4) y x4 (CM y x4) (Cy y x4)
  (CB y x4) (Cw y x4) (Cp y x4) (CS y x4) (CV y x4) (CU y x4))) y x4 (BP (CN y x4) (CQ y x4) (CE y x4) (CH y x4) (CJ y x4) (CK y x4) (CA y x4) (CP y x4) (CL y x4) (Cz y x4) y x4 (CM y x4)
  (Cy y x4) (CB y x4) (Cw y x4) (Cp y x4) (CS y x4) (CV y x4) (CU y x4))))))))∧(∀(r:Rn)(op p q s word:Int)(y:Rn),yj9 r op p q s word y=(Cr (∃(x0:Int × Int × Int × Int × Int→Prop),Ch s (∃(x1
  : Int × Int × Int × Int × Int),Bo op s word x1 p q r (Ay (BA r r) (Bu r r) (Bt r r) (AO r r) (AM r r) (B8 r r) (BG r r) (BE r r) (Br r r) (Bz r r) r r (Bs r r) (Bj r r) (Bf r r) (Bb r r) (Bm r r) (AT r r (BD
  (AO r r) (AM r r) r))) x0) (∃(x2:Int × Int × Int × Int × Int),Bn op s word x2 p q r (Ay (BA r r) (Bu r r) (Bt r r) (AO r r) (AM r r) (B8 r r) (BG r r) (BE r r) (Br r r) (Bz r r) r r (Bs r r) (Bj r r) (Bf r r)
  (Bb r r) (Bm r r) (AT r r (BD (AO r r) (AM r r) r))) x0) (∀(x3:Int × Int × Int × Int × Int),BV x0 x3 r (∃(x4:Zx × Bool × Int × Rn),Dj op (Bp (s=s) (word=word) (Cu x4 x3) x4 x3 r op (B4 (BT x4 r) (BZ
  x4 r) (C4 x4 r) (B5 x4 r) (B9 x4 r) (Cf x4 r) (BK x4 r) (BS x4 r) (C9 x4 r) (BW x4 r) x4 r (C5 x4 r) (Cc x4 r) (Cg x4 r) (Cj x4 r) (Cb x4 r) (BQ x4 r (BF (B5 x4 r) (B9 x4 r) x4 r)))) x4
  (Ad (C0 op) (C6 op) (Cl op) (C1 op 10) (zi3 (B1 x4,0)) (zi3 (B1 x4,1)) Ac (AO y (A1 x4)) Ac (AM y (A1 x4)) (B8 y (A1 x4)) (D8 y x4) (y.5=za0 (B1 x4) 0) (y.6=za0 (B1 x4)
  1) (Bz y (A1 x4)) (Ds y x4) (BP (CN y x4) (CQ y x4) (CE y x4) (CH y x4) (CJ y x4) (CK y x4) (CA y x4) (CP y x4) (CL y x4) (Cz y x4) y x4 (CM y x4) (Cy y x4) (CB y x4) (Cw y x4)
  (Cp y x4) (CS y x4) (CV y x4) (CU y x4))))))))∧(∀(r:Rn)(op p q s word:Int)(y:Rn),yka r op p q s word y=(Cr (∃(x0:Int × Int × Int × Int × Int→Prop),Ch s (∃(x1:Int × Int × Int × Int × Int),Bo op
  s word x1 p q r (Ay (BA r r) (Bu r r) (Bt r r) (AO r r) (AM r r) (B8 r r) (BG r r) (BE r r) (Br r r) (Bz r r) r r (Bs r r) (Bj r r) (Bf r r) (Bb r r) (Bm r r) (AT r r (BD (AO r r) (AM r r) r))) x0) (∃(x2 :
  Int × Int × Int × Int × Int),Bn op s word x2 p q r (Ay (BA r r) (Bu r r) (Bt r r) (AO r r) (AM r r) (B8 r r) (BG r r) (BE r r) (Br r r) (Bz r r) r r (Bs r r) (Bj r r) (Bf r r) (Bb r r) (Bm r r) (AT r r (BD
  (AO r r) (AM r r) r))) x0) (∀(x3:Int × Int × Int × Int × Int),BV x0 x3 r (∃(x4:Zx × Bool × Int × Rn),D0 op (Bp (s=s) (word=word) (Cu x4 x3) x4 x3 r op (B4 (BT x4 r) (BZ x4 r) (C4 x4 r) (B5 x4 r)
  (B9 x4 r) (Cf x4 r) (BK x4 r) (BS x4 r) (C9 x4 r) (BW x4 r) x4 r (C5 x4 r) (Cc x4 r) (Cg x4 r) (Cj x4 r) (Cb x4 r) (BQ x4 r (BF (B5 x4 r) (B9 x4 r) x4 r)))) (A4 (BU x4) (Bx op) (CY (BB
  op) (BI op) (BJ op) (BL op) (BX op) (C0 op) (C6 op) (Cl op) (Ct op) op 11 (AG 65536) (!(A1 x4).22) (Dq (CI x4) (Dg x4) (Dd x4) (D3 x4) x4∧CX (Dq (CF x4) (Dc x4) (Da x4) (Di
  x4) x4) (Dq (CC x4) (D9 x4) (D7 x4) (Dh x4) x4) y (A1 x4) (D8 y x4) (Ad (CN y x4) (CQ y x4) (CE y x4) (CH y x4) (Dt y.13 (Dg x4) (Dd x4) (D3 x4) x4) (y.14=(Cx (Dg x4) (Dd x4) (D3 x4)
  x4).1) Ac (Ak y=Dr (Dg x4) (Dd x4) (D3 x4) x4) (Dt y.16 (Dc x4) (Da x4) (Di x4) x4) (y.17=(Cx (Dc x4) (Da x4) (Di x4) x4).1) Ac (Ae y=Dr (Dc x4) (Da x4) (Di x4) x4) (Dt y.19 (D9
  x4) (D7 x4) (Dh x4) x4) (y.20=(Cx (D9 x4) (D7 x4) (Dh x4) x4).1) Ac (Aa y=Dr (D9 x4) (D7 x4) (Dh x4) x4) (Ad (CB y x4) (y.23=(A1 x4).23) (y.24=(A1 x4).24) (Cw y x4) Ac (Cp y x4) (BH
  y.27) (y.28=B0 (B2 x4)) (y.29=B1 x4) (Dn y x4) (y.31=BY x4) (y.1=(A1 x4).1) (y.2=(A1 x4).2) (y.15=(Cx (Dg x4) (Dd x4) (D3 x4) x4).2) (y.18=(Cx (Dc x4) (Da x4) (Di x4) x4).2) (y.21 =
  (Cx (D9 x4) (D7 x4) (Dh x4) x4).2) (Bt y (A1 x4))))) y x4 (AR (CN y x4) (CQ y x4) (CE y x4) (CH y x4) (CJ y x4) (CK y x4) (CA y x4) (CP y x4) (CL y x4) (Cz y x4) y (A1 x4) (CM y x4) (Cy
  y x4) (CB y x4) (Cw y x4) (Cp y x4) (BH y.27) (y.28=B0 (B2 x4)) (y.29=B1 x4) (Dn y x4) (BY x4) (y.1=(A1 x4).1) (y.2=(A1 x4).2) (y.15=D3 x4)))))))))∧(∀(r:Rn)(op p q s word:Int)(y:Rn),
  ykb r op p q s word y=(Cr (∃(x0:Int × Int × Int × Int × Int→Prop),Ch s (∃(x1:Int × Int × Int × Int × Int),Bo op s word x1 p q r (Ay (BA r r) (Bu r r) (Bt r r) (AO r r) (AM r r) (B8 r r) (BG r r) (BE r r)
  (Br r r) (Bz r r) r r (Bs r r) (Bj r r) (Bf r r) (Bb r r) (Bm r r) (AT r r (BD (AO r r) (AM r r) r))) x0) (∃(x2:Int × Int × Int × Int × Int),Bn op s word x2 p q r (Ay (BA r r) (Bu r r) (Bt r r) (AO r r) (AM r
  r) (B8 r r) (BG r r) (BE r r) (Br r r) (Bz r r) r r (Bs r r) (Bj r r) (Bf r r) (Bb r r) (Bm r r) (AT r r (BD (AO r r) (AM r r) r))) x0) (∀(x3:Int × Int × Int × Int × Int),BV x0 x3 r (∃(x4:Zx × Bool × Int
  × Rn),Dj op (Bp (s=s) (word=word) (Cu x4 x3) x4 x3 r op (B4 (BT x4 r) (BZ x4 r) (C4 x4 r) (B5 x4 r) (B9 x4 r) (Cf x4 r) (BK x4 r) (BS x4 r) (C9 x4 r) (BW x4 r) x4 r (C5 x4 r) (Cc x4 r)
  (Cg x4 r) (Cj x4 r) (Cb x4 r) (BQ x4 r (BF (B5 x4 r) (B9 x4 r) x4 r)))) x4 (CD (C0 op) (C6 op) (Cl op) (Ct op) (AI op 11) (C1 op 12) y (A1 x4) (AV y.3 ((A1 x4).9+(A6 x4).1)) (y.4 =
  (A1 x4).10) (BP (CN y x4) (CQ y x4) (CE y x4) (CH y x4) (CJ y x4) (CK y x4) (CA y x4) (CP y x4) (CL y x4) (Cz y x4) y x4 (CM y x4) (Cy y x4) (CB y x4) (Cw y x4) (Cp y x4) (CS y x4) (CV y
  x4) (CU y x4))))))))∧(∀(r:Rn)(op p q s word:Int)(y:Rn),ykc r op p q s word y=(Cr (∃(x0:Int × Int × Int × Int × Int→Prop),Ch s (∃(x1:Int × Int × Int × Int × Int),Bo op s word x1 p q r (Ay (BA r r)
  (Bu r r) (Bt r r) (AO r r) (AM r r) (B8 r r) (BG r r) (BE r r) (Br r r) (Bz r r) r r (Bs r r) (Bj r r) (Bf r r) (Bb r r) (Bm r r) (AT r r (BD (AO r r) (AM r r) r))) x0) (∃(x2:Int × Int × Int × Int × Int),Bn
  op s word x2 p q r (Ay (BA r r) (Bu r r) (Bt r r) (AO r r) (AM r r) (B8 r r) (BG r r) (BE r r) (Br r r) (Bz r r) r r (Bs r r) (Bj r r) (Bf r r) (Bb r r) (Bm r r) (AT r r (BD (AO r r) (AM r r) r))) x0) (∀(x3 :
  Int × Int × Int × Int × Int),BV x0 x3 r (∃(x4:Zx × Bool × Int × Rn),De op (Bp (s=s) (word=word) (Cu x4 x3) x4 x3 r op (B4 (BT x4 r) (BZ x4 r) (C4 x4 r) (B5 x4 r) (B9 x4 r) (Cf x4 r) (BK x4 r)
  (BS x4 r) (C9 x4 r) (BW x4 r) x4 r (C5 x4 r) (Cc x4 r) (Cg x4 r) (Cj x4 r) (Cb x4 r) (BQ x4 r (BF (B5 x4 r) (B9 x4 r) x4 r)))) x4 (BL op) (BX op) (C0 op) (CG (C6 op) (Cl op) (Ct op) (AI op
  11) (AI op 12) (BH (AW op)) y (A1 x4) (D8 y x4) (BP (y.9=B1 x4) (y.10=(A0 x4).2.1) (CE y x4) (CH y x4) (CJ y x4) (CK y x4) (CA y x4) (CP y x4) (CL y x4) (Cz y x4) y x4 (CM y
  x4) (Cy y x4) (CB y x4) (Cw y x4) (Cp y x4) (CS y x4) (CV y x4) (CU y x4))))))))∧(∀(r:Rn)(op p q s word:Int)(y:Rn),ykd r op p q s word y=(Cr (∃(x0:Int × Int × Int × Int × Int→Prop),Ch s (∃
  (x1:Int × Int × Int × Int × Int),Bo op s word x1 p q r (Ay (BA r r) (Bu r r) (Bt r r) (AO r r) (AM r r) (B8 r r) (BG r r) (BE r r) (Br r r) (Bz r r) r r (Bs r r) (Bj r r) (Bf r r) (Bb r r) (Bm r r) (AT r r
  (BD (AO r r) (AM r r) r))) x0) (∃(x2:Int × Int × Int × Int × Int),Bn op s word x2 p q r (Ay (BA r r) (Bu r r) (Bt r r) (AO r r) (AM r r) (B8 r r) (BG r r) (BE r r) (Br r r) (Bz r r) r r (Bs r r) (Bj r r) (Bf
  r r) (Bb r r) (Bm r r) (AT r r (BD (AO r r) (AM r r) r))) x0) (∀(x3:Int × Int × Int × Int × Int),BV x0 x3 r (∃(x4:Zx × Bool × Int × Rn),D0 op (Bp (s=s) (word=word) (Cu x4 x3) x4 x3 r op (B4 (BT x4 r)
  (BZ x4 r) (C4 x4 r) (B5 x4 r) (B9 x4 r) (Cf x4 r) (BK x4 r) (BS x4 r) (C9 x4 r) (BW x4 r) x4 r (C5 x4 r) (Cc x4 r) (Cg x4 r) (Cj x4 r) (Cb x4 r) (BQ x4 r (BF (B5 x4 r) (B9 x4 r) x4
  r)))) (CW x4 op (C1 op 14) (Cs x4) (Ck x4) (CI x4) (CF x4) y (Bi x4) (AZ (Bs y (Bi x4)) (Bj y (Bi x4)) (Bf y (Bi x4)) (Bb y (Bi x4)) (Cq y (Bi x4)) (Ci y (Bi x4)) (BN y (Bi x4))
  (Bm y (Bi x4)) (Cd y (Bi x4)) (BO y (Bi x4)) y (Bi x4) (Ca y (Bi x4)) (BR y (Bi x4)) (C2 y (Bi x4)) (C3 y (Bi x4)) (BM y (Bi x4)) (Ce y (Bi x4)) (C7 y (Bi x4)) (C8 y (Bi x4)))))))))
  ∧ (∀(r:Rn)(op p q s word:Int)(y:Rn),yke r op p q s word y=(Cr (∃(x0:Int × Int × Int × Int × Int→Prop),Ch s (∃(x1:Int × Int × Int × Int × Int),Bo op s word x1 p q r (Ay (BA r r) (Bu r r) (Bt r r) (AO
  r r) (AM r r) (B8 r r) (BG r r) (BE r r) (Br r r) (Bz r r) r r (Bs r r) (Bj r r) (Bf r r) (Bb r r) (Bm r r) (AT r r (BD (AO r r) (AM r r) r))) x0) (∃(x2:Int × Int × Int × Int × Int),Bn op s word x2 p q r (Ay
  (BA r r) (Bu r r) (Bt r r) (AO r r) (AM r r) (B8 r r) (BG r r) (BE r r) (Br r r) (Bz r r) r r (Bs r r) (Bj r r) (Bf r r) (Bb r r) (Bm r r) (AT r r (BD (AO r r) (AM r r) r))) x0) (∀(x3:Int × Int × Int × Int ×
  Int),BV x0 x3 r (∃(x4:Zx × Bool × Int × Rn),D0 op (Bp (s=s) (word=word) (Cu x4 x3) x4 x3 r op (B4 (BT x4 r) (BZ x4 r) (C4 x4 r) (B5 x4 r) (B9 x4 r) (Cf x4 r) (BK x4 r) (BS x4 r) (C9 x4 r)
  (BW x4 r) x4 r (C5 x4 r) (Cc x4 r) (Cg x4 r) (Cj x4 r) (Cb x4 r) (BQ x4 r (BF (B5 x4 r) (B9 x4 r) x4 r)))) (CW x4 op (AI op 14) (Cs x4) (Ck x4) (CI x4) (CF x4) y (AQ x4 word) (AZ (Bs
  y (AQ x4 word)) (Bj y (AQ x4 word)) (Bf y (AQ x4 word)) (Bb y (AQ x4 word)) (Cq y (AQ x4 word)) (Ci y (AQ x4 word)) (BN y (AQ x4 word)) (Bm y (AQ x4 word)) (Cd y (AQ x4 word)) (BO y (AQ x4 word)) y (AQ x4 word)
  (Ca y (AQ x4 word)) (BR y (AQ x4 word)) (C2 y (AQ x4 word)) (C3 y (AQ x4 word)) (BM y (AQ x4 word)) (Ce y (AQ x4 word)) (C7 y (AQ x4 word)) (C8 y (AQ x4 word))))))))):=by
  conv=>zeta
  refine⟨?_, ?_, ?_, ?_, ?_, ?_, ?_, ?_, ?_, ?_, ?_, ?_, ?_, ?_, ?_, ?_⟩<;>(intros;as_aux_lemma=>kernel_rfl)
set_option linter.unusedSimpArgs false
set_option linter.unusedVariables false
theorem zel(x:Int):U64 (IntKind.u64.wrap x):=by unfold U64;rw[IntKind.wrap_u64];omega
theorem zh3{va w:Int}(hv:U64 va)(w1:1≤w)(w8:w≤8):(zaq va w).length≤2∧1≤(zaq va w).length∧(zd9 (zaq va w):Int)=w∧(∀p ∈ zaq va w,U64 p.1∧0≤p.2.1∧p.2.1≤8∧U64 p.2.2):=by
 have hz:U64 0:=zj5
 unfold zaq
 split
 · rename_i h
   refine⟨by simp,by simp,by simp[zd9];omega,fun p hp => ?_⟩
   simp only[List.mem_cons,List.not_mem_nil,or_false] at hp
   rcases hp with rfl|rfl
   · exact⟨hv,by show 0≤64-va % 64;omega,by show 64-va % 64≤8;omega,hz⟩
   · exact⟨zel _,by show 0≤w-(64-va % 64);omega,by show w-(64-va % 64)≤8;omega,hz⟩
 · refine⟨by simp,by simp,by simp[zd9];omega,fun p hp => ?_⟩
   simp only[List.mem_cons,List.not_mem_nil,or_false] at hp
   subst hp
   exact⟨hv,by show 0≤w;omega,w8,hz⟩
theorem zv8:∀{todo:Ps}{qs:List Int},qs.length=todo.length→(List.zipWith (fun  (p:Pt) q=>((p.1,p.2.1,q):Pt)) todo qs).length=todo.length∧zd9 (List.zipWith (fun  (p:Pt) q=>((p.1,p.2.1,q):Pt)) todo qs)=zd9 todo∧∀x ∈ List.zipWith (fun  (p:Pt) q=>((p.1,p.2.1,q):Pt)) todo qs,∃p ∈ todo,∃q ∈ qs,x=(p.1,p.2.1,q)
 | [],[],_=>⟨rfl,rfl,fun x hx=>by cases hx⟩
 | [],_::_,h=>by simp at h
 | _::_,[],h=>by simp at h
 | p::todo,q::qs,h=>by
  obtain⟨a,b,c⟩:=zv8 (todo:=todo) (qs:=qs) (by simpa using h)
  refine⟨by simp[a],by simp only[List.zipWith_cons_cons,zd9,b],fun x hx => ?_⟩
  rw[List.zipWith_cons_cons] at hx
  rcases List.mem_cons.1 hx with rfl|hx
  · exact⟨p,by simp,q,by simp,rfl⟩
  · obtain⟨p',h1,q',h2,h3⟩:=c x hx
    exact⟨p',by simp[h1],q',by simp[h2],h3⟩
theorem zh6(r:Rn)(kind va:Int):(zao r kind va).1.cs=r.cs∧(zao r kind va).1.m=r.m∧(zao r kind va).1.pl=r.pl:=by
 unfold zao
 split<;>exact⟨rfl,rfl,rfl⟩
theorem zjs(kind:Int):∀(todo:Ps)(r:Rn)(done:Ps),(zaz kind r done todo).1.m=r.m∧(zaz kind r done todo).1.pl=r.pl∧((zaz kind r done todo).2.2=false→(zaz kind r done todo).1.cs=r.cs)∧((zaz kind r done todo).2.2=true→(zaz kind r done todo).1.cs≠0)
 | [],r,done=>⟨rfl,rfl,fun _=>rfl,fun h=>by cases h⟩
 | p::todo,r,done=>by
  obtain⟨t1,t2,t3⟩:=zh6 r kind p.1
  unfold zaz
  split
  · obtain⟨a,b,c,d⟩:=zjs kind todo (zao r kind p.1).1 (done++[(p.1,p.2.1,(zao r kind p.1).2.2)])
    exact⟨a.trans t2,b.trans t3,fun h=>(c h).trans t1,d⟩
  · rename_i h
    exact⟨t2,t3,fun e=>(by cases e),fun _=>h⟩
theorem zgl(kind:Int)(r:Rn):∀ps:Ps,(zbt kind r ps=r∧∀p ∈ ps,zgg r.m p.2.2 p.2.1=true)∨∃v,zbt kind r ps=zd1 r (afM kind) v
 | [] => .inl ⟨rfl,fun p hp=>by cases hp⟩
 | p::ps=>by
  unfold zbt
  split
  · rename_i h
    rcases zgl kind r ps with ⟨a,b⟩|h2
    · refine .inl ⟨a,fun q hq => ?_⟩
      rcases List.mem_cons.1 hq with rfl|hq
      · exact h
      · exact b q hq
    · exact .inr h2
  · exact .inr ⟨_,rfl⟩
theorem yvy{r:Rn}(h:RnR r)(c v:Int):RnR (zd1 r c v):=⟨h.1,h.2.1,h.2.2⟩
theorem zdu{r:Rn}{kind va w:Int}(h:zee r va w):RnR (zas r kind va w).1∧(zas r kind va w).1.ks.length≤r.ks.length+2∧(zas r kind va w).1.m=r.m∧(zas r kind va w).1.pl=r.pl∧(zas r kind va w).2.length≤2∧(∀p ∈ (zas r kind va w).2,0≤p.2.1∧0≤p.2.2)∧(r.cs=0→(zas r kind va w).1.cs=0→PsR r.m.length (zas r kind va w).2∧(zd9 (zas r kind va w).2:Int)=w):=by
 obtain⟨h1,h2,h3,h4,h5⟩:=h
 obtain⟨o1,o2,o3,o4⟩:=zh3 h3 h4 h5
 obtain⟨a,b,qs,c,d,e⟩:=znj kind (zaq va w) r [] h1 (by omega) (fun p hp=>(o4 p hp).1)
 obtain⟨m1,m2,m3,m4⟩:=zjs kind (zaq va w) r []
 obtain⟨z1,z2,z3⟩:=zv8 d
 rw[List.nil_append] at c
 have e':=e (fun p hp=>(o4 p hp).2.2.2)
 have hS:∀p ∈ (zaz kind r [] (zaq va w)).2.1,0≤p.2.1∧p.2.1≤8∧0≤p.2.2:=by
  intro p hp
  rw[c] at hp
  obtain⟨x,hx,q,hq,rfl⟩:=z3 p hp
  obtain⟨_,b1,b2,_⟩:=o4 x hx
  exact⟨b1,b2,(e' q hq).1⟩
 have hl:(zaz kind r [] (zaq va w)).2.1.length=(zaq va w).length:=by rw[c];exact z1
 have ho:zd9 (zaz kind r [] (zaq va w)).2.1=zd9 (zaq va w):=by rw[c];exact z2
 have hsz:r.m.length≤2097152:=h1.1.1.1
 unfold zas
 generalize zaz kind r [] (zaq va w)=X at *
 split
 · rename_i hx
   dsimp only
   exact⟨a,by omega,m1,m2,by omega,fun p hp=>⟨(hS p hp).1,(hS p hp).2.2⟩,fun _ g=>absurd g (m4 hx)⟩
 · rename_i hx
   have hx:X.2.2=false:=by simpa using hx
   rcases zgl kind X.1 X.2.1 with ⟨i1,i2⟩|⟨v,i1⟩
   · rw[i1]
     dsimp only
     refine⟨a,by omega,m1,m2,by omega,fun p hp=>⟨(hS p hp).1,(hS p hp).2.2⟩,fun _ _=>⟨⟨hsz,by omega,by omega,fun p hp => ?_⟩,by rw[ho];exact o3⟩⟩
     obtain⟨b1,b2,b3⟩:=hS p hp
     have:=i2 p hp
     rw[m1] at this
     simp only[zgg,Bool.and_eq_true,decide_eq_true_eq] at this
     exact⟨b1,b2,b3,by omega⟩
   · rw[i1]
     dsimp only
     exact⟨yvy a _ _,by show X.1.ks.length≤_;omega,m1,m2,by omega,fun p hp=>⟨(hS p hp).1,(hS p hp).2.2⟩,fun _ g=>absurd g (ybp kind)⟩
theorem zxs{kind:Int}{R:Rn}{S:Ps}{f:Bool}{z:Rn}:∀b ∈ zap (zau Tryz.f233),∀k L,zbj b=some k→(zt3 kind (R,S,f) z).loop k=some L→zbr Tryz.prog 6 b L:=by
 intro b hb k L hk hL
 rw[show zap (zau Tryz.f233)=[zag Tryz.f233 0,zag Tryz.f233 1] from by kernel_rfl] at hb
 rcases List.mem_cons.1 hb with rfl|hb
 · rw[show zbj (zag Tryz.f233 0)=some 6 from by kernel_rfl] at hk
   cases hk
   have e:(zt3 kind (R,S,f) z).loop 6=some (zri kind (R,S,f)):=znv _ _ _ _
   rw[e] at hL
   cases hL
   exact zda mixed zwg (by kernel_rfl) (fun x:Rn × Ps × Nat=>x.2.1.length-x.2.2) (fun  (x:Rn × Ps × Nat) hx=>⟨.none,ynw hx⟩)
 · have hb:=List.mem_singleton.1 hb
   subst hb
   rw[show zbj (zag Tryz.f233 1)=some 14 from by kernel_rfl] at hk
   cases hk
   have e:(zt3 kind (R,S,f) z).loop 14=some (zrj kind R S z):=znw _ _ _ _ (by decide)
   rw[e] at hL
   cases hL
   exact zda mixed zwg (by kernel_rfl) (fun i:Nat=>S.length-i) (fun  (i:Nat) hx=>⟨.none,ynx hx⟩)
theorem yb8:Sound Tryz.prog 233 (ztv [ruP,i64,u64,i64] [ruP,psP] (fun t=>some (zee (Rn.of t.1) t.2.2.1 t.2.2.2)) (fun t=>((zas (Rn.of t.1) t.2.1 t.2.2.1 t.2.2.2).1.t,(zas (Rn.of t.1) t.2.1 t.2.2.1 t.2.2.2).2))):=by
 refine yh4 mixed Tryz.func233 (by kernel_rfl) zwg (fun t h => ?_)
 obtain⟨x,kind,va,w⟩:RnT × Int × Int × Int:=t
 have h:zee (Rn.of x) va w:=h
 suffices g:∃(R:Rn)(S:Ps)(f:Bool)(z:Rn),zi2 Tryz.prog ysg (zt3 kind (R,S,f) z) Tryz.f233 [ruP,i64,u64,i64] [ruP,psP] ((Rn.of x).t,kind,va,w) ((zas (Rn.of x) kind va w).1.t,(zas (Rn.of x) kind va w).2) by
  obtain⟨R,S,f,z,g⟩:=g
  exact⟨_,zxs,g⟩
 generalize Rn.of x=r at *
 obtain⟨h1,h2,h3,h4,h5⟩:=id h
 obtain⟨o1,o2,o3,o4⟩:=zh3 h3 h4 h5
 have hin:=zdu (kind:=kind) h
 have hpl:=znj kind (zaq va w) r [] h1 (by omega) (fun p hp=>(o4 p hp).1)
 have hcs:=zjs kind (zaq va w) r []
 have hP0:zss kind (zaz kind r [] (zaq va w)) r (zaq va w) 0:=⟨h1,Nat.zero_le _,o1,by omega,fun p hp=>(o4 p hp).1,rfl⟩
 have hva:=h3.1
 have m64:0≤va % 64∧va % 64<64:=by omega
 have e0:IntKind.i64.wrap (va.tmod 64)=va % 64:=by rw[Int.tmod_eq_emod_of_nonneg hva];exact zaa (by omega) (by omega)
 have e1:IntKind.i64.wrap (64-IntKind.i64.wrap (va.tmod 64))=64-va % 64:=by rw[e0];exact zaa (by omega) (by omega)
 have e2:IntKind.u64.wrap (64-va % 64)=64-va % 64:=zah (by omega) (by omega)
 have e3:IntKind.i64.wrap (w-(64-va % 64))=w-(64-va % 64):=zaa (by omega) (by omega)
 have hsz:r.m.length≤2097152:=h1.1.1.1
 obtain⟨n1,n2,n3,n4,n5,n6,n7⟩:=hin
 have hT:(zas r kind va w).2=(zaz kind r [] (zaq va w)).2.1:=by unfold zas;split<;>rfl
 have hy:(zas r kind va w).1=if (zaz kind r [] (zaq va w)).2.2=true then (zaz kind r [] (zaq va w)).1 else zbt kind (zaz kind r [] (zaq va w)).1 (zaz kind r [] (zaq va w)).2.1:=by unfold zas;split<;>rfl
 have n6':∀p ∈ (zaz kind r [] (zaq va w)).2.1,0≤p.2.1∧0≤p.2.2:=hT ▸ n6
 have n5':(zaz kind r [] (zaq va w)).2.1.length≤2:=hT ▸ n5
 have hm1:=hcs.1
 rw[hT]
 generalize (zas r kind va w).1=y at *
 generalize zaz kind r [] (zaq va w)=X at *
 obtain⟨R,S,f⟩:=X
 simp only at hy hm1 n6' n5'
 refine⟨R,S,f,zbt kind R S,zab (zr4 r kind va w R S f (zbt kind R S) y S) ?_⟩
 conv=>zeta
 rw[e1,e2,e3]
 refine⟨by decide,fun q=>⟨(r,zaq va w,0), ?_,hP0, ?_, ?_⟩,fun q=>⟨(r,zaq va w,0), ?_,hP0, ?_, ?_⟩⟩
 · have q:w>64-va % 64:=of_decide_eq_true q
   have ep:zaq va w=[(va,64-va % 64,0),(IntKind.u64.wrap (va+(64-va % 64)),w-(64-va % 64),0)]:=by unfold zaq;rw[if_pos q]
   simp[ep]
 · intro _ hf
   subst hf
   rw[if_neg (by simp)] at hy
   subst hy
   refine⟨0,by simp,⟨Nat.zero_le _,n5',by show R.m.length≤_;rw[hm1];exact hsz,rfl,n6'⟩,fun _ g => ?_,fun _ _ => ?_⟩
   · rw[← g]
     (repeat' apply And.intro)<;>rfl
   · (repeat' apply And.intro)<;>rfl
 · intro _ hf
   subst hf
   rw[if_pos rfl] at hy
   subst hy
   (repeat' apply And.intro)<;>rfl
 · have q:¬ w>64-va % 64:=of_decide_eq_false q
   have ep:zaq va w=[(va,w,0)]:=by unfold zaq;rw[if_neg q]
   simp[ep]
 · intro _ hf
   subst hf
   rw[if_neg (by simp)] at hy
   subst hy
   refine⟨0,by simp,⟨Nat.zero_le _,n5',by show R.m.length≤_;rw[hm1];exact hsz,rfl,n6'⟩,fun _ g => ?_,fun _ _ => ?_⟩
   · rw[← g]
     (repeat' apply And.intro)<;>rfl
   · (repeat' apply And.intro)<;>rfl
 · intro _ hf
   subst hf
   rw[if_pos rfl] at hy
   subst hy
   (repeat' apply And.intro)<;>rfl
def yyl(r:Rn)(op p q s word:Int)(T:Zx × Bool × Int × Rn→Prop):Prop :=
 (8:Int)≠(0:Int)∧(8:Int)≠(0:Int)∧(8:Int)≠(0:Int)∧(8:Int)≠(0:Int)∧∃(J:Int × Int × Int × Int × Int→Prop),((decide (s≥(128:Int))=true→∃(z:Int × Int × Int × Int × Int),(op=op∧s=s
 ∧ word=word∧z.fst=p.tmod (8:Int)∧z.snd.fst=(IntKind.i64.wrap (p.tdiv (8:Int))).tmod (8:Int)∧z.snd.snd.fst=q.tmod (8:Int)∧z.snd.snd.snd.fst=IntKind.u64.wrap (IntKind.i64.wrap (s-(256:Int))) ∧
 z.snd.snd.snd.snd=IntKind.u64.wrap (IntKind.i64.wrap ((4:Int)*IntKind.i64.wrap (s-(256:Int))))∧r.1=r.1∧r.2=r.2∧r.15=r.15∧r.18=r.18∧r.21=r.21∧r.26=r.26∧(0:Nat)=(0:Nat)∧List.length r.1 =
 List.length r.1∧(0:Nat)=(0:Nat)∧List.length r.2=List.length r.2∧r.3=r.3∧r.4=r.4∧r.5=r.5∧r.6=r.6∧r.7=r.7∧r.8=r.8∧r.9=r.9∧r.10=r.10∧r.11=r.11∧r.12=r.12∧r.13=r.13∧r.14=r.14
 ∧ (0:Nat)=(0:Nat)∧List.length r.15=List.length r.15∧r.16=r.16∧r.17=r.17∧(0:Nat)=(0:Nat)∧List.length r.18=List.length r.18∧r.19=r.19∧r.20=r.20∧(0:Nat)=(0:Nat)∧List.length r.21 =
 List.length r.21∧r.22=r.22∧r.23=r.23∧r.24=r.24∧r.25=r.25∧(0:Nat)=(0:Nat)∧List.length r.26=List.length r.26∧r.27=r.27∧r.28=r.28∧r.29=r.29∧r.30=r.30∧r.31=r.31∧Value.slice none (0 :
 Nat) (0:Nat)=Value.slice none (0:Nat) (0:Nat)∧Value.slice none (0:Nat) (0:Nat)=Value.slice none (0:Nat) (0:Nat)∧(0:Int)=(0:Int)∧(0:Int)=(0:Int)∧false=false∧false=false∧(0:Int)=(0 :
 Int)∧(0:Int)=(0:Int)∧(0:Int)=(0:Int)∧(0:Int)=(0:Int)∧(0:Int)=(0:Int)∧(0:Int)=(0:Int)∧(0:Int)=(0:Int)∧(0:Int)=(0:Int)∧Value.slice none (0:Nat) (0:Nat)=Value.slice none
 (0:Nat) (0:Nat)∧(0:Int)=(0:Int)∧(0:Int)=(0:Int)∧Value.slice none (0:Nat) (0:Nat)=Value.slice none (0:Nat) (0:Nat)∧(0:Int)=(0:Int)∧(0:Int)=(0:Int)∧Value.slice none (0:Nat) (0 :
 Nat)=Value.slice none (0:Nat) (0:Nat)∧false=false∧(0:Int)=(0:Int)∧(0:Int)=(0:Int)∧(0:Int)=(0:Int)∧Value.slice none (0:Nat) (0:Nat)=Value.slice none (0:Nat) (0:Nat)∧false=false ∧
 false=false∧(0:Int)=(0:Int)∧false=false∧(0:Int)=(0:Int)∧(0:Nat)=(0:Nat)∧List.length r.1=List.length r.1∧(0:Nat)=(0:Nat)∧List.length r.2=List.length r.2∧r.3=r.3∧r.4=r.4∧r.5 =
 r.5∧r.6=r.6∧r.7=r.7∧r.8=r.8∧r.9=r.9∧r.10=r.10∧r.11=r.11∧r.12=r.12∧r.13=r.13∧r.14=r.14∧(0:Nat)=(0:Nat)∧List.length r.15=List.length r.15∧r.16=r.16∧r.17=r.17∧(0:Nat)=(0 :
 Nat)∧List.length r.18=List.length r.18∧r.19=r.19∧r.20=r.20∧(0:Nat)=(0:Nat)∧List.length r.21=List.length r.21)∧J z)∧(decide (s≥(128:Int))=false→∃(z:Int × Int × Int × Int × Int),(op=op∧s =
 s∧word=word∧z.fst=p.tmod (8:Int)∧z.snd.fst=(IntKind.i64.wrap (p.tdiv (8:Int))).tmod (8:Int)∧z.snd.snd.fst=q.tmod (8:Int)∧z.snd.snd.snd.fst=IntKind.u64.wrap s∧z.snd.snd.snd.snd=IntKind.u64.wrap
 (IntKind.i64.wrap ((4:Int)*s))∧r.1=r.1∧r.2=r.2∧r.15=r.15∧r.18=r.18∧r.21=r.21∧r.26=r.26∧(0:Nat)=(0:Nat)∧List.length r.1=List.length r.1∧(0:Nat)=(0:Nat)∧List.length r.2=List.length
 r.2∧r.3=r.3∧r.4=r.4∧r.5=r.5∧r.6=r.6∧r.7=r.7∧r.8=r.8∧r.9=r.9∧r.10=r.10∧r.11=r.11∧r.12=r.12∧r.13=r.13∧r.14=r.14∧(0:Nat)=(0:Nat)∧List.length r.15=List.length r.15∧r.16 =
 r.16∧r.17=r.17∧(0:Nat)=(0:Nat)∧List.length r.18=List.length r.18∧r.19=r.19∧r.20=r.20∧(0:Nat)=(0:Nat)∧List.length r.21=List.length r.21∧r.22=r.22∧r.23=r.23∧r.24=r.24∧r.25=r.25 ∧
 (0:Nat)=(0:Nat)∧List.length r.26=List.length r.26∧r.27=r.27∧r.28=r.28∧r.29=r.29∧r.30=r.30∧r.31=r.31∧Value.slice none (0:Nat) (0:Nat)=Value.slice none (0:Nat) (0:Nat)∧Value.slice none (0
 : Nat) (0:Nat)=Value.slice none (0:Nat) (0:Nat)∧(0:Int)=(0:Int)∧(0:Int)=(0:Int)∧false=false∧false=false∧(0:Int)=(0:Int)∧(0:Int)=(0:Int)∧(0:Int)=(0:Int)∧(0:Int)=(0 :
 Int)∧(0:Int)=(0:Int)∧(0:Int)=(0:Int)∧(0:Int)=(0:Int)∧(0:Int)=(0:Int)∧Value.slice none (0:Nat) (0:Nat)=Value.slice none (0:Nat) (0:Nat)∧(0:Int)=(0:Int)∧(0:Int)=(0:Int) ∧
 Value.slice none (0:Nat) (0:Nat)=Value.slice none (0:Nat) (0:Nat)∧(0:Int)=(0:Int)∧(0:Int)=(0:Int)∧Value.slice none (0:Nat) (0:Nat)=Value.slice none (0:Nat) (0:Nat)∧false=false∧(0:Int)
 = (0:Int)∧(0:Int)=(0:Int)∧(0:Int)=(0:Int)∧Value.slice none (0:Nat) (0:Nat)=Value.slice none (0:Nat) (0:Nat)∧false=false∧false=false∧(0:Int)=(0:Int)∧false=false∧(0:Int)=(0 :
 Int)∧(0:Nat)=(0:Nat)∧List.length r.1=List.length r.1∧(0:Nat)=(0:Nat)∧List.length r.2=List.length r.2∧r.3=r.3∧r.4=r.4∧r.5=r.5∧r.6=r.6∧r.7=r.7∧r.8=r.8∧r.9=r.9∧r.10=r.10∧r.11
 = r.11∧r.12=r.12∧r.13=r.13∧r.14=r.14∧(0:Nat)=(0:Nat)∧List.length r.15=List.length r.15∧r.16=r.16∧r.17=r.17∧(0:Nat)=(0:Nat)∧List.length r.18=List.length r.18∧r.19=r.19∧r.20=r.20 ∧
 (0:Nat)=(0:Nat)∧List.length r.21=List.length r.21)∧J z))∧∀(z:Int × Int × Int × Int × Int),J z→((0:Int)≤z.fst∧z.fst<(↑(List.length r.2):Int))∧(0:Nat)+z.fst.toNat<List.length r.2∧((0:Int) ≤
 z.snd.fst∧z.snd.fst<(↑(List.length r.2):Int))∧(0:Nat)+z.snd.fst.toNat<List.length r.2∧((0:Int)≤z.snd.snd.fst∧z.snd.snd.fst<(↑(List.length r.2):Int))∧(0:Nat)+z.snd.snd.fst.toNat<List.length r.2 ∧
 (4:Int)≠(0:Int)∧z.snd.snd.fst.tmod (4:Int)≤(64:PmT [i64])∧∃(z_1:Zx × Bool × Int × Rn),(op=op∧s=s∧word=word∧z_1.fst.fst=z.fst∧z_1.fst.snd.fst=z.snd.fst∧z_1.fst.snd.snd.fst=z.snd.snd.fst ∧
 z_1.fst.snd.snd.snd.fst=z.snd.snd.snd.fst∧z_1.fst.snd.snd.snd.snd.fst=z.snd.snd.snd.snd∧z_1.fst.snd.snd.snd.snd.snd.fst=List.getD r.2 ((0:Nat)+z.fst.toNat) (El.zero [Ty.i IntKind.u64]) ∧
 z_1.fst.snd.snd.snd.snd.snd.snd.fst=List.getD r.2 ((0:Nat)+z.snd.fst.toNat) (El.zero [Ty.i IntKind.u64])∧z_1.fst.snd.snd.snd.snd.snd.snd.snd.fst=List.getD r.2 ((0:Nat)+z.snd.snd.fst.toNat) (El.zero [Ty.i
 IntKind.u64])∧z_1.fst.snd.snd.snd.snd.snd.snd.snd.snd=IntKind.i64.wrap (pw (z.snd.snd.fst.tmod (4:Int)))∧z_1.snd.snd.fst=r.3∧(z_1.snd.fst=bif bif bif bif decide (op≥(9:Int)) then decide (op≤(11:Int)) else
 false then r.4==(0:Int) else false then true else bif bif op==(12:Int) then true else op==(13:Int) then r.4 != (2:Int) else false then true else bif op==(13:Int) then decide (z.snd.snd.fst>(2:Int)) else
 false)∧z_1.snd.snd.snd.1=r.1∧z_1.snd.snd.snd.2=r.2∧z_1.snd.snd.snd.15=r.15∧z_1.snd.snd.snd.18=r.18∧z_1.snd.snd.snd.21=r.21∧z_1.snd.snd.snd.26=r.26∧(0:Nat)=(0:Nat)∧List.length z_1.snd.snd.snd.1 =
 List.length r.1∧(0:Nat)=(0:Nat)∧List.length z_1.snd.snd.snd.2=List.length r.2∧z_1.snd.snd.snd.3=IntKind.u64.wrap (r.3+(4:Int))∧z_1.snd.snd.snd.4=r.4∧z_1.snd.snd.snd.5=r.5∧z_1.snd.snd.snd.6=r.6 ∧
 z_1.snd.snd.snd.7=r.7∧z_1.snd.snd.snd.8=r.8∧z_1.snd.snd.snd.9=r.9∧z_1.snd.snd.snd.10=r.10∧z_1.snd.snd.snd.11=r.11∧z_1.snd.snd.snd.12=r.12∧z_1.snd.snd.snd.13=r.13∧z_1.snd.snd.snd.14=r.14∧(0:Nat) =
 (0:Nat)∧List.length z_1.snd.snd.snd.15=List.length r.15∧z_1.snd.snd.snd.16=r.16∧z_1.snd.snd.snd.17=r.17∧(0:Nat)=(0:Nat)∧List.length z_1.snd.snd.snd.18=List.length r.18∧z_1.snd.snd.snd.19=r.19 ∧
 z_1.snd.snd.snd.20=r.20∧(0:Nat)=(0:Nat)∧List.length z_1.snd.snd.snd.21=List.length r.21∧z_1.snd.snd.snd.22=r.22∧z_1.snd.snd.snd.23=r.23∧z_1.snd.snd.snd.24=r.24∧z_1.snd.snd.snd.25=r.25∧(0:Nat)=(0
 : Nat)∧List.length z_1.snd.snd.snd.26=List.length r.26∧z_1.snd.snd.snd.27=r.27∧z_1.snd.snd.snd.28=r.28∧z_1.snd.snd.snd.29=r.29∧z_1.snd.snd.snd.30=r.30∧z_1.snd.snd.snd.31=r.31∧Value.slice none (0:Nat) (0
 : Nat)=Value.slice none (0:Nat) (0:Nat)∧Value.slice none (0:Nat) (0:Nat)=Value.slice none (0:Nat) (0:Nat)∧(0:Int)=(0:Int)∧(0:Int)=(0:Int)∧false=false∧false=false∧(0:Int)=(0:Int) ∧
 (0:Int)=(0:Int)∧(0:Int)=(0:Int)∧(0:Int)=(0:Int)∧(0:Int)=(0:Int)∧(0:Int)=(0:Int)∧(0:Int)=(0:Int)∧(0:Int)=(0:Int)∧Value.slice none (0:Nat) (0:Nat)=Value.slice none (0 :
 Nat) (0:Nat)∧(0:Int)=(0:Int)∧(0:Int)=(0:Int)∧Value.slice none (0:Nat) (0:Nat)=Value.slice none (0:Nat) (0:Nat)∧(0:Int)=(0:Int)∧(0:Int)=(0:Int)∧Value.slice none (0:Nat) (0:Nat) =
 Value.slice none (0:Nat) (0:Nat)∧false=false∧(0:Int)=(0:Int)∧(0:Int)=(0:Int)∧(0:Int)=(0:Int)∧Value.slice none (0:Nat) (0:Nat)=Value.slice none (0:Nat) (0:Nat)∧false=false∧false =
 false∧(0:Int)=(0:Int)∧false=false∧(0:Int)=(0:Int)∧(0:Nat)=(0:Nat)∧List.length z_1.snd.snd.snd.1=List.length r.1∧(0:Nat)=(0:Nat)∧List.length z_1.snd.snd.snd.2=List.length r.2 ∧
 z_1.snd.snd.fst=r.3∧z_1.snd.snd.snd.4=r.4∧z_1.snd.snd.snd.5=r.5∧z_1.snd.snd.snd.6=r.6∧z_1.snd.snd.snd.7=r.7∧z_1.snd.snd.snd.8=r.8∧z_1.snd.snd.snd.9=r.9∧z_1.snd.snd.snd.10=r.10∧z_1.snd.snd.snd.11 =
 r.11∧z_1.snd.snd.snd.12=r.12∧z_1.snd.snd.snd.13=r.13∧z_1.snd.snd.snd.14=r.14∧(0:Nat)=(0:Nat)∧List.length z_1.snd.snd.snd.15=List.length r.15∧z_1.snd.snd.snd.16=r.16∧z_1.snd.snd.snd.17=r.17∧(0 :
 Nat)=(0:Nat)∧List.length z_1.snd.snd.snd.18=List.length r.18∧z_1.snd.snd.snd.19=r.19∧z_1.snd.snd.snd.20=r.20∧(0:Nat)=(0:Nat)∧List.length z_1.snd.snd.snd.21=List.length r.21)∧T z_1
theorem yyw(op c mo:Int):(bif bif bif bif decide (op≥9) then decide (op≤11) else false then mo==0 else false then true else bif bif op==12 then true else op==13 then mo != 2 else false then true else bif op==13 then decide (c>2) else false)=zkj op c mo:=by
 unfold zkj
 simp only[bne]
 cases decide (op≥9)<;>cases decide (op≤11)<;>cases (mo==0)<;>cases (op==12)<;>cases (op==13)<;>cases (mo==2)<;>cases decide (c>2)<;>rfl
theorem yyx{s:Int}(h0:0≤s)(h1:s<256):(s≥128→IntKind.u64.wrap (IntKind.i64.wrap (s-256))=zfk s∧IntKind.u64.wrap (IntKind.i64.wrap (4*IntKind.i64.wrap (s-256)))=zg5 s)∧(¬ s≥128→IntKind.u64.wrap s=zfk s∧IntKind.u64.wrap (IntKind.i64.wrap (4*s))=zg5 s):=by
 refine⟨fun h => ?_,fun h => ?_⟩
 · have e1:IntKind.i64.wrap (s-256)=s-256:=zaa (by omega) (by omega)
   have e2:IntKind.i64.wrap (4*(s-256))=4*(s-256):=zaa (by omega) (by omega)
   unfold zfk zg5
   rw[e1,e2,if_pos h,if_pos h]
   exact⟨rfl,rfl⟩
 · have e1:IntKind.i64.wrap (4*s)=4*s:=zaa (by omega) (by omega)
   have e2:IntKind.u64.wrap s=s:=zah (by omega) (by omega)
   have e3:IntKind.u64.wrap (4*s)=4*s:=zah (by omega) (by omega)
   unfold zfk zg5
   rw[e1,e2,e3,if_neg h,if_neg h]
   exact⟨rfl,rfl⟩
theorem zcz{r:Rn}{op p q s word:Int}{T:Zx × Bool × Int × Rn→Prop}(hu:r.u.length=8)(hp:0≤p∧p<256)(hq:0≤q∧q<256)(hs:0≤s∧s<256)(h:T (zg7 r p q s,zkj op (q % 8) r.mo,r.pc,pc4 r)):yyl r op p q s word T:=by
 obtain⟨i1,i2⟩:=yyx hs.1 hs.2
 have e1:p.tmod 8=p % 8:=Int.tmod_eq_emod_of_nonneg hp.1
 have e2:IntKind.i64.wrap (p.tdiv 8)=p/8:=by rw[Int.tdiv_eq_ediv_of_nonneg hp.1];exact zaa (by omega) (by omega)
 have e3:(p/8).tmod 8=p/8 % 8:=Int.tmod_eq_emod_of_nonneg (by omega)
 have e4:q.tmod 8=q % 8:=Int.tmod_eq_emod_of_nonneg hq.1
 have b1:0≤p % 8∧p % 8<8:=by omega
 have b2:0≤p/8 % 8∧p/8 % 8<8:=by omega
 have b3:0≤q % 8∧q % 8<8:=by omega
 have e5:(q % 8).tmod 4=q % 8 % 4:=Int.tmod_eq_emod_of_nonneg b3.1
 have e6:IntKind.i64.wrap (pw (q % 8 % 4))=pw (q % 8 % 4):=by
  have:q % 8 % 4=0∨q % 8 % 4=1∨q % 8 % 4=2∨q % 8 % 4=3:=by omega
  rcases this with e|e|e|e<;>rw[e]<;>decide
 unfold yyl
 rw[e1,e2,e3,e4,hu]
 refine⟨by decide,by decide,by decide,by decide,fun z=>z=(p % 8,p/8 % 8,q % 8,zfk s,zg5 s),⟨fun g=>⟨(p % 8,p/8 % 8,q % 8,zfk s,zg5 s), ?_,rfl⟩,fun g=>⟨(p % 8,p/8 % 8,q % 8,zfk s,zg5 s), ?_,rfl⟩⟩, ?_⟩
 · obtain⟨a,b⟩:=i1 (of_decide_eq_true g)
   rw[a,b]
   (repeat' apply And.intro)<;>rfl
 · obtain⟨a,b⟩:=i2 (of_decide_eq_false g)
   rw[a,b]
   (repeat' apply And.intro)<;>rfl
 · rintro z rfl
   simp only[e5,e6,yyw]
   refine⟨⟨b1.1,by omega⟩,by omega,⟨b2.1,by omega⟩,by omega,⟨b3.1,by omega⟩,by omega,by decide,by show q % 8 % 4≤(64:Int);omega,(zg7 r p q s,zkj op (q % 8) r.mo,r.pc,pc4 r), ?_,h⟩
   have z1:0+(p % 8).toNat=(p % 8).toNat:=Nat.zero_add _
   have z2:0+(p/8 % 8).toNat=(p/8 % 8).toNat:=Nat.zero_add _
   have z3:0+(q % 8).toNat=(q % 8).toNat:=Nat.zero_add _
   rw[z1,z2,z3]
   (repeat' apply And.intro)<;>first|exact trivial|rfl|exact hu|exact hu.symm
theorem zd2{r:Rn}(h:RnR r):RnR (pc4 r):=by
 obtain⟨⟨a1,a2,a3,a4,a5,a6,a7,a8,a9,a10,a11,a12⟩,b,d⟩:=h
 exact⟨⟨a1,a2,a3,zel _,a5,a6,a7,a8,a9,a10,a11,a12⟩,b,d⟩
theorem za9{r:Rn}(h:RnR r){a:Int}(h0:0≤a)(h8:a<8):U64 (zb7 r a):=by
 unfold zb7
 have hl:a.toNat<r.u.length:=by rw[h.2.1];omega
 exact h.1.2.2.1 _ (zhf hl 0)
def zer(r:Rn)(p q s word:Int):Prop:=RnR r∧r.cs=0∧r.ks.length+2≤2097152∧(0≤p∧p<256)∧(0≤q∧q<256)∧(0≤s∧s<256)∧U64 word
theorem zsn{c:Int}:1≤pw (c % 4)∧pw (c % 4)≤8:=by
 have:c % 4=0∨c % 4=1∨c % 4=2∨c % 4=3:=by omega
 rcases this with e|e|e|e<;>rw[e]<;>decide
theorem yg8:zar Tryz.prog kEG0:=(zar.cons (by kernel_rfl) yng <| .cons (by kernel_rfl) ynh <| .cons (by kernel_rfl) yb8 .nil).append yg7
theorem yt3:zar Tryz.prog kEG1:=(((yg8.append yha).append yy6).append zei).append zc4
theorem ysh:DictOk Tryz.prog FEG1:=zay yt3 .nil .nil
theorem exec0{r:Rn}{op p q s word:Int}(h:zer r p q s word)(hill:zkj op (q % 8) r.mo=true):yrv r op p q s word (zbg r op p q s word):=by
 obtain⟨h1,h2,h3,hp,hq,hs,hw⟩:=h
 have hu:=h1.2.1
 have b1:0≤p % 8∧p % 8<8:=by omega
 have b2:0≤p/8 % 8∧p/8 % 8<8:=by omega
 have b3:0≤q % 8∧q % 8<8:=by omega
 have hxa:=za9 h1 b1.1 b1.2
 have hxb:=za9 h1 b2.1 b2.2
 have hr4:=zd2 h1
 have hW:=zsn (c:=q % 8)
 have ey:zbg r op p q s word=zd1 (pc4 r) 2 word:=by unfold zbg;rw[if_pos hill]
 rw[ey]
 have e0:=zc1
 conv at e0=>zeta
 dsimp -proj -iota -eta only at e0
 replace e0:=e0.1
 refine zab (e0 r op p q s word _) (zcz hu hp hq hs ?_)
 (repeat' apply And.intro)<;>first|exact trivial|rfl|exact hill|exact hu|exact b1.1|exact b1.2|exact hxa|exact hr4|exact hw|decide
theorem exec1{r:Rn}{op p q s word:Int}(h:zer r p q s word)(hill:zkj op (q % 8) r.mo=false)(ho:op=1):yrw r op p q s word (zbg r op p q s word):=by
 obtain⟨h1,h2,h3,hp,hq,hs,hw⟩:=h
 have hu:=h1.2.1
 have b1:0≤p % 8∧p % 8<8:=by omega
 have b2:0≤p/8 % 8∧p/8 % 8<8:=by omega
 have b3:0≤q % 8∧q % 8<8:=by omega
 have hxa:=za9 h1 b1.1 b1.2
 have hxb:=za9 h1 b2.1 b2.2
 have hr4:=zd2 h1
 have hW:=zsn (c:=q % 8)
 subst ho
 have ey:zbg r 1 p q s word=zb3 (pc4 r) (p % 8) (zfk s):=by unfold zbg;rw[if_neg (by rw[hill];simp)];rfl
 rw[ey]
 have e0:=zc1
 conv at e0=>zeta
 dsimp -proj -iota -eta only at e0
 replace e0:=e0.2.1
 refine zab (e0 r 1 p q s word _) (zcz hu hp hq hs ?_)
 (repeat' apply And.intro)<;>first|exact trivial|rfl|exact hill|exact hu|exact b1.1|exact b1.2|exact hxa|exact hr4|exact hw|decide
theorem exec2{r:Rn}{op p q s word:Int}(h:zer r p q s word)(hill:zkj op (q % 8) r.mo=false)(ho:op=2):yrx r op p q s word (zbg r op p q s word):=by
 obtain⟨h1,h2,h3,hp,hq,hs,hw⟩:=h
 have hu:=h1.2.1
 have b1:0≤p % 8∧p % 8<8:=by omega
 have b2:0≤p/8 % 8∧p/8 % 8<8:=by omega
 have b3:0≤q % 8∧q % 8<8:=by omega
 have hxa:=za9 h1 b1.1 b1.2
 have hxb:=za9 h1 b2.1 b2.2
 have hr4:=zd2 h1
 have hW:=zsn (c:=q % 8)
 subst ho
 have ey:zbg r 2 p q s word=zb3 (pc4 r) (p % 8) (IntKind.u64.wrap ((zb7 r (p/8 % 8))+(zb7 r (q % 8)))):=by unfold zbg;rw[if_neg (by rw[hill];simp)];rfl
 rw[ey]
 have e0:=zc1
 conv at e0=>zeta
 dsimp -proj -iota -eta only at e0
 replace e0:=e0.2.2.1
 refine zab (e0 r 2 p q s word _) (zcz hu hp hq hs ?_)
 (repeat' apply And.intro)<;>first|exact trivial|rfl|exact hill|exact hu|exact b1.1|exact b1.2|exact hxa|exact hr4|exact hw|decide
theorem exec3{r:Rn}{op p q s word:Int}(h:zer r p q s word)(hill:zkj op (q % 8) r.mo=false)(ho:op=3):yry r op p q s word (zbg r op p q s word):=by
 obtain⟨h1,h2,h3,hp,hq,hs,hw⟩:=h
 have hu:=h1.2.1
 have b1:0≤p % 8∧p % 8<8:=by omega
 have b2:0≤p/8 % 8∧p/8 % 8<8:=by omega
 have b3:0≤q % 8∧q % 8<8:=by omega
 have hxa:=za9 h1 b1.1 b1.2
 have hxb:=za9 h1 b2.1 b2.2
 have hr4:=zd2 h1
 have hW:=zsn (c:=q % 8)
 subst ho
 have ey:zbg r 3 p q s word=zb3 (pc4 r) (p % 8) (IntKind.u64.wrap ((zb7 r (p/8 % 8))+zfk s)):=by unfold zbg;rw[if_neg (by rw[hill];simp)];rfl
 rw[ey]
 have e0:=zc1
 conv at e0=>zeta
 dsimp -proj -iota -eta only at e0
 replace e0:=e0.2.2.2.1
 refine zab (e0 r 3 p q s word _) (zcz hu hp hq hs ?_)
 (repeat' apply And.intro)<;>first|exact trivial|rfl|exact hill|exact hu|exact b1.1|exact b1.2|exact hxa|exact hr4|exact hw|decide
theorem exec4{r:Rn}{op p q s word:Int}(h:zer r p q s word)(hill:zkj op (q % 8) r.mo=false)(ho:op=4):yrz r op p q s word (zbg r op p q s word):=by
 obtain⟨h1,h2,h3,hp,hq,hs,hw⟩:=h
 have hu:=h1.2.1
 have b1:0≤p % 8∧p % 8<8:=by omega
 have b2:0≤p/8 % 8∧p/8 % 8<8:=by omega
 have b3:0≤q % 8∧q % 8<8:=by omega
 have hxa:=za9 h1 b1.1 b1.2
 have hxb:=za9 h1 b2.1 b2.2
 have hr4:=zd2 h1
 have hW:=zsn (c:=q % 8)
 subst ho
 have ey:zbg r 4 p q s word=zb3 (pc4 r) (p % 8) (IntKind.u64.wrap ((zb7 r (p/8 % 8))*pw (s % 64))):=by unfold zbg;rw[if_neg (by rw[hill];simp)];rfl
 rw[ey]
 have e64:s.tmod 64=s % 64:=Int.tmod_eq_emod_of_nonneg hs.1
 have e0:=zc1
 conv at e0=>zeta
 dsimp -proj -iota -eta only at e0
 replace e0:=e0.2.2.2.2.1
 refine zab (e0 r 4 p q s word _) (zcz hu hp hq hs ?_)
 rw[e64]
 (repeat' apply And.intro)<;>first|(show s % 64≤(64:Int);omega)|exact trivial|rfl|exact hill|exact hu|exact b1.1|exact b1.2|exact hxa|exact hr4|exact hw|decide
theorem exec5{r:Rn}{op p q s word:Int}(h:zer r p q s word)(hill:zkj op (q % 8) r.mo=false)(ho:op=5):yr0 r op p q s word (zbg r op p q s word):=by
 obtain⟨h1,h2,h3,hp,hq,hs,hw⟩:=h
 have hu:=h1.2.1
 have b1:0≤p % 8∧p % 8<8:=by omega
 have b2:0≤p/8 % 8∧p/8 % 8<8:=by omega
 have b3:0≤q % 8∧q % 8<8:=by omega
 have hxa:=za9 h1 b1.1 b1.2
 have hxb:=za9 h1 b2.1 b2.2
 have hr4:=zd2 h1
 have hW:=zsn (c:=q % 8)
 subst ho
 have ey:zbg r 5 p q s word=ztr (pc4 r) (p % 8) (IntKind.u64.wrap ((zb7 r (p/8 % 8))+zfk s)) (pw (q % 8 % 4)):=by unfold zbg;rw[if_neg (by rw[hill];simp)];rfl
 rw[ey]
 have hP:zee (pc4 r) (IntKind.u64.wrap ((zb7 r (p/8 % 8))+zfk s)) (pw (q % 8 % 4)):=⟨hr4,h3,zel _,hW.1,hW.2⟩
 obtain⟨n1,n2,n3,n4,n5,n6,n7⟩:=zdu (kind:=1) hP
 have n7':=n7 h2
 unfold ztr
 by_cases hc:(zas (pc4 r) 1 (IntKind.u64.wrap ((zb7 r (p/8 % 8))+zfk s)) (pw (q % 8 % 4))).1.cs=0
 · rw[if_pos hc]
   have n8:=n7' hc
   rw[← n3] at n8
   have hm:=n1.1.1
   have hu2:=n1.2.1
   have e0:=zc1
   conv at e0=>zeta
   dsimp -proj -iota -eta only at e0
   replace e0:=e0.2.2.2.2.2.1
   refine zab (e0 r 5 p q s word _) (zcz hu hp hq hs ?_)
   dsimp only[zg7]
   refine⟨hill,rfl,rfl,rfl,rfl,rfl,⟨rfl,rfl,rfl,rfl,rfl,rfl,hP⟩,fun g=>absurd hc (by simpa using g),fun _ => ?_⟩
   (repeat' apply And.intro)<;>first|exact trivial|rfl|exact hm.1|exact hm.2|exact n8.1.1|exact n8.1.2.1|exact n8.1.2.2.1|exact n8.1.2.2.2|exact hu2|exact b1.1|exact b1.2
 · rw[if_neg hc]
   have e0:=zc1
   conv at e0=>zeta
   dsimp -proj -iota -eta only at e0
   replace e0:=e0.2.2.2.2.2.1
   refine zab (e0 r 5 p q s word _) (zcz hu hp hq hs ?_)
   dsimp only[zg7]
   refine⟨hill,rfl,rfl,rfl,rfl,rfl,⟨rfl,rfl,rfl,rfl,rfl,rfl,hP⟩,fun _ => ?_,fun g=>absurd (by simpa using g) hc⟩
   (repeat' apply And.intro)<;>first|exact trivial|rfl
theorem exec6{r:Rn}{op p q s word:Int}(h:zer r p q s word)(hill:zkj op (q % 8) r.mo=false)(ho:op=6):yr1 r op p q s word (zbg r op p q s word):=by
 obtain⟨h1,h2,h3,hp,hq,hs,hw⟩:=h
 have hu:=h1.2.1
 have b1:0≤p % 8∧p % 8<8:=by omega
 have b2:0≤p/8 % 8∧p/8 % 8<8:=by omega
 have b3:0≤q % 8∧q % 8<8:=by omega
 have hxa:=za9 h1 b1.1 b1.2
 have hxb:=za9 h1 b2.1 b2.2
 have hr4:=zd2 h1
 have hW:=zsn (c:=q % 8)
 subst ho
 have ey:zbg r 6 p q s word=zk9 (pc4 r) (zb7 r (p % 8)) (IntKind.u64.wrap ((zb7 r (p/8 % 8))+zfk s)) (pw (q % 8 % 4)):=by unfold zbg;rw[if_neg (by rw[hill];simp)];rfl
 rw[ey]
 have hP:zee (pc4 r) (IntKind.u64.wrap ((zb7 r (p/8 % 8))+zfk s)) (pw (q % 8 % 4)):=⟨hr4,h3,zel _,hW.1,hW.2⟩
 obtain⟨n1,n2,n3,n4,n5,n6,n7⟩:=zdu (kind:=2) hP
 have n7':=n7 h2
 unfold zk9
 by_cases hc:(zas (pc4 r) 2 (IntKind.u64.wrap ((zb7 r (p/8 % 8))+zfk s)) (pw (q % 8 % 4))).1.cs=0
 · rw[if_pos hc]
   have n8:=n7' hc
   rw[← n3] at n8
   have hm:=n1.1.1
   have hu2:=n1.2.1
   have e0:=zc1
   conv at e0=>zeta
   dsimp -proj -iota -eta only at e0
   replace e0:=e0.2.2.2.2.2.2.1
   refine zab (e0 r 6 p q s word _) (zcz hu hp hq hs ?_)
   dsimp only[zg7]
   refine⟨hill,rfl,rfl,rfl,rfl,rfl,rfl,⟨rfl,rfl,rfl,rfl,rfl,rfl,hP⟩,fun _=>⟨⟨rfl,rfl,n8.1,n8.2,hxa⟩, ?_⟩,fun g=>absurd hc (by simpa using g)⟩
   (repeat' apply And.intro)<;>first|exact trivial|rfl
 · rw[if_neg hc]
   have e0:=zc1
   conv at e0=>zeta
   dsimp -proj -iota -eta only at e0
   replace e0:=e0.2.2.2.2.2.2.1
   refine zab (e0 r 6 p q s word _) (zcz hu hp hq hs ?_)
   dsimp only[zg7]
   refine⟨hill,rfl,rfl,rfl,rfl,rfl,rfl,⟨rfl,rfl,rfl,rfl,rfl,rfl,hP⟩,fun g=>absurd (by simpa using g) hc,fun _ => ?_⟩
   (repeat' apply And.intro)<;>first|exact trivial|rfl
theorem exec7{r:Rn}{op p q s word:Int}(h:zer r p q s word)(hill:zkj op (q % 8) r.mo=false)(ho:op=7):yr2 r op p q s word (zbg r op p q s word):=by
 obtain⟨h1,h2,h3,hp,hq,hs,hw⟩:=h
 have hu:=h1.2.1
 have b1:0≤p % 8∧p % 8<8:=by omega
 have b2:0≤p/8 % 8∧p/8 % 8<8:=by omega
 have b3:0≤q % 8∧q % 8<8:=by omega
 have hxa:=za9 h1 b1.1 b1.2
 have hxb:=za9 h1 b2.1 b2.2
 have hr4:=zd2 h1
 have hW:=zsn (c:=q % 8)
 subst ho
 have ey:zbg r 7 p q s word=yqe (pc4 r) (p % 8) (zb7 r (q % 8)) (IntKind.u64.wrap ((zb7 r (p/8 % 8))+zfk s)):=by unfold zbg;rw[if_neg (by rw[hill];simp)];rfl
 rw[ey]
 have hP:zee (pc4 r) (IntKind.u64.wrap ((zb7 r (p/8 % 8))+zfk s)) 8:=⟨hr4,h3,zel _,by omega,by omega⟩
 obtain⟨n1,n2,n3,n4,n5,n6,n7⟩:=zdu (kind:=2) hP
 have n7':=n7 h2
 unfold yqe
 by_cases hc:(zas (pc4 r) 2 (IntKind.u64.wrap ((zb7 r (p/8 % 8))+zfk s)) 8).1.cs=0
 · rw[if_pos hc]
   have n8:=n7' hc
   rw[← n3] at n8
   have hm:=n1.1.1
   have hu2:=n1.2.1
   have e0:=zc1
   conv at e0=>zeta
   dsimp -proj -iota -eta only at e0
   replace e0:=e0.2.2.2.2.2.2.2.1
   refine zab (e0 r 7 p q s word _) (zcz hu hp hq hs ?_)
   dsimp only[zg7]
   refine⟨hill,rfl,rfl,rfl,rfl,rfl,rfl,rfl,⟨rfl,rfl,rfl,rfl,rfl,rfl,hP⟩,fun g=>absurd hc (by simpa using g),fun _=>⟨⟨rfl,rfl,hm,n8.1⟩,⟨rfl,rfl,n8.1,n8.2,zel _⟩,(p % 8,yl2 (zas (pc4 r) 2 (IntKind.u64.wrap ((zb7 r (p/8 % 8))+zfk s)) 8),zx0 (zas (pc4 r) 2 (IntKind.u64.wrap ((zb7 r (p/8 % 8))+zfk s)) 8) 8 (IntKind.u64.wrap (yl2 (zas (pc4 r) 2 (IntKind.u64.wrap ((zb7 r (p/8 % 8))+zfk s)) 8)+(zb7 r (q % 8))))), ?_, ?_, ?_⟩⟩
   · (repeat' apply And.intro)<;>first|exact trivial|rfl
   · (repeat' apply And.intro)<;>first|exact trivial|rfl|exact hu2|exact b1.1|exact b1.2
   · (repeat' apply And.intro)<;>first|exact trivial|rfl
 · rw[if_neg hc]
   have e0:=zc1
   conv at e0=>zeta
   dsimp -proj -iota -eta only at e0
   replace e0:=e0.2.2.2.2.2.2.2.1
   refine zab (e0 r 7 p q s word _) (zcz hu hp hq hs ?_)
   dsimp only[zg7]
   refine⟨hill,rfl,rfl,rfl,rfl,rfl,rfl,rfl,⟨rfl,rfl,rfl,rfl,rfl,rfl,hP⟩,fun _ => ?_,fun g=>absurd (by simpa using g) hc⟩
   (repeat' apply And.intro)<;>first|exact trivial|rfl
theorem exec8{r:Rn}{op p q s word:Int}(h:zer r p q s word)(hill:zkj op (q % 8) r.mo=false)(ho:op=8):yr3 r op p q s word (zbg r op p q s word):=by
 obtain⟨h1,h2,h3,hp,hq,hs,hw⟩:=h
 have hu:=h1.2.1
 have b1:0≤p % 8∧p % 8<8:=by omega
 have b2:0≤p/8 % 8∧p/8 % 8<8:=by omega
 have b3:0≤q % 8∧q % 8<8:=by omega
 have hxa:=za9 h1 b1.1 b1.2
 have hxb:=za9 h1 b2.1 b2.2
 have hr4:=zd2 h1
 have hW:=zsn (c:=q % 8)
 subst ho
 have e4:IntKind.u64.wrap (IntKind.u64.wrap (r.pc+4)-4)=r.pc:=by
  have h0:U64 r.pc:=h1.1.2.2.2.1
  have a0:=h0.1
  have a1:=h0.2
  rw[IntKind.wrap_u64,IntKind.wrap_u64]
  omega
 by_cases hc:(zb7 r (p % 8))=(zb7 r (p/8 % 8))
 · have ey:zbg r 8 p q s word=pc4 r:=by unfold zbg;rw[if_neg (by rw[hill];simp)];exact if_pos hc
   rw[ey]
   have e0:=zc1
   conv at e0=>zeta
   dsimp -proj -iota -eta only at e0
   replace e0:=e0.2.2.2.2.2.2.2.2.1
   refine zab (e0 r 8 p q s word _) (zcz hu hp hq hs ?_)
   dsimp only[zg7]
   refine⟨hill,rfl,rfl,rfl,rfl,rfl,rfl,rfl,rfl,fun g=>absurd hc (by simpa using g),fun _ => ?_⟩
   (repeat' apply And.intro)<;>first|exact trivial|rfl
 · have ey:zbg r 8 p q s word={ pc4 r with pc:=IntKind.u64.wrap (r.pc+zg5 s) }:=by
    unfold zbg
    rw[if_neg (by rw[hill];simp)]
    refine Eq.trans (if_neg hc) ?_
    show { pc4 r with pc:=IntKind.u64.wrap (IntKind.u64.wrap (IntKind.u64.wrap (r.pc+4)-4)+zg5 s) }=_
    rw[e4]
   rw[ey]
   have e0:=zc1
   conv at e0=>zeta
   dsimp -proj -iota -eta only at e0
   replace e0:=e0.2.2.2.2.2.2.2.2.1
   refine zab (e0 r 8 p q s word _) (zcz hu hp hq hs ?_)
   dsimp only[zg7]
   refine⟨hill,rfl,rfl,rfl,rfl,rfl,rfl,rfl,rfl,fun _ => ?_,fun g=>absurd (by simpa using g) hc⟩
   (repeat' apply And.intro)<;>first|exact trivial|rfl
theorem exec9{r:Rn}{op p q s word:Int}(h:zer r p q s word)(hill:zkj op (q % 8) r.mo=false)(ho:op=9):yr4 r op p q s word (zbg r op p q s word):=by
 obtain⟨h1,h2,h3,hp,hq,hs,hw⟩:=h
 have hu:=h1.2.1
 have b1:0≤p % 8∧p % 8<8:=by omega
 have b2:0≤p/8 % 8∧p/8 % 8<8:=by omega
 have b3:0≤q % 8∧q % 8<8:=by omega
 have hxa:=za9 h1 b1.1 b1.2
 have hxb:=za9 h1 b2.1 b2.2
 have hr4:=zd2 h1
 have hW:=zsn (c:=q % 8)
 subst ho
 by_cases hc:zbu (zb7 r (p % 8))=true
 · have ey:zbg r 9 p q s word={ pc4 r with sa:=(zb7 r (p % 8)) }:=by unfold zbg;rw[if_neg (by rw[hill];simp)];exact if_pos hc
   rw[ey]
   have e0:=zc1
   conv at e0=>zeta
   dsimp -proj -iota -eta only at e0
   replace e0:=e0.2.2.2.2.2.2.2.2.2.1
   refine zab (e0 r 9 p q s word _) (zcz hu hp hq hs ?_)
   dsimp only[zg7]
   refine⟨hill,rfl,rfl,rfl,rfl,rfl,rfl,rfl,rfl,rfl,hxa,fun _ => ?_,fun g=>absurd (hc.symm.trans g) (by simp)⟩
   (repeat' apply And.intro)<;>first|exact trivial|rfl
 · have ey:zbg r 9 p q s word=pc4 r:=by unfold zbg;rw[if_neg (by rw[hill];simp)];exact if_neg hc
   rw[ey]
   have e0:=zc1
   conv at e0=>zeta
   dsimp -proj -iota -eta only at e0
   replace e0:=e0.2.2.2.2.2.2.2.2.2.1
   refine zab (e0 r 9 p q s word _) (zcz hu hp hq hs ?_)
   dsimp only[zg7]
   refine⟨hill,rfl,rfl,rfl,rfl,rfl,rfl,rfl,rfl,rfl,hxa,fun g=>absurd g hc,fun _ => ?_⟩
   (repeat' apply And.intro)<;>first|exact trivial|rfl
theorem exec10{r:Rn}{op p q s word:Int}(h:zer r p q s word)(hill:zkj op (q % 8) r.mo=false)(ho:op=10):yj9 r op p q s word (zbg r op p q s word):=by
 obtain⟨h1,h2,h3,hp,hq,hs,hw⟩:=h
 have hu:=h1.2.1
 have b1:0≤p % 8∧p % 8<8:=by omega
 have b2:0≤p/8 % 8∧p/8 % 8<8:=by omega
 have b3:0≤q % 8∧q % 8<8:=by omega
 have hxa:=za9 h1 b1.1 b1.2
 have hxb:=za9 h1 b2.1 b2.2
 have hr4:=zd2 h1
 have hW:=zsn (c:=q % 8)
 subst ho
 have ey:zbg r 10 p q s word={ pc4 r with su:=za0 (zb7 r (p % 8)) 0,mx:=za0 (zb7 r (p % 8)) 1 }:=by unfold zbg;rw[if_neg (by rw[hill];simp)];rfl
 rw[ey]
 have e0:=zc1
 conv at e0=>zeta
 dsimp -proj -iota -eta only at e0
 replace e0:=e0.2.2.2.2.2.2.2.2.2.2.1
 refine zab (e0 r 10 p q s word _) (zcz hu hp hq hs ?_)
 have hb0:zi3 ((zb7 r (p % 8)),0):=⟨hxa,by show (0:Int)≤0;omega,by show (0:Int)≤62;omega⟩
 have hb1:zi3 ((zb7 r (p % 8)),1):=⟨hxa,by show (0:Int)≤1;omega,by show (1:Int)≤62;omega⟩
 dsimp only[zg7]
 refine⟨hill,rfl,rfl,rfl,rfl,rfl,rfl,rfl,rfl,rfl,rfl,hb0,hb1, ?_⟩
 (repeat' apply And.intro)<;>first|exact trivial|rfl
theorem exec11{r:Rn}{op p q s word:Int}(h:zer r p q s word)(hill:zkj op (q % 8) r.mo=false)(ho:op=11):yka r op p q s word (zbg r op p q s word):=by
 obtain⟨h1,h2,h3,hp,hq,hs,hw⟩:=h
 have hu:=h1.2.1
 have b1:0≤p % 8∧p % 8<8:=by omega
 have b2:0≤p/8 % 8∧p/8 % 8<8:=by omega
 have b3:0≤q % 8∧q % 8<8:=by omega
 have hxa:=za9 h1 b1.1 b1.2
 have hxb:=za9 h1 b2.1 b2.2
 have hr4:=zd2 h1
 have hW:=zsn (c:=q % 8)
 subst ho
 have et:(zb7 r (p/8 % 8)).tmod 65536=(zb7 r (p/8 % 8)) % 65536:=Int.tmod_eq_emod_of_nonneg hxb.1
 have ey:zbg r 11 p q s word=zeg (pc4 r) (!(p % 8==0),(zb7 r (p % 8)), !(p/8 % 8==0),(zb7 r (p/8 % 8)).tmod 65536):=by unfold zbg;rw[if_neg (by rw[hill];simp),et];rfl
 rw[ey]
 obtain⟨k1,k2,k3⟩:=hr4.1.2.2.2.2.2.2.2.2.2.2.2
 unfold zeg
 by_cases hc:(pc4 r).pl=true
 · rw[if_pos hc]
   have e0:=zc1
   conv at e0=>zeta
   dsimp -proj -iota -eta only at e0
   replace e0:=e0.2.2.2.2.2.2.2.2.2.2.2.1
   refine zab (e0 r 11 p q s word _) (zcz hu hp hq hs ?_)
   dsimp only[zg7]
   refine⟨hill,rfl,rfl,rfl,rfl,rfl,rfl,rfl,rfl,rfl,rfl,rfl,by decide,fun g=>absurd hc (by simpa using g),fun _ => ?_⟩
   (repeat' apply And.intro)<;>first|exact trivial|rfl
 · rw[if_neg hc]
   have e0:=zc1
   conv at e0=>zeta
   dsimp -proj -iota -eta only at e0
   replace e0:=e0.2.2.2.2.2.2.2.2.2.2.2.1
   refine zab (e0 r 11 p q s word _) (zcz hu hp hq hs ?_)
   dsimp only[zg7]
   refine⟨hill,rfl,rfl,rfl,rfl,rfl,rfl,rfl,rfl,rfl,rfl,rfl,by decide,fun _=>⟨⟨rfl,k1,hxa⟩,⟨rfl,k2,hxa⟩,⟨rfl,k3,hxa⟩, ?_⟩,fun g=>absurd (by simpa using g) hc⟩
   (repeat' apply And.intro)<;>first|exact trivial|rfl
theorem exec12{r:Rn}{op p q s word:Int}(h:zer r p q s word)(hill:zkj op (q % 8) r.mo=false)(ho:op=12):ykb r op p q s word (zbg r op p q s word):=by
 obtain⟨h1,h2,h3,hp,hq,hs,hw⟩:=h
 have hu:=h1.2.1
 have b1:0≤p % 8∧p % 8<8:=by omega
 have b2:0≤p/8 % 8∧p/8 % 8<8:=by omega
 have b3:0≤q % 8∧q % 8<8:=by omega
 have hxa:=za9 h1 b1.1 b1.2
 have hxb:=za9 h1 b2.1 b2.2
 have hr4:=zd2 h1
 have hW:=zsn (c:=q % 8)
 subst ho
 have ey:zbg r 12 p q s word={ pc4 r with pc:=IntKind.u64.wrap (r.ep+zg5 s),mo:=r.em }:=by unfold zbg;rw[if_neg (by rw[hill];simp)];rfl
 rw[ey]
 have e0:=zc1
 conv at e0=>zeta
 dsimp -proj -iota -eta only at e0
 replace e0:=e0.2.2.2.2.2.2.2.2.2.2.2.2.1
 refine zab (e0 r 12 p q s word _) (zcz hu hp hq hs ?_)
 (repeat' apply And.intro)<;>first|exact trivial|rfl|exact hill|exact hu|exact b1.1|exact b1.2|exact hxa|exact hr4|exact hw|decide
theorem exec13{r:Rn}{op p q s word:Int}(h:zer r p q s word)(hill:zkj op (q % 8) r.mo=false)(ho:op=13):ykc r op p q s word (zbg r op p q s word):=by
 obtain⟨h1,h2,h3,hp,hq,hs,hw⟩:=h
 have hu:=h1.2.1
 have b1:0≤p % 8∧p % 8<8:=by omega
 have b2:0≤p/8 % 8∧p/8 % 8<8:=by omega
 have b3:0≤q % 8∧q % 8<8:=by omega
 have hxa:=za9 h1 b1.1 b1.2
 have hxb:=za9 h1 b2.1 b2.2
 have hr4:=zd2 h1
 have hW:=zsn (c:=q % 8)
 subst ho
 have ey:zbg r 13 p q s word={ pc4 r with ep:=(zb7 r (p % 8)),em:=q % 8 }:=by unfold zbg;rw[if_neg (by rw[hill];simp)];rfl
 rw[ey]
 have e0:=zc1
 conv at e0=>zeta
 dsimp -proj -iota -eta only at e0
 replace e0:=e0.2.2.2.2.2.2.2.2.2.2.2.2.2.1
 refine zab (e0 r 13 p q s word _) (zcz hu hp hq hs ?_)
 (repeat' apply And.intro)<;>first|exact trivial|rfl|exact hill|exact hu|exact b1.1|exact b1.2|exact hxa|exact hr4|exact hw|decide
theorem exec14{r:Rn}{op p q s word:Int}(h:zer r p q s word)(hill:zkj op (q % 8) r.mo=false)(ho:op=14):ykd r op p q s word (zbg r op p q s word):=by
 obtain⟨h1,h2,h3,hp,hq,hs,hw⟩:=h
 have hu:=h1.2.1
 have b1:0≤p % 8∧p % 8<8:=by omega
 have b2:0≤p/8 % 8∧p/8 % 8<8:=by omega
 have b3:0≤q % 8∧q % 8<8:=by omega
 have hxa:=za9 h1 b1.1 b1.2
 have hxb:=za9 h1 b2.1 b2.2
 have hr4:=zd2 h1
 have hW:=zsn (c:=q % 8)
 subst ho
 have ey:zbg r 14 p q s word=zd1 (pc4 r) (IntKind.i64.wrap (8+r.mo)) 0:=by unfold zbg;rw[if_neg (by rw[hill];simp)];rfl
 rw[ey]
 have e0:=zc1
 conv at e0=>zeta
 dsimp -proj -iota -eta only at e0
 replace e0:=e0.2.2.2.2.2.2.2.2.2.2.2.2.2.2.1
 refine zab (e0 r 14 p q s word _) (zcz hu hp hq hs ?_)
 (repeat' apply And.intro)<;>first|exact trivial|rfl|exact hill|exact hu|exact b1.1|exact b1.2|exact hxa|exact hr4|exact hw|decide
theorem exec15{r:Rn}{op p q s word:Int}(h:zer r p q s word)(hill:zkj op (q % 8) r.mo=false)(o1:op≠1)(o2:op≠2)(o3:op≠3)(o4:op≠4)(o5:op≠5)(o6:op≠6)(o7:op≠7)(o8:op≠8)(o9:op≠9)(o10:op≠10)(o11:op≠11)(o12:op≠12)(o13:op≠13)(o14:op≠14):yke r op p q s word (zbg r op p q s word):=by
 obtain⟨h1,h2,h3,hp,hq,hs,hw⟩:=h
 have hu:=h1.2.1
 have b1:0≤p % 8∧p % 8<8:=by omega
 have b2:0≤p/8 % 8∧p/8 % 8<8:=by omega
 have b3:0≤q % 8∧q % 8<8:=by omega
 have hxa:=za9 h1 b1.1 b1.2
 have hxb:=za9 h1 b2.1 b2.2
 have hr4:=zd2 h1
 have hW:=zsn (c:=q % 8)
 have ey:zbg r op p q s word=zd1 (pc4 r) 2 word:=by unfold zbg doM;rw[if_neg (by rw[hill];simp),if_neg o1,if_neg o2,if_neg o3,if_neg o4,if_neg o5,if_neg o6,if_neg o7,if_neg o8,if_neg o9,if_neg o10,if_neg o11,if_neg o12,if_neg o13,if_neg o14]
 rw[ey]
 have bq:∀k:Int,op≠k→(op==k)=false:=fun k hk=>by simpa using hk
 have e0:=zc1
 conv at e0=>zeta
 dsimp -proj -iota -eta only at e0
 replace e0:=e0.2.2.2.2.2.2.2.2.2.2.2.2.2.2.2
 refine zab (e0 r op p q s word _) (zcz hu hp hq hs ?_)
 refine⟨hill,bq _ o1,bq _ o2,bq _ o3,bq _ o4,bq _ o5,bq _ o6,bq _ o7,bq _ o8,bq _ o9,bq _ o10,bq _ o11,bq _ o12,bq _ o13,bq _ o14, ?_⟩
 (repeat' apply And.intro)<;>first|exact trivial|rfl
theorem yhk:Sound Tryz.prog 208 (ztv [ruP,i64,i64,i64,i64,u64] [ruP] (fun t=>some (zer (Rn.of t.1) t.2.2.1 t.2.2.2.1 t.2.2.2.2.1 t.2.2.2.2.2)) (fun t=>(zbg (Rn.of t.1) t.2.1 t.2.2.1 t.2.2.2.1 t.2.2.2.2.1 t.2.2.2.2.2).t)):=by
 refine zhk mixed Tryz.func208 (by kernel_rfl) (by kernel_rfl) ysh (fun t h => ?_)
 obtain⟨x,op,p,q,s,word⟩:RnT × Int × Int × Int × Int × Int:=t
 have h:zer (Rn.of x) p q s word:=h
 suffices g:∃Ξ:Specs,zi2 Tryz.prog FEG1 Ξ Tryz.f208 [ruP,i64,i64,i64,i64,u64] [ruP] ((Rn.of x).t,op,p,q,s,word) (zbg (Rn.of x) op p q s word).t from g
 generalize Rn.of x=r at *
 cases hill:zkj op (q % 8) r.mo with
 | true=>exact⟨_,exec0 h hill⟩
 | false =>
  by_cases o1:op=1
  · exact⟨_,exec1 h hill o1⟩
  by_cases o2:op=2
  · exact⟨_,exec2 h hill o2⟩
  by_cases o3:op=3
  · exact⟨_,exec3 h hill o3⟩
  by_cases o4:op=4
  · exact⟨_,exec4 h hill o4⟩
  by_cases o5:op=5
  · exact⟨_,exec5 h hill o5⟩
  by_cases o6:op=6
  · exact⟨_,exec6 h hill o6⟩
  by_cases o7:op=7
  · exact⟨_,exec7 h hill o7⟩
  by_cases o8:op=8
  · exact⟨_,exec8 h hill o8⟩
  by_cases o9:op=9
  · exact⟨_,exec9 h hill o9⟩
  by_cases o10:op=10
  · exact⟨_,exec10 h hill o10⟩
  by_cases o11:op=11
  · exact⟨_,exec11 h hill o11⟩
  by_cases o12:op=12
  · exact⟨_,exec12 h hill o12⟩
  by_cases o13:op=13
  · exact⟨_,exec13 h hill o13⟩
  by_cases o14:op=14
  · exact⟨_,exec14 h hill o14⟩
  exact⟨_,exec15 h hill o1 o2 o3 o4 o5 o6 o7 o8 o9 o10 o11 o12 o13 o14⟩
end Go.Proofs.YtfiddfbagbaofaaGreat.V
