/- Draws that read a cache or a hart (seat G). Conditions: those in each statement. -/
import Derived.Test.YtfiddfbagbaofaaGreatEN
import Derived.KernelRfl
namespace Go.Proofs.YtfiddfbagbaofaaGreat.V
open Go
def FEO:Dict:=mkD (kE2++yvj++yvr) [] []
abbrev spoil1:RelS:=zkh [tlP] [tlP] ((0,0,[]):Tl) (fun t:Tl=>TlR t∧1≤t.2.2.length∧t.2.2.length≤1000) (fun  (t z:Tl)=>TlR z∧z.2.2.length=t.2.2.length)
abbrev ctx1:RelS:=zkh [haP] [zds] ((0,false,false,0):Ct) (fun h:Ha=>HaV h) (fun _ (c:Ct)=>(-1≤c.1∧c.1≤4)∧U64 c.2.2.2)
def zTlA:List Av:=[.v (.int .i64 0),.v (.int .i64 0),.v (.slice none 0 0)]
def ywq(k i:Int):List Av:=slots 68 [(0,.ptr 0 0),(3,.ptr 3 0),(4,.ptr 4 0),(5,.ptr 5 0),(6,.v (.int .i64 k)),(7,.v (.int .i64 i)),(8,.ptr 7 0)]
def spHp(m:By)(s w:Int)(es:Es)(w':Int)(e:En)(ci ch:Int):Heap:=zff m ci ch++[.arr shE es false,.fix (tlA s w 2 es.length) true (some 37),.fix zTlA true (some 37),.fix (tlA s w' 6 es.length) true (some 37),.arr shE es true,.fix (yqh e) true (some 47)]
def ywo(m:By)(s w:Int)(es:Es)(r:Nat):Option CutW :=
 if r=6∨r=8∨r=10∨r=12∨r=14∨r=16∨r=18 then some { β:=Int × En × Int × Int × Int × Int,sl:=fun z=>ywq z.2.2.1 z.2.2.2.1,H:=fun z=>spHp m s w es z.1 z.2.1 z.2.2.2.2.1 z.2.2.2.2.2 } else none
def spoX(m:By)(s w:Int)(es:Es):SpecW:={ plan:=fun _=>some (fun _ => .std),cond:=ywo m s w es }
def yni(m:By)(i h:Int)(s w:Int)(es:Es):Prop:=vcR Tryz.prog FEO (Rels.of zu1) (spoX m s w es) Tryz.f115 spoil1 (.ptr 0 0::(zap false [tlP] (s,w,es) 2).1) (zff m i h++(zap false [tlP] (s,w,es) 2).2)
def ctA(c:Ct):List Av:=[.v (.int .i64 c.1),.v (.bool c.2.1),.v (.bool c.2.2.1),.v (.int .u64 c.2.2.2)]
def yus(m:By)(rows:Heap)(r:Nat):Option CutW :=
 if r=3 then some { β:=Ct × Int × Int,sl:=fun _=>slots 51 [(0,.ptr 0 0),(4,.ptr 7 0),(5,.ptr 8 0)],H:=fun z=>zff m z.2.1 z.2.2++rows++[.fix (ctA (0,false,false,0)) true (some 65),.fix (ctA z.1) true (some 65)] }
 else if r=6∨r=8∨r=11∨r=13 then some { β:=Int × Ct × Int × Int,sl:=fun z=>slots 51 [(0,.ptr 0 0),(4,.ptr 7 0),(5,.ptr 8 0),(6,.v (.int .i64 z.1))],H:=fun z=>zff m z.2.2.1 z.2.2.2++rows++[.fix (ctA (0,false,false,0)) true (some 65),.fix (ctA z.2.1) true (some 65)] }
 else none
def roH(r:Rn):Heap:=[.arr [.i .u8] r.m false,.arr [.i .u64] r.u false,.arr shE r.m1 false,.arr shE r.m2 false,.arr shE r.m3 false]
def ctX(m:By)(r:Rn):SpecW:={ plan:=fun _=>some (fun _ => .std),cond:=yus m (roH r) }
def yw0(m:By)(i h:Int)(r:Rn):Prop:=vcR Tryz.prog FEO (Rels.of zu1) (ctX m r) Tryz.f111 ctx1 (.ptr 0 0::(zap false [haP] r.h 2).1) (zff m i h++(zap false [haP] r.h 2).2)
set_option linter.unusedVariables false
set_option maxRecDepth 10000
theorem zx4(m:By)(i h:Int)(s w:Int)(es:Es):yni m i h s w es=(
 let A0:=List.length es;
 let A1(a:Int × En × Int × Int × Int × Int):=a.snd.fst.snd.snd.snd;
 let A2(a b c:Prop):=a∧b∧c;
 let A3:=List.length m;
 let A4(a b c d e:Prop):=A2 a b (A2 c d e);
 let A5:=(0:Nat)=0;
 let A6(a b:Int)(c d e f:Prop):=A4 (a=b) c d e f;
 let A7(a:Int × En × Int × Int × Int × Int):=a.snd.snd.fst;
 let A8(a:Int × En × Int × Int × Int × Int):=a.snd.snd.snd.fst;
 let A9(a b:Int)(c d:Prop)(e f:Int)(g:Prop):=A6 a b c d (e=f) g;
 let Aa(a:Int × En × Int × Int × Int × Int):=(A1 a).snd.snd;
 let Ab(a:Int × En × Int × Int × Int × Int):=a.snd.fst.snd.snd.fst;
 let Ac(a:Int × En × Int × Int × Int × Int):=a.snd.fst.fst;
 let Ad(a:Int × En × Int × Int × Int × Int):=a.snd.snd.snd.snd.snd;
 let Ae(a:Int × En × Int × Int × Int × Int):=(A1 a).fst;
 let Af:=Value.slice none 0 0;
 let Ah(a b:Int)(c:Prop)(d e f g:Int)(h i:Prop)(j k:Int)(l:Prop):=A9 a b A5 c d e (A9 f g h i j k l);
 let Ai(a:Int × En × Int × Int × Int × Int):=a.snd.fst.snd.fst;
 let Aj(a:Int × En × Int × Int × Int × Int):=(A1 a).snd.fst;
 let Ak(a:Int × En × Int × Int × Int × Int):=a.snd.snd.snd.snd.fst;
 let Al:=zj1 Fz.none Fz.none;
 let Am(a b:Int × En × Int × Int × Int × Int)(c:Bool)(d e f g:Int):=Ah (A8 a) (A8 b) (A3=A3) (Ak a) (Ak b) (Ad a) (Ad b) (m=m) (es=es) s s (Ah w w (A0=A0) 0 0 0 0 (Af=Af) (s=s) a.fst
  b.fst (A4 A5 (A0=A0) (es=es) (Ac a=c) (A6 (Ai a) d (Ab a=e) (Ae a=f) (Aj a=Aj b) (Aa a=g))));
 let An(a b:Int × En × Int × Int × Int × Int)(c:Bool)(d e f:Int):=A7 a=A7 b∧Am a b c d e (Ae b) f;
 let Ao(a:PmT [i64] × Int × Int):=(0:Nat)+Int.toNat a.fst;
 let Ap(a:PmT [i64] × Int × Int):=List.getD es (Ao a) (El.zero shE);
 let Aq(a b:Int × En × Int × Int × Int × Int)(c:Int)(d:Int × En × Int × Int × Int × Int→Prop):=A2 (An a b (Ac b) (Ai b) (Ab b) c) Al (d a);
 let Ar(a b:Int × En × Int × Int × Int × Int)(c:Int × En × Int × Int × Int × Int→Prop):=Aq a b (Aa b) c;
 let Au:=(↑A0:Int);
 let Aw(a:Int)(b c:Prop):=A2 (zbe m a) b c;
 let Ax(a:PmT [i64] × Int × Int):=(Ap a).snd.snd.snd;
 let Ay(a:Int × En × Int × Int × Int × Int)(b c:PmT [i64] × Int × Int)(d:Int)(e:Int × En × Int × Int × Int × Int→Prop):=A2 (A7 a=b.fst∧A4 (A8 a=c.fst) A5 (A3=A3) (Ak a=c.snd.fst) (A9 (Ad a) c.snd.snd (m=m) (es =
  es) s s (Ah w w (A0=A0) 0 0 0 0 (Af=Af) (s=s) a.fst d (A4 A5 (A0=A0) (es=es) (Ac a=(Ap c).fst) (A4 (Ai a=(Ap c).snd.fst) (Ab a=(Ap c).snd.snd.fst) (Ae a=(Ax c).fst) (Aj a=(Ax c).snd.fst)
  (Aa a=(Ax c).snd.snd)))))) Al (e a);
 let Az(a:Int × En × Int × Int × Int × Int):=(0:Nat)+(A8 a).toNat;
 let AB(a:Int):=IntKind.i64.wrap (a+1);
 let AC(a:Int × En × Int × Int × Int × Int)(b:Int)(c d e:Prop):=(((A7 a==b)=true→c)∧((A7 a==b)=false→d))∧e;
 let AD(a:PmT [i64] × Int × Int)(b:Bool)(c:Prop):=(a.fst==0)=b→c;
 let AE(a b:Int):=A3=A3∧Aw a ((1:Int)≤b) (b≤100000);
 let AF(a:PmT [i64] × Int × Int)(b:Int):=Aw a.snd.fst ((0:Int)≤a.fst) (a.fst<b);
 A2 (A0=A0∧SzR A0) (AE i 7) (∀(x0:PmT [i64] × Int × Int),AF x0 7→AE x0.snd.fst Au∧∀(x1:PmT [i64] × Int × Int),AF x1 Au→A2 ((0:Int)≤x1.fst∧x1.fst<Au) (Ao x1<A0) (∃(x2:Int × En × Int ×
  Int × Int × Int→Prop),(AD x0 true (∃(x3:Int × En × Int × Int × Int × Int),Ay x3 x0 x1 (AB w) x2)∧AD x0 false (∃(x4:Int × En × Int × Int × Int × Int),Ay x4 x0 x1 w x2))∧∀(x5:Int × En × Int × Int × Int × Int),
  x2 x5→∃(x6:Int × En × Int × Int × Int × Int→Prop),AC x5 1 (∃(x7:Int × En × Int × Int × Int × Int),A2 (An x7 x5 (Ac x5) (Ai x5) (IntKind.u64.wrap (Ab x5+1)) (Aa x5)) Al (x6 x7)) (∃(x8:Int × En ×
  Int × Int × Int × Int),Ar x8 x5 x6) (∀(x9:Int × En × Int × Int × Int × Int),x6 x9→∃(x10:Int × En × Int × Int × Int × Int→Prop),AC x9 2 (∃(x11:Int × En × Int × Int × Int × Int),Aq x11 x9 (bits BinOp.xor
  IntKind.u64 (Aa x9) 32) x10) (∃(x12:Int × En × Int × Int × Int × Int),Ar x12 x9 x10) (∀(x13:Int × En × Int × Int × Int × Int),x10 x13→∃(x14:Int × En × Int × Int × Int × Int→Prop),AC x13 3 (∃(x15
  : Int × En × Int × Int × Int × Int),A2 (A7 x15=A7 x13∧Am x15 x13 (Ac x13) (Ai x13) (Ab x13) 65536 (Aa x13)) Al (x14 x15)) (∃(x16:Int × En × Int × Int × Int × Int),Ar x16 x13 x14) (∀(x17:Int × En × Int ×
  Int × Int × Int),x14 x17→∃(x18:Int × En × Int × Int × Int × Int→Prop),AC x17 4 (∃(x19:Int × En × Int × Int × Int × Int),A2 (An x19 x17 (Ac x17) (AB (Ai x17)) (Ab x17) (Aa x17)) Al (x18 x19)) (∃(x20:Int
  × En × Int × Int × Int × Int),Ar x20 x17 x18) (∀(x21:Int × En × Int × Int × Int × Int),x18 x21→∃(x22:Int × En × Int × Int × Int × Int→Prop),AC x21 5 (∃(x23:Int × En × Int × Int × Int × Int),A2 (An x23 x21
  (!Ac x21) (Ai x21) (Ab x21) (Aa x21)) Al (x22 x23)) (∃(x24:Int × En × Int × Int × Int × Int),Ar x24 x21 x22) (∀(x25:Int × En × Int × Int × Int × Int),x22 x25→∃(x26:Int × En × Int × Int × Int × Int→Prop),AC x25
  6 (∃(x27:Int × En × Int × Int × Int × Int),Aq x27 x25 (bits BinOp.xor IntKind.u64 (Aa x25) 1) x26) (∃(x28:Int × En × Int × Int × Int × Int),Ar x28 x25 x26) (∀(x29:Int × En × Int × Int × Int × Int),x26
  x29→A2 ((0:Int)≤A8 x29∧A8 x29<Au) (Az x29<A0) (∃(x30:PmT [tlP] × Int × Int),A2 (x30.fst.fst=s) (x30.fst.snd.fst=x29.fst) (A4 A5 (List.length x30.fst.snd.snd=A0) A5 (A3=A3) (A6 x30.snd.fst (Ak x29)
  (x30.snd.snd=Ad x29) (m=m) (es=es) (x30.fst.snd.snd=List.set es (Az x29) (Ac x29,Ai x29,Ab x29,Ae x29,Aj x29,Aa x29))))∧Aw x30.snd.fst (TlR x30.fst) (List.length x30.fst.snd.snd=A0))))))))))):=by kernel_rfl
theorem yhy(m:By)(i h:Int)(r:Rn):yw0 m i h r=(
 let A0:=Int.ofNat 0;
 let A1:=List.length m;
 let A2(a b c:Prop):=a∧b∧c;
 let A3(a b c d e:Prop):=A2 a b (A2 c d e);
 let A4(a b c d e f g h i:Prop):=A3 a b c d (A3 e f g h i);
 let A5(a:Int × Ct × Int × Int):=a.snd.fst.snd.snd.fst;
 let A6(a:Int × Ct × Int × Int):=a.snd.fst.snd.fst;
 let A7(a:Int × Ct × Int × Int):=a.snd.fst.fst;
 let A8(a:Int × Ct × Int × Int):=a.snd.snd.fst;
 let A9:=false=false;
 let Aa:=(0:Nat)=0;
 let Ab(a:Int × Ct × Int × Int):=a.snd.fst.snd.snd.snd;
 let Ac(a:Int × Ct × Int × Int):=a.snd.snd.snd;
 let Ad:=zj1 Fz.none Fz.none;
 let Ae(a:PmT [i64] × Int × Int):=a.snd.fst;
 let Af(a:Int)(b c:Prop):=A2 (zbe m a) b c;
 let Ah(a:Prop)(b:Int × Ct × Int × Int)(c d e f:Int)(g h:Bool)(i:Prop)(j:Int × Ct × Int × Int→Prop):=A2 (A2 a Aa (A4 (A1=A1) (A8 b=c) (Ac b=d) (m=m) (r.1=r.1) (r.2=r.2) (r.15=r.15) (r.18=r.18) (A4 (r.21
  = r.21) (A0=e) A9 A9 (A0=e) (A7 b=f) (A6 b=g) (A5 b=h) i))) Ad (j b);
 let Ai(a:Int):=a≤100000;
 let Aj(a b:Int × Ct × Int × Int)(c d:Int)(e f:Bool)(g:Int)(h:Int × Ct × Int × Int→Prop):=Ah (a.fst=b.fst) a c d A0 (A7 b) e f (Ab a=g) h;
 let Ak(a:PmT [i64] × Int × Int)(b c:Prop):=Af (Ae a) b c;
 let Al(a:Int):=(1:Int)≤a;
 let Am(a:Ct × Int × Int):=a.fst.snd.snd;
 let An(a:PmT [i64] × Int × Int):=a.snd.snd;
 let Ao(a:PmT [i64] × Int × Int)(b:Int):=Ak a ((0:Int)≤a.fst) (a.fst<b);
 let Ap(a:Bool)(b c d:Prop):=((a=true→b)∧(a=false→c))∧d;
 let Aq:=A1=A1;
 let Ar(a b:Prop):=(Aq∧a)∧b;
 let Au(a b:Int × Ct × Int × Int)(c:Int × Ct × Int × Int→Prop):=Aj a b (A8 b) (Ac b) (A6 b) (A5 b) (Ab b) c;
 let Aw(a:Int)(b c d:Prop):=Ar (Af a b c) d;
 let Ax(a:PmT [i64] × Int × Int):=Ao a 2;
 let Ay(a:PmT [zds] × Int × Int)(b:Int × Ct × Int × Int):=(a.fst.fst=A7 b∧A3 (a.fst.snd.fst=A6 b) (a.fst.snd.snd.fst=A5 b) (a.fst.snd.snd.snd=Ab b) Aa (A4 Aq (a.snd.fst=A8 b) (a.snd.snd=Ac b) (m=m) (r.1=r.1) (r.2 =
  r.2) (r.15=r.15) (r.18=r.18) (r.21=r.21)))∧Af a.snd.fst ((-1)≤a.fst.fst∧a.fst.fst≤4) (U64 a.fst.snd.snd.snd);
 let Az(a:Int × Ct × Int × Int)(b c d:Prop):=Ap (a.fst==1) b c d;
 let AB(a:PmT [i64] × Int × Int):=IntKind.i64.wrap (a.fst-1);
 let AC(a b:Int × Ct × Int × Int)(c:PmT [u64] × Int × Int)(d:Int × Ct × Int × Int→Prop):=Ah (a.fst=b.fst) a c.snd.fst c.snd.snd A0 (A7 b) (A6 b) (A5 b) (Ab a=c.fst) d;
 let AD(a b:Int × Ct × Int × Int)(c:Int × Ct × Int × Int→Prop):=Aj a b (A8 b) (Ac b) (!A6 b) (!A5 b) (Ab b) c;
 let AE(a b:Int × Ct × Int × Int)(c:PmT [i64] × Int × Int)(d:Int × Ct × Int × Int→Prop):=Aj a b (Ae c) (An c) (A6 b) (A5 b) (zng (IntKind.i64.wrap ((1:Int)+c.fst)) 2) d;
 let AF(a:Int × Ct × Int × Int)(b c:PmT [i64] × Int × Int)(d:Int)(e:Ct × Int × Int)(f:Int × Ct × Int × Int→Prop):=Ah (a.fst=b.fst) a (Ae c) (An c) A0 d e.fst.snd.fst (Am e).fst (Ab a=(Am e).snd) f;
 let AG(a:Int × Ct × Int × Int)(b c:PmT [i64] × Int × Int)(d:Int)(e:Int × Ct × Int × Int→Prop):=Ah (a.fst=b.fst) a (Ae c) (An c) 0 d r.5 r.6 (Ab a=r.7) e;
 let AH(a:PmT [u64] × Int × Int)(b:Prop):=zbe m a.snd.fst∧U64 a.fst→b;
 let AI(a:Ct × Int × Int)(b:PmT [i64] × Int × Int)(c:Prop)(d:Ct × Int × Int→Prop):=A2 (Aa∧A4 Aq (a.snd.fst=Ae b) (a.snd.snd=An b) (m=m) (r.1=r.1) (r.2=r.2) (r.15=r.15) (r.18=r.18) (A4 (r.21=r.21) (A0=(0 :
  Int)) A9 A9 (A0=0) c (a.fst.snd.fst=r.5) ((Am a).fst=r.6) ((Am a).snd=r.7))) Ad (d a);
 let AJ(a:Int × Ct × Int × Int)(b c d:Prop):=Ap (a.fst==2) (Aw (A8 a) (Al 2) (Ai 2) b) c d;
 let AK:=r.4==2;
 let AL(a:PmT [i64] × Int × Int)(b c d:Prop):=Ap (a.fst==0) (Ar (Ak a (Al 5) (Ai 5)) b) c d;
 let AM(a:Int)(b:Prop):=Aw a (Al 14) (Ai 14) b;
 let AN(a:Int × Ct × Int × Int)(b c d:Prop):=Ap (a.fst==3) (A2 Aq (zbe m (A8 a)) True∧b) c d;
 let AO:=List.length r.15;
 let AP:=List.length r.18;
 let AQ:=List.length r.21;
 A2 (A3 (List.length r.1=List.length r.1) (List.length r.2=List.length r.2) (AO=AO) (AP=AP) (AQ=AQ)) (AK=true→Aw i (Al 8) (Ai 8) (∀(x0:PmT [i64] × Int × Int),Ao x0 8→∃(x1:Ct × Int × Int →
  Prop),Ap (decide (x0.fst>0)) (Ar (Ak x0 (Al 2) (Ai 2)) (∀(x2:PmT [i64] × Int × Int),Ax x2→∃(x3:Ct × Int × Int),AI x3 x2 (x3.fst.fst=x2.fst) x1)) (∃(x4:Ct × Int × Int),AI x4 x0
  (x4.fst.fst=r.4) x1) (∀(x5:Ct × Int × Int),x1 x5→AM x5.snd.fst (∀(x6:PmT [i64] × Int × Int),Ao x6 14→∃(x7:Int × Ct × Int × Int→Prop),AL x6 (∀(x8:PmT [i64] × Int × Int),Ao x8 5→∃(x9 :
  Int × Ct × Int × Int),AF x9 x6 x8 (AB x8) x5 x7) (∃(x10:Int × Ct × Int × Int),AF x10 x6 x6 x5.fst.fst x5 x7) (∀(x11:Int × Ct × Int × Int),x7 x11→∃(x12:Int × Ct × Int × Int→Prop),Az x11 (∃(x13:Int × Ct
  × Int × Int),AD x13 x11 x12) (∃(x14:Int × Ct × Int × Int),Au x14 x11 x12) (∀(x15:Int × Ct × Int × Int),x12 x15→∃(x16:Int × Ct × Int × Int→Prop),AJ x15 (∀(x17:PmT [i64] × Int × Int),Ax x17→∃(x18:Int ×
  Ct × Int × Int),AE x18 x15 x17 x16) (∃(x19:Int × Ct × Int × Int),Au x19 x15 x16) (∀(x20:Int × Ct × Int × Int),x16 x20→∃(x21:Int × Ct × Int × Int→Prop),AN x20 (∀(x22:PmT [u64] × Int × Int),AH x22 (∃(x23
  : Int × Ct × Int × Int),AC x23 x20 x22 x21)) (∃(x24:Int × Ct × Int × Int),Au x24 x20 x21) (∀(x25:Int × Ct × Int × Int),x21 x25→∃(x26:PmT [zds] × Int × Int),Ay x26 x25)))))))) (AK=false→AM i (∀(x27:PmT
  [i64] × Int × Int),Ao x27 14→∃(x28:Int × Ct × Int × Int→Prop),AL x27 (∀(x29:PmT [i64] × Int × Int),Ao x29 5→∃(x30:Int × Ct × Int × Int),AG x30 x27 x29 (AB x29) x28) (∃(x31:Int × Ct × Int ×
  Int),AG x31 x27 x27 r.4 x28) (∀(x32:Int × Ct × Int × Int),x28 x32→∃(x33:Int × Ct × Int × Int→Prop),Az x32 (∃(x34:Int × Ct × Int × Int),AD x34 x32 x33) (∃(x35:Int × Ct × Int × Int),Au x35 x32 x33) (∀
  (x36:Int × Ct × Int × Int),x33 x36→∃(x37:Int × Ct × Int × Int→Prop),AJ x36 (∀(x38:PmT [i64] × Int × Int),Ax x38→∃(x39:Int × Ct × Int × Int),AE x39 x36 x38 x37) (∃(x40:Int × Ct × Int × Int),Au x40 x36
  x37) (∀(x41:Int × Ct × Int × Int),x37 x41→∃(x42:Int × Ct × Int × Int→Prop),AN x41 (∀(x43:PmT [u64] × Int × Int),AH x43 (∃(x44:Int × Ct × Int × Int),AC x44 x41 x43 x42)) (∃(x45:Int × Ct × Int × Int),Au
  x45 x41 x42) (∀(x46:Int × Ct × Int × Int),x42 x46→∃(x47:PmT [zds] × Int × Int),Ay x47 x46))))))):=by kernel_rfl
set_option linter.unusedSimpArgs false
set_option linter.unusedVariables false
set_option maxRecDepth 4000
theorem ynv:DictOk Tryz.prog FEO:=za1 ((yog.append zpm).append (.cons (by kernel_rfl) zmv .nil)) .nil .nil
theorem exSp{p:Int × En × Int × Int × Int × Int→Prop}{a:Int}{b1:Bool}{b2 b3 b4:Int}{b5:Bool}{b6 c d e f:Int}(h:p (a,(b1,b2,b3,b4,b5,b6),c,d,e,f)):∃z,p z:=⟨_,h⟩
def SpJ(m:By)(n:Nat)(q:Int × En × Int × Int × Int × Int):Prop:=EnR q.2.1∧I64 q.1∧(0≤q.2.2.2.1∧q.2.2.2.1<n)∧zbe m q.2.2.2.2.1
theorem wrapS(x:Int):I64 (IntKind.i64.wrap x):=by unfold I64;rw[IntKind.wrap_i64];omega
theorem yor{x:Int}{n:Nat}(h:0≤x)(g:x<(n:Int)):x.toNat<n:=by omega
theorem zvz{es:Es}(h:∀e ∈ es,EnR e)(k:Nat):EnR (es.getD k (El.zero shE)):=by
 rw[List.getD_eq_getElem?_getD]
 cases hk:es[k]? with
 | none=>exact⟨zye,zie,zie,zie⟩
 | some e=>exact h e (List.mem_of_getElem? hk)
theorem yhd:zcm Tryz.prog 115 spoil1:=by
 refine zhm Tryz.func115 (by kernel_rfl) ynv ze3 (fun m i hh (t:Tl) hc hx=>⟨spoX m t.1 t.2.1 t.2.2,zbw (by kernel_rfl), ?_⟩)
 obtain⟨s,w,es⟩:=t
 obtain⟨⟨t1,t2,t3,t4⟩,l1,l2⟩:=hx
 dsimp only at t1 t2 t3 t4 l1 l2
 have hen:=zvz t4
 refine zah (zx4 m i hh s w es) ?_
 conv=>zeta
 simp only[and_imp,true_and,and_true,Nat.zero_add]
 repeat' first
  | exact rfl
  | assumption
  | exact wrapS _
  | exact zct _
  | exact zo9 _ _ _
  | exact za8
  | exact (hen _).1
  | exact (hen _).2.1
  | exact (hen _).2.2.1
  | exact (hen _).2.2.2
  | exact yor (by assumption) (by assumption)
  | (show (_:Int)≤_;omega)
  | (show (_:Nat)<_;omega)
  | (apply exSp;dsimp only)
  | (show SpJ _ _ _;unfold SpJ EnR;dsimp only)
  | (intro q hq;obtain⟨⟨q1,q2,q3,q4⟩,q5,q6,q7⟩:SpJ m es.length q:=hq)
  | intro _
  | refine⟨SpJ m es.length, ?_, ?_⟩
  | apply And.intro
 refine⟨((s,q.1,es.set q.2.2.2.1.toNat q.2.1),q.2.2.2.2.1,q.2.2.2.2.2),⟨rfl,rfl,List.length_set,rfl,rfl,rfl⟩,q7,⟨t1,q5,by show SzR (es.set _ _).length;rw[List.length_set];exact t3,fun e he => ?_⟩,List.length_set⟩
 rcases List.mem_or_eq_of_mem_set he with g|g
 · exact t4 e g
 · rw[g];exact⟨q1,q2,q3,q4⟩
def CtJ(m:By)(q:Int × Ct × Int × Int):Prop:=(-1≤q.2.1.1∧q.2.1.1≤4)∧U64 q.2.1.2.2.2∧zbe m q.2.2.1
def CtJ0(m:By)(q:Ct × Int × Int):Prop:=(-1≤q.1.1∧q.1.1≤4)∧U64 q.1.2.2.2∧zbe m q.2.1
theorem exCt{p:Int × Ct × Int × Int→Prop}{a b1:Int}{b2 b3:Bool}{b4 c d:Int}(h:p (a,(b1,b2,b3,b4),c,d)):∃z,p z:=⟨_,h⟩
theorem exCt0{p:Ct × Int × Int→Prop}{b1:Int}{b2 b3:Bool}{b4 c d:Int}(h:p ((b1,b2,b3,b4),c,d)):∃z,p z:=⟨_,h⟩
theorem md_1{x:Int}(h:0≤x)(g:x<2) : -1≤x∧x≤4:=by omega
theorem md_2{x:Int}(h:0≤x)(g:x<5) : -1≤IntKind.i64.wrap (x-1)∧IntKind.i64.wrap (x-1)≤4:=by rw[zaa (by omega) (by omega)];omega
theorem yqd:zcm Tryz.prog 111 ctx1:=by
 refine zhm Tryz.func111 (by kernel_rfl) ynv ze3 (fun m i hh (t:Ha) hc hx=>⟨ctX m (Rn.ofH t),zbw (by kernel_rfl), ?_⟩)
 have ht:t=(Rn.ofH t).h:=rfl
 have hm : -1≤(Rn.ofH t).mo∧(Rn.ofH t).mo≤4:=by have:=hx.2.2.2.1;omega
 have hs:U64 (Rn.ofH t).sa:=hx.1.2.2.2.2.2.1
 rw[ht]
 generalize Rn.ofH t=r at hm hs
 refine zah (yhy m i hh r) ?_
 conv=>zeta
 simp only[and_imp,true_and,and_true,Nat.zero_add]
 repeat' first
  | exact rfl
  | assumption
  | exact zct _
  | exact zbq _ _
  | exact za8
  | exact md_1 (by assumption) (by assumption)
  | exact md_2 (by assumption) (by assumption)
  | (show (_:Int)≤_;decide)
  | (apply exCt;dsimp only)
  | (apply exCt0;dsimp only)
  | (show CtJ _ _;unfold CtJ;dsimp only)
  | (show CtJ0 _ _;unfold CtJ0;dsimp only)
  | (intro q hq;obtain⟨q1,q2,q3⟩:CtJ m q:=hq)
  | (intro q hq;obtain⟨q1,q2,q3⟩:CtJ0 m q:=hq)
  | intro _
  | refine⟨CtJ m, ?_, ?_⟩
  | refine⟨CtJ0 m, ?_, ?_⟩
  | apply And.intro
end Go.Proofs.YtfiddfbagbaofaaGreat.V
