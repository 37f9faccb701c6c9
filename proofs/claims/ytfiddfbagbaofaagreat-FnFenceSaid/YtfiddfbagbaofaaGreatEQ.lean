/- Warming caches by drawn translations (seat G). Conditions: those in each statement. -/
import Derived.Test.YtfiddfbagbaofaaGreatEO
import Derived.Test.YtfiddfbagbaofaaGreatV4
import Derived.KernelRfl
namespace Go.Proofs.YtfiddfbagbaofaaGreat.V
open Go
def FEQ:Dict:=mkD (kEC0++yvr++kZ1) [] []
def ChV(x:Cf):Prop:=zb5 (toC x)=true∧ChR (toC x)
def zCf:Cf:=(0,0,[],0,0,[],0,0,[])
abbrev warm1:RelS:=zkh [byP,zds,chP] [chP] zCf (fun  (x:By × Ct × Cf)=>zan x.1∧U64 x.2.1.2.2.2∧ChV x.2.2) (fun _ (k:Cf)=>ChV k)
def cfA(x:Cf)(b:Nat):List Av:=tlA x.1 x.2.1 b x.2.2.1.length++(tlA x.2.2.2.1 x.2.2.2.2.1 (b+1) x.2.2.2.2.2.1.length++tlA x.2.2.2.2.2.2.1 x.2.2.2.2.2.2.2.1 (b+2) x.2.2.2.2.2.2.2.2.length)
def cfH(x:Cf):Heap:=[.arr shE x.2.2.1 true,.arr shE x.2.2.2.2.2.1 true,.arr shE x.2.2.2.2.2.2.2.2 true]
def zCfA:List Av:=zTlA++(zTlA++zTlA)
def yxc(m:By)(n i:Int)(l:List (Nat × Av)):List Av:=slots 87 ([(0,.ptr 0 0),(1,.sl 2 1 0 m.length),(6,.ptr 6 0),(7,.ptr 7 0),(8,.ptr 8 0),(9,.v (.int .i64 n)),(10,.v (.int .i64 i))]++l)
def cfR(x:Cf):Heap:=[.arr shE x.2.2.1 false,.arr shE x.2.2.2.2.2.1 false,.arr shE x.2.2.2.2.2.2.2.2 false]
def wmH(m:By)(c:Ct)(b:By)(x0:Cf)(k:Option Cf)(ci ch:Int):Heap:=match k with
 | none=>zff b ci ch++[.arr [.i .u8] m false]++cfR x0++[.fix (ctA c) true (some 65),.fix (cfA x0 3) true (some 39),.fix zCfA true (some 39)]
 | some x=>zff b ci ch++[.arr [.i .u8] m false]++cfR x0++[.fix (ctA c) true (some 65),.fix (cfA x 9) true (some 39),.fix zCfA true (some 39)]++cfH x
def wmE(m:By)(b:By)(x0:Cf)(z:Cf)(ci ch:Int):Heap:=zff b ci ch++[.arr [.i .u8] m false]++cfR x0++[.fix (cfA z 8) true (some 39),.fix zCfA true (some 39)]++cfH z
def WmI(k:Option Cf)(i:Int):Prop:=match k with|none=>i=0|some x=>ChV x
def wmL(m:By)(c:Ct)(b:By)(x0:Cf)(n:Int):LoopW where
 α:=Option Cf × Int × Int × Int
 I x:=WmI x.1 x.2.1∧(0≤x.2.1∧x.2.1≤n)∧zbe b x.2.2.1
 sl x:=yxc m n x.2.1 []
 H x:=wmH m c b x0 x.1 x.2.2.1 x.2.2.2
 fams:=[{ β:=Cf × Int × Int,out:=fun _ z=>ChV z.1∧zbe b z.2.1,ex := .ext 0,sl:=fun _=>slots 87 [(0,.ptr 0 0),(7,.ptr 6 0),(8,.ptr 7 0)],H:=fun z=>wmE m b x0 z.1 z.2.1 z.2.2 }]
def yxb(m:By)(c:Ct)(b:By)(x0:Cf)(n i:Int)(k:Option Cf)(r:Nat):Option CutW :=
 if r=7∨r=9∨r=13 then some { β:=Ct × Int × Int,sl:=fun _=>yxc m n i [(11,.ptr (match k with|none=>9|some _=>12) 0)],H:=fun z=>wmH m c b x0 k z.2.1 z.2.2++[.fix (ctA z.1) true (some 65)] }
 else if r=18∨r=20∨r=22 then some { β:=Ct × Int × Int × Int × Int × Int,sl:=fun z=>yxc m n i [(11,.ptr (match k with|none=>9|some _=>12) 0),(14,.v (.int .i64 z.2.2.2.1)),(15,.v (.int .u64 z.2.2.2.2.1)),(16,.v (.int .i64 z.2.2.2.2.2))],H:=fun z=>wmH m c b x0 k z.2.1 z.2.2.1++[.fix (ctA z.1) true (some 65)] }
 else if r=25 then some { β:=Cf × Int × Int,sl:=fun _=>yxc m n i [],H:=fun z=>wmH m c b x0 (some z.1) z.2.1 z.2.2 }
 else none
def wmX(m:By)(c:Ct)(b:By)(x0:Cf)(n i:Int)(k:Option Cf):SpecW:={ plan:=fun k=>if k=6∨k=23 then none else some (fun _ => .std),loop:=fun r=>if r=3 then some (wmL m c b x0 n) else none,cond:=yxb m c b x0 n i k }
def wmX0(m:By)(c:Ct)(b:By)(x0:Cf):SpecW:={ plan:=fun _=>some (fun _ => .std),loop:=fun r=>if r=3 then some { α:=Int × Int × Int,I:=fun x=>(2≤x.2.2∧x.2.2≤9)∧zbe b x.1,sl:=fun x=>yxc m x.2.2 0 [],H:=fun x=>wmH m c b x0 none x.1 x.2.1,fams:=[{ β:=Cf × Int × Int,out:=fun _ z=>ChV z.1∧zbe b z.2.1,ex := .ext 0,sl:=fun _=>slots 87 [(0,.ptr 0 0),(7,.ptr 6 0),(8,.ptr 7 0)],H:=fun z=>wmE m b x0 z.1 z.2.1 z.2.2 }] } else none }
abbrev wmMu(n:Int):Option Cf × Int × Int × Int→Nat:=fun x=>(n-x.2.1).toNat
def wmB(y:Cf × Int × Int × Int):Option Cf × Int × Int × Int:=(some y.1,y.2)
def zow(m:By)(c:Ct)(b:By)(x0:Cf)(n ci ch:Int):Prop:=zi7 Tryz.prog FEQ (Rels.of zu1) (wmX m c b x0 n 0 none) 6 (zai Tryz.f114 0) (wmL m c b x0 n) (wmMu n) wmB (none,0,ci,ch)
def zus(m:By)(c:Ct)(b:By)(x0:Cf)(n i:Int)(x:Cf)(ci ch:Int):Prop:=zi7 Tryz.prog FEQ (Rels.of zu1) (wmX m c b x0 n i (some x)) 6 (zai Tryz.f114 0) (wmL m c b x0 n) (wmMu n) wmB (some x,i,ci,ch)
def ytd(b:By)(i h:Int)(m:By)(c:Ct)(x:Cf):Prop:=vcR Tryz.prog FEQ (Rels.of zu1) (wmX0 m c b x) Tryz.f114 warm1 (.ptr 0 0::(zap false [byP,zds,chP] (m,c,x) 2).1) (zff b i h++(zap false [byP,zds,chP] (m,c,x) 2).2)
set_option linter.unusedVariables false
set_option maxRecDepth 10000
theorem zq1(m:By)(c:Ct)(b:By)(x0:Cf)(n ci ch:Int):zow m c b x0 n ci ch=(
 let A0(a:Cf):=a.snd.snd.snd.snd.snd;
 let A1(a b c:Prop):=a∧b∧c;
 let A2:=(0:Int)=0;
 let A3(a b c d e:Prop):=A1 a b (A1 c d e);
 let A4(a:Cf):=(A0 a).snd.snd.snd;
 let A5(a:Cf):=a.snd.snd.fst;
 let A6:=List.length b;
 let A7:=Value.slice none 0 0;
 let A8(a b c d e f g h i:Prop):=A3 a b c d (A3 e f g h i);
 let A9(a:Ct):=a.snd.snd.fst;
 let Aa(a:Ct):=a.snd.fst;
 let Ab:=(0:Nat)=0;
 let Ac(a:Es)(b:Nat):=List.length a=b;
 let Ad(a b:Es):=Ac a (List.length b);
 let Ae(a:Ct):=a.snd.snd.snd;
 let Af:=List.length m;
 let Ah(a:Cf):=(A0 a).snd.snd.fst;
 let Ai(a:Cf):=(A0 a).snd.fst;
 let Aj(a:Cf):=a.snd.snd.snd.snd.fst;
 let Ak(a:Cf):=a.snd.fst;
 let Al:=A5 x0;
 let Am(a:Cf):=a.snd.snd.snd.fst;
 let An:=(A0 x0).fst;
 let Ao:=A4 x0;
 let Ap(a:By)(b:Prop)(c d:Es)(e f:Prop)(g:Bool)(h:Prop)(i j k:Int)(l m n:Prop)(o p:Int)(q r s:Prop)(t u:Int)(v w x y z B C D E:Prop):=A8 (a=a) b (c=c) (d=d) e f (g=g) h (A8 (i=i) (j=k) l m n
  (o=p) q r (A8 s (t=u) v w x A2 y z (A8 A2 y z A2 y B C D E)));
 let Aq(a b d e f:Prop)(g:Ct)(h:Int):=Ap m (Al=Al) An Ao a (Aa c=Aa c) (A9 c) (Ae c=Ae c) x0.fst (Ak x0) (Ak x0) Ab (Ad Al Al) (Am x0=Am x0) (Aj x0) (Aj x0) Ab (Ad An An) (Ai x0=Ai x0) (Ah x0) (Ah x0) Ab (Ad Ao Ao) A2 b
  A2 d e f (Ae g=h);
 let Ar(a:Ct × Int × Int × Int × Int × Int):=a.snd.fst;
 let Au(a:Ct × Int × Int × Int × Int × Int):=Aa a.fst;
 let Aw(a:Ct × Int × Int × Int × Int × Int):=a.snd.snd.fst;
 let Ax(a:Ct × Int × Int × Int × Int × Int):=a.snd.snd.snd.snd.fst;
 let Ay(a:Ct × Int × Int × Int × Int × Int):=a.fst.fst;
 let Az(a:Ct × Int × Int × Int × Int × Int):=a.snd.snd.snd.fst;
 let AB:=zj1 Fz.none Fz.none;
 let AC(a:Int × Int):=zbe b a.fst;
 let AD(a:Int):=IntKind.i64.wrap a;
 let AE(a:Int):=a≤100000;
 let AF(a:Ct × Int × Int × Int × Int × Int):=a.snd.snd.snd.snd.snd;
 let AG(a:Ct × Int × Int × Int × Int × Int):=(A9 a.fst,Ae a.fst);
 let AH(a:Ct × Int × Int):=a.fst.fst;
 let AI(a:Int):=IntKind.u64.wrap a;
 let AJ:=(Am x0,Aj x0,An,Ai x0,Ah x0,Ao);
 let AK(a:Ct × Int × Int):=Aa a.fst;
 let AL(a:Ct × Int × Int × Int × Int × Int):=zgc m (Ay a,Au a,AG a) (x0.fst,Ak x0,Al,AJ) (Az a) (Ax a) (byM b (Ar a) (Aw a) % 256);
 let AM(a:Prop)(d e:Int)(f:Prop)(g h i j k l:Int)(m n:Bool)(o p:Ct):=A8 a (d=e) f Ab (A6=A6) (g=h) (i=j) (b=b) (Aq (c.fst=c.fst) (A7=A7) (k=l) (m=n) (A9 o=A9 p) o (Ae p));
 let AN(a:Int):=(1:Int)≤a;
 let AO(a:PmT [i64] × Int × Int)(b c:Prop):=A1 (AC a.snd) b c;
 let AP(a:Ct × Int × Int × Int × Int × Int):=(AL a).snd.snd.snd.snd.snd.snd.snd;
 let AQ(a b:Prop):=A1 a AB b;
 let AR(a:Prop)(b:Ct × Int × Int × Int × Int × Int)(c:Int)(d:Prop)(e f g:Int)(h:Bool)(i:Ct)(j:Ct × Int × Int × Int × Int × Int→Prop):=A1 (A3 Ab (Af=Af) (n=n) A2 (AM a (Ax b) c d (Ar b) e (Aw b) f (Ay b) g (Au
  b) h b.fst i)) AB (j b);
 let AS(a:Cf × Int × Int × Int):=a.snd.fst;
 let AT(a:Ct × Int × Int)(b c d:Int)(e:Bool)(f:Ct)(g:Prop):=AQ (Ab∧AM (Af=Af) n n A2 a.snd.fst b a.snd.snd c (AH a) d (AK a) e a.fst f) g;
 let AU(a:PmT [i64] × Int × Int)(b:Prop):=AO a ((0:Int)≤a.fst) b;
 let AV:=c.fst;
 let AW(a b c:Prop):=a→(A6=A6∧b)∧c;
 let AX(a b:Ct × Int × Int × Int × Int × Int)(c d:Int)(e:Ct × Int × Int × Int × Int × Int→Prop):=AR (Az a=Az b) a (AI (c+d)) (AF a=AF b) (Ar b) (Aw b) (Ay b) (Au b) b.fst e;
 let AY(a:Cf × Int × Int):=A5 a.fst;
 let AZ(a b:Ct × Int × Int × Int × Int × Int)(c:Ct × Int × Int × Int × Int × Int→Prop):=AR (Az a=Az b) a (Ax b) (AF a=AF b) (Ar b) (Aw b) (Ay b) (Au b) b.fst c;
 let B0(a:Cf × Int × Int):=(A0 a.fst).fst;
 let B1(a:Ct × Int × Int × Int × Int × Int)(b:PmT [i64] × Int × Int)(c:Int)(d:PmT [i64] × Int × Int)(e:Ct × Int × Int)(f:Ct × Int × Int × Int × Int × Int→Prop):=AR (Az a=b.fst) a (AI c) (AF a=d.fst) d.snd.fst
  d.snd.snd (AH e) (AK e) e.fst f;
 let B2(a:Cf × Int × Int):=A4 a.fst;
 let B3(a:PmT [i64] × Int × Int):=AD ((1:Int)+a.fst);
 let B4:=A7=A7;
 let B5(a:PmT [i64] × Int × Int):=AD (AD ((64:Int)*a.fst)+8);
 let B6(a:Ct × Int × Int)(b:PmT [bl] × Int × Int)(c:Ct × Int × Int)(d:Ct × Int × Int→Prop):=AT a b.snd.fst b.snd.snd (AH c) (AK c) c.fst (d a);
 let B7(a:Prop)(b:PmT [bl] × Int × Int)(c d:Prop):=(a∧(b.fst=false→c))∧d;
 let B8(a:Bool)(b c d:Prop):=((a=true→b)∧(a=false→c))∧d;
 let B9(a:Ct × Int × Int→Prop)(b:Ct × Int × Int)(c:Prop):=AW (a b) (A1 (AC b.snd) (AN 4) (AE 4)) c;
 let Ba(a:Prop)(b c d e:Int)(f:Prop):=A8 Ab (Af=Af) (n=n) a Ab (A6=A6) (b=c) (d=e) f;
 let Bb(a:Ct × Int × Int × Int × Int × Int)(b:Bool)(c:Prop):=((AL a).fst != 63)=b→c;
 let Bc(a:Ct × Int × Int)(b:Int)(d:Ct × Int × Int→Prop):=AT a ci ch b (Aa c) c (d a);
 let Bd(a:PmT [bl] × Int × Int)(b:Prop):=AC a.snd∧True→b;
 let Be(a:Cf × Int × Int):=ChV a.fst∧AC a.snd;
 let Bf(a:Ct × Int × Int × Int × Int × Int):=(AL a).snd.snd.snd.snd.fst;
 let Bg:=decide ((0:Int)<n);
 let Bh(a:PmT [i64] × Int × Int)(b c:Int)(d:Prop):=AW (AU a (a.fst<b)) (AO a (AN c) (AE c)) d;
 let Bi(a:PmT [i64] × Int × Int):=AU a (a.fst<2);
 (Bg=true→∃(x0':Ct × Int × Int→Prop),B8 (bif decide (AV>1) then true else decide (AV<0)) (∃(x1':Ct × Int × Int),Bc x1' 1 x0') (∃(x2':Ct × Int × Int),Bc x2' AV x0') (∀(x3':Ct × Int ×
  Int),B9 x0' x3' (∀(x4':PmT [bl] × Int × Int),Bd x4' (∃(x5':Ct × Int × Int→Prop),B7 (AW (x4'.fst=true) (A1 (AC x4'.snd) (AN 2) (AE 2)) (∀(x6':PmT [i64] × Int × Int),AW (Bi x6') (AO x6' (AN 2)
  (AE 2)) (∀(x7':PmT [i64] × Int × Int),Bi x7'→∃(x8':Ct × Int × Int),AQ (Ab∧A8 (Af=Af) (n=n) A2 Ab (A6=A6) (x8'.snd.fst=x7'.snd.fst) (x8'.snd.snd=x7'.snd.snd) (b=b) (Aq (AV=AV) B4 (AH x8'=AH x3') (AK
  x8'=AK x3') (A9 x8'.fst=A9 x3'.fst) x8'.fst (zng (B3 x6') (B3 x7')))) (x5' x8')))) x4' (∃(x9':Ct × Int × Int),B6 x9' x4' x3' x5') (∀(x10':Ct × Int × Int),B9 x5' x10' (∀(x11':PmT [bl] × Int × Int),Bd x11' (∃(x12'
  : Ct × Int × Int→Prop),B7 (x11'.fst=true→∃(x13':Ct × Int × Int),AT x13' x11'.snd.fst x11'.snd.snd (AH x10') true x10'.fst (x12' x13')) x11' (∃(x14':Ct × Int × Int),B6 x14' x11' x10' x12') (∀(x15':Ct × Int × Int),AW
  (x12' x15') (A1 (AC x15'.snd) (AN 3) (AE 3)) (∀(x16':PmT [i64] × Int × Int),Bh x16' 3 8 (∀(x17':PmT [i64] × Int × Int),Bh x17' 8 5 (∀(x18':PmT [i64] × Int × Int),AU x18'
  (x18'.fst<5)→∃(x19':Ct × Int × Int × Int × Int × Int→Prop),B8 (x18'.fst==0) (∃(x20':Ct × Int × Int × Int × Int × Int),B1 x20' x16' (AI (B5 x17')+512) x18' x15' x19') (∃(x21':Ct × Int × Int
  × Int × Int × Int),B1 x21' x16' (B5 x17') x18' x15' x19') (∀(x22':Ct × Int × Int × Int × Int × Int),x19' x22'→∃(x23':Ct × Int × Int × Int × Int × Int→Prop),B8 (AF x22'==1) (∃(x24':Ct × Int × Int × Int × Int ×
  Int),AX x24' x22' (AI (Ax x22'+4096)) 320 x23') (∃(x25':Ct × Int × Int × Int × Int × Int),AZ x25' x22' x23') (∀(x26':Ct × Int × Int × Int × Int × Int),x23' x26'→∃(x27':Ct × Int × Int × Int × Int × Int →
  Prop),B8 (AF x26'==2) (∃(x28':Ct × Int × Int × Int × Int × Int),AX x28' x26' (Ax x26') 1024 x27') (∃(x29':Ct × Int × Int × Int × Int × Int),AZ x29' x26' x27') (∀(x30':Ct × Int × Int × Int × Int × Int),x27'
  x30'→A1 (A6=A6∧A1 (zbe b (Ar x30')) (AN 256) ((256:Int)≤256)) (A3 (Af=Af) (Ad Al Al) (Ad An An) (Ad Ao Ao) (zq4 m (Ay x30',Au x30',AG x30') (x0.fst,Ak x0,Al,AJ) (Ax x30'))) (∃(x31':Cf × Int × Int →
  Prop),(Bb x30' true (∃(x32':Cf × Int × Int),AQ (Ba A2 x32'.snd.fst (iN A6 (Ar x30')) x32'.snd.snd (hN (Aw x30')) (A8 (b=b) (m=m) (Al=Al) (An=An) (Ao=Ao) (AV=AV) (Aa c=Aa c) (A9 c=A9 c) (A8 (Ae c=Ae c)
  (x32'.fst.fst=(AL x30').snd.snd.fst) (Ak x32'.fst=(AL x30').snd.snd.snd.fst) Ab (Ac (AY x32') (List.length (Bf x30'))) (Am x32'.fst=(AL x30').snd.snd.snd.snd.snd.fst) (Aj x32'.fst=(AL x30').snd.snd.snd.snd.snd.snd.fst) Ab (A8 (Ac
  (B0 x32') (List.length (AP x30').fst)) (Ai x32'.fst=(AP x30').snd.fst) (Ah x32'.fst=(AP x30').snd.snd.fst) Ab (Ac (B2 x32') (List.length (AP x30').snd.snd.snd)) A2 A2 B4 (A8 A2 A2 B4 A2 A2 B4 (AY x32'=Bf x30') (B0 x32' =
  (AP x30').fst) (B2 x32'=(AP x30').snd.snd.snd)))))) (x31' x32'))∧Bb x30' false (∃(x33':Cf × Int × Int),AQ False (x31' x33')))∧∀(x34':Cf × Int × Int),x31' x34'→∃(x35':Cf × Int × Int × Int),A3 (Ba (AS x35'=AD ((0 :
  Int)+1)) x35'.snd.snd.fst x34'.snd.fst x35'.snd.snd.snd x34'.snd.snd (Ap b (m=m) Al An (Ao=Ao) (AV=AV) (Aa c) (A9 c=A9 c) (Ae c) x35'.fst.fst x34'.fst.fst (Ak x35'.fst=Ak x34'.fst) Ab (Ad (A5 x35'.fst) (AY x34')) (Am
  x35'.fst) (Am x34'.fst) (Aj x35'.fst=Aj x34'.fst) Ab (Ad (A0 x35'.fst).fst (B0 x34')) (Ai x35'.fst) (Ai x34'.fst) (Ah x35'.fst=Ah x34'.fst) Ab (Ad (A4 x35'.fst) (B2 x34')) A2 B4 B4 (A5 x35'.fst=AY x34') ((A0 x35'.fst).fst =
  B0 x34') (A4 x35'.fst=B2 x34'))) AB (A1 (WmI (some x35'.fst) (AS x35')) ((0:Int)≤AS x35'∧AS x35'≤n) (AC x35'.snd.snd)) ((n-AS x35').toNat<(n-0).toNat) (∀(x36':Cf × Int × Int),Be x36'→Be
  x36'))))))))))))))))∧(Bg=false→∃(x37':Cf × Int × Int),False∧A1 AB (ChV x37'.fst) (AC x37'.snd))):=by kernel_rfl
theorem zut(m:By)(c:Ct)(b:By)(x0:Cf)(n i:Int)(x:Cf)(ci ch:Int):zus m c b x0 n i x ci ch=(
 let A0(a:Cf):=a.snd.snd.snd.snd.snd;
 let A1(a b c:Prop):=a∧b∧c;
 let A2(a b c d e:Prop):=A1 a b (A1 c d e);
 let A3:=(0:Int)=0;
 let A4(a:Cf):=(A0 a).fst;
 let A5(a:Cf):=a.snd.snd.fst;
 let A6:=(0:Nat)=0;
 let A7(a:Cf):=(A0 a).snd.snd.snd;
 let A8(a:Es)(b:Nat):=List.length a=b;
 let A9:=List.length b;
 let Aa:=Value.slice none 0 0;
 let Ab(a b:Es):=A8 a (List.length b);
 let Ac(a b c d e f g h i:Prop):=A2 a b c d (A2 e f g h i);
 let Ad(a:Ct):=a.snd.snd.fst;
 let Ae(a:Ct):=a.snd.fst;
 let Af(a:Ct):=a.snd.snd.snd;
 let Ah:=List.length m;
 let Ai(a:Cf):=(A0 a).snd.snd.fst;
 let Aj(a:Cf):=(A0 a).snd.fst;
 let Ak(a:Cf):=a.snd.snd.snd.snd.fst;
 let Al(a:Cf):=a.snd.fst;
 let Am(a:Cf):=a.snd.snd.snd.fst;
 let An(a b c d e f g h i:Prop)(j k l m:Int)(n o:Es)(p q r s:Int)(t u:Es)(v w x y z B C D E F G H I:Prop):=Ac a b c d e f g h (Ac i (j=k) (l=m) A6 (Ab n o) (p=q) (r=s) A6 (Ac (Ab t u) v w x y A3 z B (Ac A3 z C D E
  F G H I)));
 let Ao(a b d e:Prop)(f:Ct)(g:Bool)(h:Ct)(i:Int):=An a b (Ae c=Ae c) (Ad c=Ad c) (Af c=Af c) (x.fst=x.fst) (Al x=Al x) A6 (Ab (A5 x) (A5 x)) (Am x) (Am x) (Ak x) (Ak x) (A4 x) (A4 x) (Aj x) (Aj x) (Ai x) (Ai x) (A7
  x) (A7 x) A3 A3 d A3 d A3 (A5 x=A5 x) (A4 x=A4 x) (A7 x=A7 x) e (Ae f=g) (Ad f=Ad h) (Af f=i);
 let Ap(a:Ct × Int × Int × Int × Int × Int):=a.snd.fst;
 let Aq(a:Ct × Int × Int × Int × Int × Int):=a.snd.snd.fst;
 let Ar(a:Ct × Int × Int × Int × Int × Int):=a.snd.snd.snd.snd.fst;
 let Au(a:Ct × Int × Int × Int × Int × Int):=a.fst.fst;
 let Aw(a:Ct × Int × Int × Int × Int × Int):=a.snd.snd.snd.fst;
 let Ax(a b:Prop)(c d:Int)(e:Ct)(f:Bool)(g:Ct):=Ao a b (Aa=Aa) (c=d) e f g (Af g);
 let Ay:=zj1 Fz.none Fz.none;
 let Az(a:Int × Int):=zbe b a.fst;
 let AB:=A5 x0;
 let AC(a:Int):=IntKind.i64.wrap a;
 let AD(a:Int):=a≤100000;
 let AE(a:Ct × Int × Int × Int × Int × Int):=a.snd.snd.snd.snd.snd;
 let AF:=(Al x,A5 x,Am x,Ak x,A4 x,Aj x,Ai x,A7 x);
 let AG(a d:Prop)(e f:Int)(g:Prop)(h i j k l n:Int)(o p:Ct):=A2 a d (e=f) g (Ac A6 (A9=A9) (h=i) (j=k) (b=b) (m=m) (AB=AB) (A4 x0=A4 x0) (Ax (A7 x0=A7 x0) (c.fst=c.fst) l n o (Ae p) p));
 let AH(a:Ct × Int × Int):=a.fst.fst;
 let AI(a:Int):=IntKind.u64.wrap a;
 let AJ(a:Ct × Int × Int × Int × Int × Int):=(Ae a.fst,Ad a.fst,Af a.fst);
 let AK(a:Ct × Int × Int × Int × Int × Int):=zgc m (Au a,AJ a) (x.fst,AF) (Aw a) (Ar a) (byM b (Ap a) (Aq a) % 256);
 let AL(a:Int):=(1:Int)≤a;
 let AM(a b:Prop):=A1 a Ay b;
 let AN(a:Ct × Int × Int × Int × Int × Int):=(AK a).snd.snd.snd.snd.snd.snd.snd;
 let AO(a b:Prop)(c d e f g h i j k l:Int)(m n:Ct):=AG a b c d (e=f) g h i j k l m n;
 let AP(a:PmT [i64] × Int × Int)(b c:Prop):=A1 (Az a.snd) b c;
 let AQ:=A4 x0;
 let AR(a d:Int)(e:Int × Int)(f g:Int)(h i:Cf):=Ac A6 (Ah=Ah) (n=n) (a=d) A6 (A9=A9) (e.fst=f) (e.snd=g) (An (b=b) (m=m) (AB=AB) (AQ=AQ) (A7 x0=A7 x0) (c.fst=c.fst) (Ae c=Ae c) (Ad c=Ad c) (Af c=Af
  c) h.fst i.fst (Al h) (Al i) (A5 h) (A5 i) (Am h) (Am i) (Ak h) (Ak i) (A4 h) (A4 i) (Aj h=Aj i) (Ai h=Ai i) A6 (Ab (A7 h) (A7 i)) A3 (Aa=Aa) (Aa=Aa) A3 A3 (Aa=Aa) (A5 h=A5 i) (A4 h=A4 i) (A7 h=A7 i));
 let AS(a:Cf × Int × Int × Int):=a.snd.fst;
 let AT(a:Ct × Int × Int × Int × Int × Int)(b:PmT [i64] × Int × Int)(c:Int)(d:PmT [i64] × Int × Int)(e:Ct × Int × Int)(f:Ct × Int × Int × Int × Int × Int→Prop):=AM (A6∧A1 (Ah=Ah) (n=n) (AG (i=i) (Aw a=b.fst)
  (Ar a) (AI c) (AE a=d.fst) (Ap a) d.snd.fst (Aq a) d.snd.snd (Au a) (AH e) a.fst e.fst)) (f a);
 let AU(a:PmT [i64] × Int × Int)(b:Prop):=AP a ((0:Int)≤a.fst) b;
 let AV:=c.fst;
 let AW:=A9=A9;
 let AX(a b c:Prop):=a→(AW∧b)∧c;
 let AY(a:Cf × Int × Int):=A7 a.fst;
 let AZ(a:Cf × Int × Int):=A5 a.fst;
 let B0(a b:Ct × Int × Int × Int × Int × Int)(c d:Int)(e:Ct × Int × Int × Int × Int × Int→Prop):=AM (A6∧A1 (Ah=Ah) (n=n) (AO (i=i) (Aw a=Aw b) (Ar a) (AI (c+d)) (AE a) (AE b) (Ap a) (Ap b) (Aq a) (Aq b) (Au a) (Au
  b) a.fst b.fst)) (e a);
 let B1(a:Cf × Int × Int):=A4 a.fst;
 let B2(a b:Ct × Int × Int × Int × Int × Int)(c:Ct × Int × Int × Int × Int × Int→Prop):=AM (A6∧A1 (Ah=Ah) (n=n) (AO (i=i) (Aw a=Aw b) (Ar a) (Ar b) (AE a) (AE b) (Ap a) (Ap b) (Aq a) (Aq b) (Au a) (Au b) a.fst b.fst))
  (c a);
 let B3(a:PmT [i64] × Int × Int):=AC ((1:Int)+a.fst);
 let B4:=Aa=Aa;
 let B5(a:PmT [i64] × Int × Int):=AC (AC ((64:Int)*a.fst)+8);
 let B6(a:Ct × Int × Int)(b:PmT [bl] × Int × Int)(c:Ct × Int × Int)(d:Ct × Int × Int→Prop):=AM (AO A6 (Ah=Ah) n n i i a.snd.fst b.snd.fst a.snd.snd b.snd.snd (AH a) (AH c) a.fst c.fst) (d a);
 let B7(a:Prop)(b:PmT [bl] × Int × Int)(c d:Prop):=(a∧(b.fst=false→c))∧d;
 let B8(a:Bool)(b c d:Prop):=((a=true→b)∧(a=false→c))∧d;
 let B9(a:PmT [bl] × Int × Int)(b:Prop):=Az a.snd∧True→b;
 let Ba(a:Ct × Int × Int)(b:Int)(d:Ct × Int × Int→Prop):=AM (AO A6 (Ah=Ah) n n i i a.snd.fst ci a.snd.snd ch (AH a) b a.fst c) (d a);
 let Bb(a:Ct × Int × Int→Prop)(b:Ct × Int × Int)(c:Prop):=AX (a b) (A1 (Az b.snd) (AL 4) (AD 4)) c;
 let Bc(a:Cf × Int × Int):=ChV a.fst∧Az a.snd;
 let Bd(a:Bool)(b:Prop):=decide (i<n)=a→b;
 let Be(a:PmT [i64] × Int × Int)(b c:Int)(d:Prop):=AX (AU a (a.fst<b)) (AP a (AL c) (AD c)) d;
 let Bf(a:Ct × Int × Int)(c:Int × Int)(d:Prop)(e:Ct × Int × Int→Prop):=AM (A2 A6 (Ah=Ah) (n=n) (i=i) (Ac A6 AW (a.snd.fst=c.fst) (a.snd.snd=c.snd) (b=b) (m=m) (AB=AB) (AQ=AQ) d)) (e a);
 let Bg(a:Ct × Int × Int × Int × Int × Int)(b:Bool)(c:Prop):=((AK a).fst != 63)=b→c;
 let Bh(a:PmT [i64] × Int × Int):=AU a (a.fst<2);
 let Bi(a:Ct × Int × Int × Int × Int × Int):=(AK a).snd.snd.snd.snd.fst;
 let Bj:=A7 x0=A7 x0;
 Bd true (∃(x0':Ct × Int × Int→Prop),B8 (bif decide (AV>1) then true else decide (AV<0)) (∃(x1':Ct × Int × Int),Ba x1' 1 x0') (∃(x2':Ct × Int × Int),Ba x2' AV x0') (∀(x3':Ct × Int × Int),
  Bb x0' x3' (∀(x4':PmT [bl] × Int × Int),B9 x4' (∃(x5':Ct × Int × Int→Prop),B7 (AX (x4'.fst=true) (A1 (Az x4'.snd) (AL 2) (AD 2)) (∀(x6':PmT [i64] × Int × Int),AX (Bh x6') (AP x6' (AL 2) (AD (2
  : Int))) (∀(x7':PmT [i64] × Int × Int),Bh x7'→∃(x8':Ct × Int × Int),Bf x8' x7'.snd (Ao Bj (AV=AV) B4 (AH x8'=AH x3') x8'.fst (Ae x3'.fst) x3'.fst (zng (B3 x6') (B3 x7'))) x5'))) x4' (∃(x9':Ct × Int × Int),
  B6 x9' x4' x3' x5') (∀(x10':Ct × Int × Int),Bb x5' x10' (∀(x11':PmT [bl] × Int × Int),B9 x11' (∃(x12':Ct × Int × Int→Prop),B7 (x11'.fst=true→∃(x13':Ct × Int × Int),Bf x13' x11'.snd (Ax Bj (AV=AV) (AH
  x13') (AH x10') x13'.fst true x10'.fst) x12') x11' (∃(x14':Ct × Int × Int),B6 x14' x11' x10' x12') (∀(x15':Ct × Int × Int),AX (x12' x15') (A1 (Az x15'.snd) (AL 3) (AD 3)) (∀(x16':PmT [i64] × Int × Int),Be
  x16' 3 8 (∀(x17':PmT [i64] × Int × Int),Be x17' 8 5 (∀(x18':PmT [i64] × Int × Int),AU x18' (x18'.fst<5)→∃(x19':Ct × Int × Int × Int × Int × Int→Prop),B8 (x18'.fst==0)
  (∃(x20':Ct × Int × Int × Int × Int × Int),AT x20' x16' (AI (B5 x17')+512) x18' x15' x19') (∃(x21':Ct × Int × Int × Int × Int × Int),AT x21' x16' (B5 x17') x18' x15' x19') (∀(x22':Ct × Int × Int × Int × Int × Int),
  x19' x22'→∃(x23':Ct × Int × Int × Int × Int × Int→Prop),B8 (AE x22'==1) (∃(x24':Ct × Int × Int × Int × Int × Int),B0 x24' x22' (AI (Ar x22'+4096)) 320 x23') (∃(x25':Ct × Int × Int × Int × Int ×
  Int),B2 x25' x22' x23') (∀(x26':Ct × Int × Int × Int × Int × Int),x23' x26'→∃(x27':Ct × Int × Int × Int × Int × Int→Prop),B8 (AE x26'==2) (∃(x28':Ct × Int × Int × Int × Int × Int),B0 x28' x26' (Ar x26')
  1024 x27') (∃(x29':Ct × Int × Int × Int × Int × Int),B2 x29' x26' x27') (∀(x30':Ct × Int × Int × Int × Int × Int),x27' x30'→A1 (AW∧A1 (zbe b (Ap x30')) (AL 256) ((256:Int)≤256)) (A2 (Ah=Ah) (Ab
  (A5 x) (A5 x)) (Ab (A4 x) (A4 x)) (Ab (A7 x) (A7 x)) (zq4 m (Au x30',AJ x30') (x.fst,AF) (Ar x30'))) (∃(x31':Cf × Int × Int→Prop),(Bg x30' true (∃(x32':Cf × Int × Int),AM (Ac A6 (Ah=Ah) (n=n) (i=i) A6 AW (x32'.snd.fst =
  iN A9 (Ap x30')) (x32'.snd.snd=hN (Aq x30')) (Ac (b=b) (m=m) (AB=AB) (AQ=AQ) Bj (AV=AV) (Ae c=Ae c) (Ad c=Ad c) (Ac (Af c=Af c) (x32'.fst.fst=(AK x30').snd.snd.fst) (Al x32'.fst=(AK x30').snd.snd.snd.fst) A6 (A8 (AZ
  x32') (List.length (Bi x30'))) (Am x32'.fst=(AK x30').snd.snd.snd.snd.snd.fst) (Ak x32'.fst=(AK x30').snd.snd.snd.snd.snd.snd.fst) A6 (Ac (A8 (B1 x32') (List.length (AN x30').fst)) (Aj x32'.fst=(AN x30').snd.fst) (Ai x32'.fst =
  (AN x30').snd.snd.fst) A6 (A8 (AY x32') (List.length (AN x30').snd.snd.snd)) A3 A3 B4 (Ac A3 A3 B4 A3 A3 B4 (AZ x32'=Bi x30') (B1 x32'=(AN x30').fst) (AY x32'=(AN x30').snd.snd.snd)))))) (x31' x32'))∧Bg x30' false (∃
  (x33':Cf × Int × Int),AM (AR i i x33'.snd (iN A9 (Ap x30')) (hN (Aq x30')) x33'.fst x) (x31' x33')))∧∀(x34':Cf × Int × Int),x31' x34'→∃(x35':Cf × Int × Int × Int),A2 (AR (AS x35') (AC (i+1)) x35'.snd.snd
  x34'.snd.fst x34'.snd.snd x35'.fst x34'.fst) Ay (A1 (WmI (some x35'.fst) (AS x35')) ((0:Int)≤AS x35'∧AS x35'≤n) (Az x35'.snd.snd)) ((n-AS x35').toNat<(n-i).toNat) (∀(x36':Cf × Int × Int),Bc x36'→Bc
  x36'))))))))))))))))∧Bd false (∃(x37':Cf × Int × Int),An A6 AW (x37'.snd.fst=ci) (x37'.snd.snd=ch) (b=b) (m=m) (AB=AB) (AQ=AQ) Bj x37'.fst.fst x.fst (Al x37'.fst) (Al x) (AZ x37') (A5 x) (Am x37'.fst) (Am x) (Ak
  x37'.fst) (Ak x) (B1 x37') (A4 x) (Aj x37'.fst=Aj x) (Ai x37'.fst=Ai x) A6 (Ab (AY x37') (A7 x)) A3 B4 B4 A3 A3 B4 (AZ x37'=A5 x) (B1 x37'=A4 x) (AY x37'=A7 x)∧A1 Ay (ChV x37'.fst) (Az x37'.snd))):=by kernel_rfl
theorem yco(b:By)(i h:Int)(m:By)(c:Ct)(x:Cf):ytd b i h m c x=(
 (List.length b=List.length b∧zbe b i∧(1:Int)≤8∧(8:Int)≤100000)∧∀(z:PmT [i64] × Int × Int),zbe b z.snd.fst∧0≤z.fst∧z.fst<8→∃(x_1:Int × Int × Int),((0:Nat)=0 ∧
 List.length m=List.length m∧x_1.snd.snd=IntKind.i64.wrap ((2:Int)+z.fst)∧(0:Int)=0∧(0:Nat)=0∧List.length b=List.length b∧x_1.fst=z.snd.fst∧x_1.snd.fst=z.snd.snd∧b=b∧m=m ∧
 x.snd.snd.fst=x.snd.snd.fst∧x.snd.snd.snd.snd.snd.fst=x.snd.snd.snd.snd.snd.fst∧x.snd.snd.snd.snd.snd.snd.snd.snd=x.snd.snd.snd.snd.snd.snd.snd.snd∧c.fst=c.fst∧c.snd.fst=c.snd.fst∧c.snd.snd.fst=c.snd.snd.fst ∧
 c.snd.snd.snd=c.snd.snd.snd∧x.fst=x.fst∧x.snd.fst=x.snd.fst∧(0:Nat)=0∧List.length x.snd.snd.fst=List.length x.snd.snd.fst∧x.snd.snd.snd.fst=x.snd.snd.snd.fst∧x.snd.snd.snd.snd.fst=x.snd.snd.snd.snd.fst ∧
 (0:Nat)=0∧List.length x.snd.snd.snd.snd.snd.fst=List.length x.snd.snd.snd.snd.snd.fst∧x.snd.snd.snd.snd.snd.snd.fst=x.snd.snd.snd.snd.snd.snd.fst∧x.snd.snd.snd.snd.snd.snd.snd.fst=x.snd.snd.snd.snd.snd.snd.snd.fst ∧
 (0:Nat)=0∧List.length x.snd.snd.snd.snd.snd.snd.snd.snd=List.length x.snd.snd.snd.snd.snd.snd.snd.snd∧(0:Int)=0∧(0:Int)=0∧Value.slice none 0 0=Value.slice none 0 (0 :
 Nat)∧(0:Int)=0∧(0:Int)=0∧Value.slice none 0 0=Value.slice none 0 0∧(0:Int)=0∧(0:Int)=0∧Value.slice none 0 0=Value.slice none (0
 : Nat) 0)∧zj1 Fz.none Fz.none∧(((2:Int)≤x_1.snd.snd∧x_1.snd.snd≤9)∧zbe b x_1.fst)∧∀(z:Cf × Int × Int),ChV z.fst∧zbe b z.snd.fst→∃(z_1:PmT [chP] × Int × Int),(z_1.fst.fst=z.fst.fst ∧
 z_1.fst.snd.fst=z.fst.snd.fst∧(0:Nat)=0∧List.length z_1.fst.snd.snd.fst=List.length z.fst.snd.snd.fst∧z_1.fst.snd.snd.snd.fst=z.fst.snd.snd.snd.fst∧z_1.fst.snd.snd.snd.snd.fst=z.fst.snd.snd.snd.snd.fst∧(0 :
 Nat)=0∧List.length z_1.fst.snd.snd.snd.snd.snd.fst=List.length z.fst.snd.snd.snd.snd.snd.fst∧z_1.fst.snd.snd.snd.snd.snd.snd.fst=z.fst.snd.snd.snd.snd.snd.snd.fst∧z_1.fst.snd.snd.snd.snd.snd.snd.snd.fst =
 z.fst.snd.snd.snd.snd.snd.snd.snd.fst∧(0:Nat)=0∧List.length z_1.fst.snd.snd.snd.snd.snd.snd.snd.snd=List.length z.fst.snd.snd.snd.snd.snd.snd.snd.snd∧(0:Nat)=0∧List.length b=List.length b∧z_1.snd.fst =
 z.snd.fst∧z_1.snd.snd=z.snd.snd∧b=b∧m=m∧x.snd.snd.fst=x.snd.snd.fst∧x.snd.snd.snd.snd.snd.fst=x.snd.snd.snd.snd.snd.fst∧x.snd.snd.snd.snd.snd.snd.snd.snd=x.snd.snd.snd.snd.snd.snd.snd.snd∧z_1.fst.snd.snd.fst =
 z.fst.snd.snd.fst∧z_1.fst.snd.snd.snd.snd.snd.fst=z.fst.snd.snd.snd.snd.snd.fst∧z_1.fst.snd.snd.snd.snd.snd.snd.snd.snd=z.fst.snd.snd.snd.snd.snd.snd.snd.snd)∧zbe b z_1.snd.fst∧ChV z_1.fst):=by kernel_rfl
set_option linter.unusedSimpArgs false
set_option linter.unusedVariables false
set_option maxRecDepth 10000
set_option maxHeartbeats 2000000
theorem ynw:DictOk Tryz.prog FEQ:=za1 ((zv7.append (.cons (by kernel_rfl) zmv .nil)).append yfd) .nil .nil
def WmC(b:By)(c:Ct)(i:Int):Prop:=(0≤c.1∧c.1≤2)∧U64 c.2.2.2∧zbe b i
def yn2(b:By)(q:Ct × Int × Int):Prop:=WmC b q.1 q.2.1
def zyj(b:By)(q:Ct × Int × Int × Int × Int × Int):Prop:=WmC b q.1 q.2.1∧(0≤q.2.2.2.1∧q.2.2.2.1<3)∧U64 q.2.2.2.2.1
def yue(b:By)(q:Cf × Int × Int):Prop:=ChV q.1∧zbe b q.2.1
theorem exW1{p:Ct × Int × Int→Prop}{b1:Int}{b2 b3:Bool}{b4 c d:Int}(h:p ((b1,b2,b3,b4),c,d)):∃z,p z:=⟨_,h⟩
theorem exW2{p:Ct × Int × Int × Int × Int × Int→Prop}{b1:Int}{b2 b3:Bool}{b4 c d e f g:Int}(h:p ((b1,b2,b3,b4),c,d,e,f,g)):∃z,p z:=⟨_,h⟩
theorem exW3{p:Cf × Int × Int→Prop}{a1 a2:Int}{a3:Es}{a4 a5:Int}{a6:Es}{a7 a8:Int}{a9:Es}{c d:Int}(h:p ((a1,a2,a3,a4,a5,a6,a7,a8,a9),c,d)):∃z,p z:=⟨_,h⟩
theorem exW4{p:Cf × Int × Int × Int→Prop}{a1 a2:Int}{a3:Es}{a4 a5:Int}{a6:Es}{a7 a8:Int}{a9:Es}{c d e:Int}(h:p ((a1,a2,a3,a4,a5,a6,a7,a8,a9),c,d,e)):∃z,p z:=⟨_,h⟩
theorem zk7{m:By}(hm:zan m){b:By}{q:Ct × Int × Int × Int × Int × Int}(h:zyj b q){x:Cf}(hx:ChV x):zq4 m q.1 x q.2.2.2.2.1:=⟨hm,h.1.2.1,hx.2,h.2.2⟩
theorem yjj{b:By}{q:Ct × Int × Int × Int × Int × Int}(h:zyj b q){x:Cf}(hx:ChV x){pk:Int}(p0:0≤pk)(p1:pk≤255):okT q.1 (toC x) q.2.2.2.1 pk=true:=by
 obtain⟨⟨⟨c0,c1⟩,_⟩,⟨k0,k1⟩,_⟩:=h
 unfold okT zid
 simp only[Bool.and_eq_true,decide_eq_true_eq]
 exact⟨⟨⟨hx.1,⟨⟨k0,by omega⟩,c0⟩,c1⟩,p0⟩,p1⟩
theorem zzz{m:By}(hm:zan m){b:By}{q:Ct × Int × Int × Int × Int × Int}(h:zyj b q){x:Cf}(hx:ChV x){pk:Int}(p0:0≤pk)(p1:pk≤255):ChV (zgc m q.1 x q.2.2.2.1 q.2.2.2.2.1 pk).2.2 :=
 ⟨zj2 (zk7 hm h hx) (yjj h hx p0 p1),(zww (zk7 hm h hx)).1⟩
theorem ywu{m:By}{c:Ct}{x:Cf}{kind va pick:Int}(h:okT c (toC x) kind pick=true):(zgc m c x kind va pick).1≠63:=by
 unfold zgc zos
 rw[if_pos h]
 simp only
 unfold zbd afM pfM
 repeat' split
 all_goals decide
theorem yji{m:By}{b:By}{q:Ct × Int × Int × Int × Int × Int}(h:zyj b q){x:Cf}(hx:ChV x){pk:Int}(p0:0≤pk)(p1:pk≤255)(e:((zgc m q.1 x q.2.2.2.1 q.2.2.2.2.1 pk).1 != 63)=false):False:=by
 have:=ywu (m:=m) (va:=q.2.2.2.2.1) (yjj h hx p0 p1)
 simp only[bne_eq_false_iff_eq] at e
 exact this e
theorem zzy{p:Cf × Int × Int→Prop}(h:False):∃z,False∧p z:=h.elim
theorem yxd{b:By}{q:Cf × Int × Int}(h:ChV q.1)(g:zbe b q.2.1):yue b q:=⟨h,g⟩
theorem zsu(b:By)(i h:Int):0≤byM b i h % 256∧byM b i h % 256≤255:=by omega
theorem md_3{x:Int}(h:¬ x>1)(g:¬ x<0):0≤x∧x≤2:=by omega
theorem md_b{x:Int}(h:(bif decide (x>1) then true else decide (x<0))=false):0≤x∧x≤2:=by
 by_cases g:x>1
 · simp[g] at h
 · simp[g] at h;omega
theorem wm_0:IntKind.i64.wrap (0+1)=1:=by decide
theorem zyb{m:By}{c:Ct}{b:By}{n:Int}{x:Cf}{ci ch:Int}(hm:zan m)(hs:U64 c.2.2.2)(hx:ChV x)(h1:2≤n)(h2:n≤9)(hc:zbe b ci):zow m c b x n ci ch:=by
 refine zah (zq1 m c b x n ci ch) ?_
 conv=>zeta
 simp (maxSteps:=5000000) only[and_imp,true_and,and_true,decide_eq_true_eq,decide_eq_false_iff_not,wm_0]
 repeat' first
  | exact rfl
  | assumption
  | exact zct _
  | exact zbq _ _
  | exact za8
  | exact hx
  | exact zk7 hm hq2 hx
  | exact zzz hm hq2 hx (zsu _ _ _).1 (zsu _ _ _).2
  | exact md_3 (by assumption) (by assumption)
  | exact md_b (by assumption)
  | exact⟨by decide,by decide⟩
  | exact zbm (by assumption)
  | (show (_:Int)≤_;omega)
  | (show (_:Nat)<_;omega)
  | refine zzy ?_
  | (show False;first|omega|exact yji (m:=m) hq2 hx (zsu _ _ _).1 (zsu _ _ _).2 (by assumption))
  | (apply exW1;dsimp only)
  | (apply exW2;dsimp only)
  | (apply exW3;dsimp only)
  | (apply exW4;dsimp only)
  | (with_reducible show yn2 _ _;unfold yn2 WmC;dsimp only)
  | (with_reducible show zyj _ _;unfold zyj WmC;dsimp only)
  | (with_reducible refine yxd ?_ ?_;dsimp only)
  | (show ChV _;assumption)
  | (intro q hq;obtain⟨q1,q2,q3⟩:yn2 b q:=hq)
  | (intro q hq;have hq2:zyj b q:=hq;obtain⟨⟨q1,q2,q3⟩,q4,q5⟩:zyj b q:=hq)
  | (intro q hq;obtain⟨q1,q2⟩:yue b q:=hq)
  | intro _
  | refine⟨yn2 b, ?_, ?_⟩
  | refine⟨zyj b, ?_, ?_⟩
  | refine⟨yue b, ?_, ?_⟩
  | apply And.intro
theorem ycr{m:By}{c:Ct}{b:By}{n i:Int}{x0 x:Cf}{ci ch:Int}(hm:zan m)(hs:U64 c.2.2.2)(hx:ChV x)(h0:0≤i)(h1:i≤n)(h2:n≤9)(hc:zbe b ci):zus m c b x0 n i x ci ch:=by
 have hw:IntKind.i64.wrap (i+1)=i+1:=zaa (by omega) (by omega)
 refine zah (zut m c b x0 n i x ci ch) ?_
 conv=>zeta
 simp (maxSteps:=5000000) only[and_imp,true_and,and_true,decide_eq_true_eq,decide_eq_false_iff_not,hw]
 repeat' first
  | exact rfl
  | assumption
  | exact zct _
  | exact zbq _ _
  | exact za8
  | exact hx
  | exact zk7 hm hq2 hx
  | exact zzz hm hq2 hx (zsu _ _ _).1 (zsu _ _ _).2
  | exact md_3 (by assumption) (by assumption)
  | exact md_b (by assumption)
  | exact⟨by decide,by decide⟩
  | exact zbm (by assumption)
  | (show (_:Int)≤_;omega)
  | (show (_:Nat)<_;omega)
  | refine zzy ?_
  | (show False;first|omega|exact yji (m:=m) hq2 hx (zsu _ _ _).1 (zsu _ _ _).2 (by assumption))
  | (apply exW1;dsimp only)
  | (apply exW2;dsimp only)
  | (apply exW3;dsimp only)
  | (apply exW4;dsimp only)
  | (with_reducible show yn2 _ _;unfold yn2 WmC;dsimp only)
  | (with_reducible show zyj _ _;unfold zyj WmC;dsimp only)
  | (with_reducible refine yxd ?_ ?_;dsimp only)
  | (show ChV _;assumption)
  | (intro q hq;obtain⟨q1,q2,q3⟩:yn2 b q:=hq)
  | (intro q hq;have hq2:zyj b q:=hq;obtain⟨⟨q1,q2,q3⟩,q4,q5⟩:zyj b q:=hq)
  | (intro q hq;obtain⟨q1,q2⟩:yue b q:=hq)
  | intro _
  | refine⟨yn2 b, ?_, ?_⟩
  | refine⟨zyj b, ?_, ?_⟩
  | refine⟨yue b, ?_, ?_⟩
  | apply And.intro
theorem bnd_w{x:Int}(h:0≤x)(g:x<8):2≤IntKind.i64.wrap (2+x)∧IntKind.i64.wrap (2+x)≤9:=by rw[zaa (by omega) (by omega)];omega
theorem ynp:zcm Tryz.prog 114 warm1:=by
 refine zhm Tryz.func114 (by kernel_rfl) ynw ze3 (fun b i hh (x:By × Ct × Cf) hc hx=>⟨wmX0 x.1 x.2.1 b x.2.2, ?_, ?_⟩)
 · obtain⟨m,c,x⟩:=x
   obtain⟨hm,hs,hx⟩:=hx
   dsimp only at hm hs hx ⊢
   rw[show zak (zat Tryz.f114)=[zai Tryz.f114 0] by kernel_rfl]
   intro b' hb
   rcases List.mem_singleton.1 hb with rfl
   have main:∀n:Int,2≤n→n≤9→zb3 Tryz.prog 6 (zai Tryz.f114 0) (wmL m c b x n):=fun n n2 n9=>zwa mixed ynw ze3 (wmMu n) wmB (fun y hy=>by
    obtain⟨k,i,ci,ch⟩:=y
    obtain⟨hk,⟨i0,i1⟩,hcur⟩:=hy
    dsimp only at hk i0 i1 hcur
    refine⟨wmX m c b x n i k,(by
     rw[show zak (zai Tryz.f114 0)=[] by kernel_rfl]
     exact fun b hb=>by cases hb), ?_⟩
    cases k with
    | none=>have e:i=0:=hk;subst e;exact zyb hm hs hx n2 n9 hcur
    | some k=>exact ycr hm hs hk i0 i1 n9 hcur)
   refine zg7 (k:=3) (by kernel_rfl) rfl (fun B hB (y:Int × Int × Int) hy a w hi => ?_)
   obtain⟨⟨y1,y2⟩,y3⟩:=hy
   have:=main y.2.2 y1 y2 B hB (none,0,y.1,y.2.1) ⟨rfl,⟨Int.le_refl 0,by show (0:Int)≤y.2.2;omega⟩,y3⟩ a w hi
   refine wp_mono this (fun e a' w' hq=>QW.mono (fun ex sl H F hk => ?_) hq)
   obtain⟨f,hf,z,h1,h2,h3,h4,h5⟩:=hk
   rcases List.mem_singleton.1 hf with rfl
   exact⟨_,List.mem_cons_self,z,h1,h2,h3,h4,h5⟩
 · obtain⟨m,c,x⟩:=x
   obtain⟨hm,hs,hx⟩:=hx
   refine zah (yco b i hh m c x) ?_
   dsimp only at hm hs hx
   refine⟨⟨rfl,hc,by decide,by decide⟩,fun z ⟨z1,z2,z3⟩=>⟨(z.2.1,z.2.2,IntKind.i64.wrap (2+z.1)), ?_,za8,⟨bnd_w z2 z3,z1⟩,fun y ⟨y1,y2⟩=>⟨(y.1,y.2.1,y.2.2), ?_,y2,y1⟩⟩⟩
   · repeat' apply And.intro
     all_goals rfl
   · repeat' apply And.intro
     all_goals rfl
end Go.Proofs.YtfiddfbagbaofaaGreat.V
