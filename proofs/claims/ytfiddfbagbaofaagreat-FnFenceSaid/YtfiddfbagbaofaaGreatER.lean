/- Drawn addresses and drawn changes of a memory (seat G). Conditions: those in each statement. -/
import Derived.Test.YtfiddfbagbaofaaGreatEQ
import Derived.KernelRfl
namespace Go.Proofs.YtfiddfbagbaofaaGreat.V
open Go
def FER:Dict:=mkD (kM++kB3++kA4) [] []
abbrev near1:RelS:=zkh [tlP] [u64] (0:Int) (fun t:Tl=>TlR t∧1≤t.2.2.length∧t.2.2.length≤1000) (fun _ (z:Int)=>U64 z)
def nvSl(k i x:Int)(l:List (Nat × Av)):List Av:=slots 83 ([(0,.ptr 0 0),(3,.ptr 3 0),(5,.v (.int .i64 k)),(6,.v (.int .i64 i)),(7,.v (.int .i64 x)),(8,.ptr 4 0)]++l)
def nvH(b:By)(s w:Int)(es:Es)(e:En)(ci ch:Int):Heap:=zff b ci ch++[.arr shE es false,.fix (tlA s w 2 es.length) true (some 37),.fix (yqh e) true (some 47)]
abbrev Nv:=Int × Int × Int × En × Int × Int
def NvJ(b:By)(n:Nat)(q:Nv):Prop:=EnR q.2.2.2.1∧(0≤q.2.1∧q.2.1<n)∧zbe b q.2.2.2.2.1
def NvI(b:By)(n:Nat)(q:Int × Nv):Prop:=(0≤q.1∧q.1≤8)∧NvJ b n q.2
def nvL(b:By)(s w:Int)(es:Es):LoopW where
 α:=Int × Nv
 I q:=NvI b es.length q
 sl q:=nvSl q.2.1 q.2.2.1 q.2.2.2.1 [(9,.v (.int .i64 q.1))]
 H q:=nvH b s w es q.2.2.2.2.1 q.2.2.2.2.2.1 q.2.2.2.2.2.2
 fams:=[{ β:=Nv,out:=fun _ z=>NvJ b es.length z,ex := .ext 0,sl:=fun z=>nvSl z.1 z.2.1 z.2.2.1 [],H:=fun z=>nvH b s w es z.2.2.2.1 z.2.2.2.2.1 z.2.2.2.2.2 }]
def nvX(b:By)(s w:Int)(es:Es):SpecW:={ plan:=fun k=>if k=6∨k=10∨k=14 then none else some (fun _ => .std),loop:=fun k=>if k=6 then some (nvL b s w es) else none }
def zt9(b:By)(s w:Int)(es:Es)(j k i x:Int)(e1:Bool)(e2 e3 e4:Int)(e5:Bool)(e6 ci ch:Int):Prop:=zd5 Tryz.prog FER (Rels.of zu1) (nvX b s w es) 3 (zai Tryz.f117 0) (nvL b s w es) (fun q:Int × Nv=>(8-q.1).toNat) (j,k,i,x,(e1,e2,e3,e4,e5,e6),ci,ch)
def ysy(b:By)(i h:Int)(s w:Int)(es:Es):Prop:=vcR Tryz.prog FER (Rels.of zu1) (nvX b s w es) Tryz.f117 near1 (.ptr 0 0::(zap false [tlP] (s,w,es) 2).1) (zff b i h++(zap false [tlP] (s,w,es) 2).2)
def rER1:List (FuncId × RelS):=(117,near1)::zu1
abbrev zwv:RelS:=zkh [haP] [u64] (0:Int) (fun h:Ha=>HaV h) (fun _ (z:Int)=>U64 z)
def yi2(b:By)(i h:Int)(r:Rn):Prop:=vcR Tryz.prog FER (Rels.of rER1) ycv Tryz.f116 zwv (.ptr 0 0::(zap false [haP] r.h 2).1) (zff b i h++(zap false [haP] r.h 2).2)
abbrev stale1:RelS:=zkh [byP,u64,u64] [byP] ([]:By) (fun x:By × Int × Int=>zan x.1∧U64 x.2.1∧U64 x.2.2) (fun _ (z:By)=>zan z)
def stSl(o:By)(i:Int)(l:List (Nat × Av)):List Av:=slots 80 ([(0,.ptr 0 0),(9,.sl 4 1 0 o.length),(10,.ptr 6 0),(11,.v (.int .i64 i))]++l)
def stH(b m:By)(W:Wr)(o:By)(ci ch:Int):Heap:=zff b ci ch++[.arr [.i .u8] m false,.dead,.arr [.i .u8] o true,.arr shR W.2.2.2 true,.fix (wkA W 5) true (some 183)]
def ywr(b m:By)(W:Wr)(r:Nat):Option CutW :=
 if r=7 then some { β:=By × Int × Int × Int,sl:=fun z=>stSl z.1 z.2.1 [],H:=fun z=>stH b m W z.1 z.2.2.1 z.2.2.2 }
 else if r=12∨r=14 then some { β:=By × Int × Int × Int × Int,sl:=fun z=>stSl z.1 z.2.1 [(14,.v (.int .u64 z.2.2.1))],H:=fun z=>stH b m W z.1 z.2.2.2.1 z.2.2.2.2 }
 else none
def stX(b m:By)(W:Wr):SpecW:={ plan:=fun k=>if k=15 then none else some (fun _ => .std),cond:=ywr b m W }
def ynj(b:By)(i h:Int)(m:By)(s va:Int):Prop:=vcR Tryz.prog FER (Rels.of zu1) (stX b m (zbx m s va)) Tryz.f118 stale1 (.ptr 0 0::(zap false [byP,u64,u64] (m,s,va) 2).1) (zff b i h++(zap false [byP,u64,u64] (m,s,va) 2).2)
set_option linter.unusedVariables false
set_option maxRecDepth 10000
theorem zua(b:By)(s w:Int)(es:Es)(j k i x:Int)(e1:Bool)(e2 e3 e4:Int)(e5:Bool)(e6 ci ch:Int):zt9 b s w es j k i x e1 e2 e3 e4 e5 e6 ci ch=(
 let A0:=List.length es;
 let A1(a:Int):=IntKind.i64.wrap (a+1);
 let A2(a:Int × Nv):=a.snd.snd;
 let A3(a b c:Prop):=a∧b∧c;
 let A4(a b c d e:Prop):=A3 a b (A3 c d e);
 let A5(a:Int × Int × En × Int × Int):=a.snd.snd.fst.snd.snd;
 let A6:=(A1 i).tmod (↑A0:Int);
 let A7:=(0:Nat)+A6.toNat;
 let A8:=(0:Nat)=0;
 let A9:=List.getD es A7 (El.zero shE);
 let Aa:=zj1 Fz.none Fz.none;
 let Ab(a b:Int)(c d e f:Prop):=A4 (a=b) c d e f;
 let Ac(a:Int × Int × En × Int × Int):=a.snd.snd.fst.snd.fst;
 let Ad(a:Int):=((8:Int)-a).toNat;
 let Ae:=A9.snd;
 let Af(a:Bool)(b:Prop):=(bif decide (j<8) then !e1 else false)=a→b;
 let Ah:=Ae.snd.snd.snd;
 let Ai(a c d e f g:Int)(h:Int × Int)(i j:Prop):=A3 (a=c) (d=e) (Ab f g A8 (List.length b=List.length b) (h.fst=ci) (Ab h.snd ch (b=b) (es=es) (s=s) (Ab w w A8 (A0=A0) i j)));
 let Aj(a:Int × Int × Int × En × Int × Int):=NvJ b A0 a;
 Af true ((↑A0:Int)≠0∧A3 ((0:Int)≤A6∧A6<(↑A0:Int)) (A7<A0) (∃(x0:Int × Nv),A4 (x0.snd.fst=k∧Ai (A2 x0).fst A6 (A2 x0).snd.fst x x0.fst (A1 j) (A2 x0).snd.snd.snd ((A2 x0).snd.snd.fst.fst=A9.fst) (A4
  (Ac (A2 x0)=Ae.fst) ((A5 (A2 x0)).fst=Ae.snd.fst) ((A5 (A2 x0)).snd.fst=Ae.snd.snd.fst) ((A5 (A2 x0)).snd.snd.fst=Ah.fst) ((A5 (A2 x0)).snd.snd.snd=Ah.snd))) Aa (NvI b A0 x0) (Ad x0.fst<Ad j) (∀(x1:Int × Int × Int ×
  En × Int × Int),Aj x1→Aj x1)))∧Af false (∃(x2:Int × Int × Int × En × Int × Int),A3 (Ai x2.fst k x2.snd.fst i x2.snd.snd.fst x x2.snd.snd.snd.snd (x2.snd.snd.snd.fst.fst=e1) (Ab (Ac x2.snd) e2 ((A5 x2.snd).fst=e3) ((A5
  x2.snd).snd.fst=e4) ((A5 x2.snd).snd.snd.fst=e5) ((A5 x2.snd).snd.snd.snd=e6))) Aa (Aj x2))):=by kernel_rfl
theorem yb1(b:By)(i h:Int)(s w:Int)(es:Es):ysy b i h s w es=(
 let A0(a:Int):=IntKind.i64.wrap a;
 let A1(a:Int × Int × En × Int × Int):=a.snd.snd.fst;
 let A2:=List.length es;
 let A3(a b:Bool):=bif a then b else false;
 let A4(a:Int × Int):=zbe b a.fst;
 let A5(a:Int):=IntKind.u64.wrap a;
 let A6(a b c:Prop):=a∧b∧c;
 let A7(a:Int × Nv):=a.snd.snd;
 let A8(a:Int × Int × Int × En × Int × Int):=(A1 a.snd).snd.fst;
 let A9(a:Int):=a≤100000;
 let Aa(a:PmT [i64] × Int × Int):=(0:Nat)+Int.toNat a.fst;
 let Ab(a:PmT [i64] × Int × Int):=List.getD es (Aa a) (El.zero shE);
 let Ac:=(↑A2:Int);
 let Ad:=(0:Nat)=0;
 let Ae(a b c d e:Prop):=A6 a b (A6 c d e);
 let Af(a:Int):=(1:Int)≤a;
 let Ah(a:Int × Nv):=(A1 (A7 a)).snd.snd;
 let Ai(a:PmT [i64] × Int × Int):=(Ab a).snd;
 let Aj:=List.length b=List.length b;
 let Ak(a:Int × Int × Int × En × Int × Int):=(6:Int)+A0 ((3:Int)*A8 a);
 let Al(a:PmT [i64] × Int × Int)(b:Int):=A6 (A4 a.snd) ((0:Int)≤a.fst) (a.fst<b);
 let Am(a b c:Prop):=a→b∧c;
 let An(a:Int × Int × Int × En × Int × Int):=A0 (Ak a)≤(64:PmT [i64]);
 let Ao(a:Prop)(b:Bool)(c d e f:Prop):=Am a (Am (b=true) c d) (Am (b=false) e f);
 let Ap(a:PmT [u64] × Int × Int)(c:Int × Int × Int × En × Int × Int)(d:Int)(e:PmT [i64] × Int × Int):=A6 (A6 (a.fst=A5 (A5 ((A1 c.snd).snd.snd.fst*pw (A0 (Ak c)))+A5 d)) Ad (Ae Aj (a.snd.fst=e.snd.fst) (a.snd.snd =
  e.snd.snd) (b=b) (es=es))) (A4 a.snd) (U64 a.fst);
 let Aq(a:PmT [i64] × Int × Int)(b c:Int)(d:Prop):=Am (Al a b) (Aj∧A6 (A4 a.snd) (Af c) (A9 c)) d;
 (Aj∧A6 (zbe b i) (Af 6) (A9 6))∧∀(x0:PmT [i64] × Int × Int),Aq x0 6 Ac (∀(x1:PmT [i64] × Int × Int),Aq x1 Ac 64 (∀(x2:PmT [i64] × Int × Int),Al x2 64→A6 ((0:Int)≤x1.fst ∧
  x1.fst<Ac) (Aa x1<A2) (∃(x3:Int × Nv),(x3.snd.fst=x0.fst∧A6 ((A7 x3).fst=x1.fst) ((A7 x3).snd.fst=x2.fst) (Ae (x3.fst=0) Ad Aj ((A7 x3).snd.snd.snd.fst=x2.snd.fst) (Ae ((A7 x3).snd.snd.snd.snd =
  x2.snd.snd) (b=b) (es=es) (s=s) (Ae (w=w) Ad (A2=A2) ((A1 (A7 x3)).fst=(Ab x1).fst) (Ae ((A1 (A7 x3)).snd.fst=(Ai x1).fst) ((Ah x3).fst=(Ai x1).snd.fst) ((Ah x3).snd.fst=(Ai x1).snd.snd.fst) ((Ah x3).snd.snd.fst
  = (Ai x1).snd.snd.snd.fst) ((Ah x3).snd.snd.snd=(Ai x1).snd.snd.snd.snd))))))∧A6 (zj1 Fz.none Fz.none) (NvI b A2 x3) (∀(x4:Int × Int × Int × En × Int × Int),Ao (NvJ b A2 x4) (A3 (A3 (A3 (decide (x4.fst<5)) (A1
  x4.snd).fst) (decide ((A8 x4)≥0))) (decide ((A8 x4)<3))) (Aj∧A6 (A4 x4.snd.snd.snd.snd) (Af 8) (A9 8)) (∀(x5:PmT [i64] × Int × Int),Ao (Al x5 8) (decide ((A8 x4)>0)) (An
  x4) (∃(x6:PmT [u64] × Int × Int),Ap x6 x4 (A0 (x4.snd.snd.fst+A0 ((64:Int)*x5.fst))) x5) (An x4) (∃(x7:PmT [u64] × Int × Int),Ap x7 x4 x4.snd.snd.fst x5)) (A6 Aj (A4 x4.snd.snd.snd.snd) True) (∀(x8:PmT [u64]
  × Int × Int),A4 x8.snd∧U64 x8.fst→∃(x9:PmT [u64] × Int × Int),A6 (A6 (x9.fst=x8.fst) Ad (Ae Aj (x9.snd.fst=x8.snd.fst) (x9.snd.snd=x8.snd.snd) (b=b) (es=es))) (A4 x9.snd) (U64 x9.fst))))))):=by kernel_rfl
theorem zuk(b:By)(i h:Int)(r:Rn):yi2 b i h r=(
 let A0(a b c:Prop):=a∧b∧c;
 let A1(a b c d e:Prop):=A0 a b (A0 c d e);
 let A2(a:PmT [i64] × Int × Int)(c d:Prop):=A0 (zbe b a.snd.fst) c d;
 let A3:=(0:Nat)=0;
 let A4(a:Prop)(c:PmT [u64] × Int × Int):=A0 a (zbe b c.snd.fst) (U64 c.fst);
 let A5:=List.length b=List.length b;
 let A6(a:PmT [i64] × Int × Int)(b:Bool)(c:Prop):=(a.fst==2)=b→c;
 let A7(a:Bool)(b c d:Prop):=(a=true→b)∧(a=false→c∧d);
 let A8(a:PmT [i64] × Int × Int)(b c:Int)(d:Prop):=A2 a ((0:Int)≤a.fst) (a.fst<b)→(A5∧A2 a ((1:Int)≤c) (c≤100000))∧d;
 let A9(a:PmT [u64] × Int × Int)(c:Int)(d:PmT [i64] × Int × Int):=A4 (A0 (a.fst=IntKind.u64.wrap (c+IntKind.u64.wrap d.fst)) A3 (A1 A5 (a.snd.fst=d.snd.fst) (a.snd.snd=d.snd.snd) (b=b) (A1 (r.1=r.1) (r.2=r.2) (r.15 =
  r.15) (r.18=r.18) (r.21=r.21)))) a;
 let Aa(a:Prop)(c:PmT [u64] × Int × Int)(d e:Int):=A4 (A0 a A3 (A1 A5 (c.snd.fst=d) (c.snd.snd=e) (b=b) (A1 (r.1=r.1) (r.2=r.2) (r.15=r.15) (r.18=r.18) (r.21=r.21)))) c;
 let Ab:=List.length r.18;
 (A5∧A0 (zbe b i) ((1:Int)≤6) ((6:Int)≤100000))∧∀(x0:PmT [i64] × Int × Int),A8 x0 6 512 (∀(x1:PmT [i64] × Int × Int),A8 x1 512 1024 (∀(x2:PmT [i64] × Int × Int),A2
  x2 ((0:Int)≤x2.fst) (x2.fst<1024)→A7 (decide (x0.fst<2)) (∃(x3:PmT [u64] × Int × Int),Aa (x3.fst=IntKind.u64.wrap x1.fst) x3 x2.snd.fst x2.snd.snd) (A6 x0 true (∃(x4:PmT [u64] × Int × Int),A9
  x4 512 x2)) (A6 x0 false (A7 (x0.fst==3) (∃(x5:PmT [u64] × Int × Int),A9 x5 4096 x2) (Ab=Ab∧A1 A5 (zbe b x2.snd.fst) (TlR (r.16,r.17,r.18)) ((1:Nat)≤Ab) (Ab≤1000)) (∀(x6:PmT
  [u64] × Int × Int),zbe b x6.snd.fst∧U64 x6.fst→∃(x7:PmT [u64] × Int × Int),Aa (x7.fst=x6.fst) x7 x6.snd.fst x6.snd.snd)))))):=by kernel_rfl
theorem zx5(b:By)(i h:Int)(m:By)(s va:Int):ynj b i h m s va=(
 let A0:=(zbx m s va).snd.snd;
 let A1(a b c:Prop):=a∧b∧c;
 let A2:=(0:Nat)=0;
 let A3(a b c d e:Prop):=A1 a b (A1 c d e);
 let A4(a:By × Int × Int × Int × Int):=List.length a.fst;
 let A5:=zbx m s va;
 let A6(a:Int × Int):=zbe b a.fst;
 let A7(a:Nat):=(0:Nat)+a;
 let A8(a:By × Int × Int × Int × Int):=a.snd.fst;
 let A9(a:Int):=IntKind.u64.wrap a;
 let Aa(a b c d e f g h i:Prop):=A3 a b c d (A3 e f g h i);
 let Ab:=A5.snd.snd;
 let Ac(a:By × Int × Int × Int × Int):=a.snd.snd.snd;
 let Ad:=A5.fst;
 let Ae(a:By × Int × Int × Int):=a.snd.fst;
 let Af:=List.take (List.length m) (List.drop 0 m);
 let Ah(a:Nat)(b:By):=a=List.length b;
 let Ai(a:By × Int × Int × Int × Int):=a.snd.snd.fst;
 let Aj:=(8:Int).toNat;
 let Ak:=zj1 Fz.none Fz.none;
 let Al(a:Int):=IntKind.i64.wrap a;
 let Am(a b c d:Prop):=a∧A1 b c d;
 let An:=(↑(List.length Ab.snd):Int);
 let Ao:=List.length b=List.length b;
 let Ap(a b:Int × Int):=a.snd=b.snd;
 let Aq:=A0.snd;
 let Ar(a b c d e f g h i j:Prop):=A1 (Aa A2 a b c d e f g h) i j;
 let Au:=List.length A0.snd;
 let Aw(a b:Prop)(c:Int):=Am Ao a b (c≤100000);
 let Ax:=A7 Af.length;
 let Ay(a b:Int × Int):=a.fst=b.fst;
 let Az:=A0.fst;
 let AB:=List.length m;
 let AC:=(zbx m s va).snd.fst;
 let AD(a:Int):=List.getD Aq (A7 a.toNat) (El.zero shR);
 let AE(a:PmT [bl] × Int × Int)(b:Bool)(c:Prop):=a.fst=b→c;
 let AF(a:By × Int × Int × Int × Int):=IntKind.i64.wrap (AD (A8 a)).snd.fst;
 let AG(a:PmT [i64] × Int × Int):=Al ((8:Int)+a.fst);
 let AH(a:By × Int × Int × Int):=decide ((AD (Ae a)).fst>0);
 let AI(a:Int):=A9 (A9 a*1024);
 let AJ(a c:By × Int × Int × Int × Int)(d:Int)(e:PmT [bl] × Int × Int)(f:By × Int × Int × Int × Int→Prop):=Ar (A4 a=A4 c) (A8 a=A8 c) (Ai a=d) A2 Ao (Ay (Ac a) e.snd) (Ap (Ac a) e.snd) (Aa (b=b) (m=m) (a.fst =
  c.fst) (Aq=Aq) (Ad=Ad) (AC=AC) (Az=Az) A2 (Au=Au)) Ak (f a);
 let AK(a:By × Int × Int × Int × Int):=List.length (zc6 (Ai a) Aj);
 let AL(a:PmT [bl] × Int × Int):=A6 a.snd;
 let AM(a:By × Int × Int × Int × Int)(c:By × Int × Int × Int)(d:Int)(e:PmT [u64] × Int × Int)(f:By × Int × Int × Int × Int→Prop):=Ar (Ah (A4 a) c.fst) (A8 a=Ae c) (Ai a=A9 d) A2 Ao (Ay (Ac a) e.snd) (Ap (Ac a) e.snd)
  (Aa (b=b) (m=m) (a.fst=c.fst) (Aq=Aq) (Ad=Ad) (AC=AC) (Az=Az) A2 (Au=Au)) Ak (f a);
 let AN(a:Prop):=Aw a ((1:Int)≤3) 3;
 let AO(a:By × Int × Int × Int × Int):=zpz a.fst (AF a).toNat (zc6 (Ai a) Aj);
 let AP(a:Int):=(0:Int)≤a∧a<(↑Au:Int);
 let AQ(a:Prop)(b:Int):=Aw a ((1:Int)≤b) b;
 let AR(a:PmT [bl] × Int × Int)(b:Prop):=AL a∧True→b;
 let AS(a:PmT [i64] × Int × Int)(b:Int)(c:Prop):=A1 (A6 a.snd) ((0:Int)≤a.fst) (a.fst<b)→c;
 let AT:=An==0;
 let AU(a:Prop)(c:PmT [byP] × Int × Int)(d:Int × Int)(e:Prop):=Ar a A2 Ao (Ay c.snd d) (Ap c.snd d) (b=b) (m=m) e (A6 c.snd) (zan c.fst);
 let AV(a:By × Int × Int × Int)(c:Prop)(d:Int × Int)(e:By × Int × Int × Int→Prop):=A1 (Am A2 (List.length a.fst=Ax) c (A3 A2 Ao (Ay a.snd.snd d) (Ap a.snd.snd d) (Aa (b=b) (m=m) (a.fst=[]++Af) (Aq=Ab.snd) (Ad =
  A5.fst) (AC=A5.snd.fst) (Az=Ab.fst) A2 (Au=List.length Ab.snd)))) Ak (e a);
 let AW(a:PmT [byP] × Int × Int):=a.fst=[]++Af;
 let AX(a:PmT [byP] × Int × Int):=List.length a.fst=Ax;
 Am (A1 (A7 AB≤AB) ((0:Nat)≤0) (Ax≤1073741824)) (Am (Ah AB m) (zan m) (U64 s) (U64 va)) (AT=true→∃(x0:PmT [byP] × Int × Int),Ar (AX x0) A2 Ao (x0.snd.fst=i) (x0.snd.snd=h) (b=b) (m=m) (AW x0)
  (A6 x0.snd) (zan x0.fst)) (AT=false→AN (zbe b i)∧∀(x1:PmT [bl] × Int × Int),AR x1 (AE x1 true (∃(x2:PmT [byP] × Int × Int),AU (AX x2) x2 x1.snd (AW x2))∧AE x1 false (AN (AL x1)∧∀(x3:PmT [bl] × Int ×
  Int),AR x3 (∃(x4:By × Int × Int × Int→Prop),(AE x3 true (AQ (AL x3) An∧∀(x5:PmT [i64] × Int × Int),AS x5 An (∃(x6:By × Int × Int × Int),AV x6 (Ae x6=x5.fst) x5.snd x4))∧AE x3 false (∃(x7:By × Int × Int
  × Int),AV x7 (Ae x7=Al (An-1)) x3.snd x4))∧∀(x8:By × Int × Int × Int),x4 x8→AQ (A6 x8.snd.snd) 8∧∀(x9:PmT [i64] × Int × Int),AS x9 8 (AQ (A6 x9.snd) 2∧∀(x10:PmT [bl] × Int
  × Int),AR x10 (A1 Ao (AL x10) True∧∀(x11:PmT [u64] × Int × Int),A6 x11.snd∧U64 x11.fst→A1 (AP (Ae x8)) (A7 (Ae x8).toNat<Au) (∃(x12:By × Int × Int × Int × Int→Prop),((AH x8=true→(3:Int)≠0∧∃
  (x13:By × Int × Int × Int × Int),AM x13 x8 (AI (Al ((5:Int)+(AG x9).tmod 3))+1) x11 x12)∧(AH x8=false→∃(x14:By × Int × Int × Int × Int),AM x14 x8 (AI (AG x9)+x11.fst) x11 x12))∧∀(x15 :
  By × Int × Int × Int × Int),x12 x15→AQ (A6 (Ac x15)) 5∧∀(x16:PmT [bl] × Int × Int),AR x16 (∃(x17:By × Int × Int × Int × Int→Prop),(AE x16 true (∃(x18:By × Int × Int × Int × Int),AJ x18 x15 0 x16
  x17)∧AE x16 false (∃(x19:By × Int × Int × Int × Int),AJ x19 x15 (Ai x15) x16 x17))∧∀(x20:By × Int × Int × Int × Int),x17 x20→A3 (AP (A8 x20)) (A7 (A8 x20).toNat<Au) (A1 (U64 (Ai x20)) ((0:PmT [i64])≤(8 :
  Int)) ((8:Int)≤(8:PmT [i64]))) (A3 (A4 x20=A4 x20) (Ah (AK x20) (zc6 (Ai x20) Aj)) (SzR (A4 x20)) ((0:i64.T)≤AF x20) (AF x20+(↑(AK x20):i64.T)≤(↑(A4 x20):i64.T))) (∃(x21:PmT [byP] × Int × Int),AU (Ah
  (List.length x21.fst) (AO x20)) x21 (Ac x20) (x21.fst=AO x20))))))))))):=by kernel_rfl
set_option linter.unusedSimpArgs false
set_option linter.unusedVariables false
set_option maxRecDepth 10000
theorem zyf:DictOk Tryz.prog FER:=za1 ((yfa.append zdn).append zce) .nil .nil
theorem zoz{m:By}{va:Int}(hm:zan m):∀(n:Nat)(p:Int),0≤p→∀r ∈ (za6 m va n p).2.2.2,0≤r.2.1∧r.2.1+8≤m.length
 | 0,_,_,r,h=>by cases h
 | n+1,p,hp,r,h=>by
  have hi:=zn9 va n
  unfold za6 at h
  split at h
  · cases h
  · rename_i hr
    have hin:0≤64*p+8*zec va n∧64*p+8*zec va n+8≤m.length:=by
     unfold zbi at hr
     split at hr
     · rename_i hk
       unfold zsy zl3 at hk
       simp only[Bool.and_eq_true,decide_eq_true_eq] at hk
       omega
     · exact absurd rfl hr
    split at h
    · cases h
    · split at h
      · simp only[List.mem_singleton] at h
        subst h
        exact hin
      · rcases List.mem_cons.1 h with g|g
        · subst g
          exact hin
        · exact zoz hm n _ (zi0 (zoi hm)).1 r g
theorem ycq{m:By}{root va:Int}(hm:zan m):∀r ∈ (zbx m root va).2.2.2,0≤r.2.1∧r.2.1+8≤m.length:=by
 intro r h
 unfold zbx at h
 split at h
 · exact zoz hm 3 _ (Int.emod_nonneg _ (by decide)) r h
 · cases h
theorem ywa{m b:By}{a:Nat}(hm:zan m)(hb:∀x ∈ b,0≤x∧x<256)(h:a+b.length≤m.length):zan (zpz m a b):=by
 refine⟨by rw[zp0 h];exact hm.1,fun x hx => ?_⟩
 simp only[zpz,List.mem_append] at hx
 rcases hx with (hx|hx)|hx
 · exact hm.2 x (List.mem_of_mem_take hx)
 · exact hb x hx
 · exact hm.2 x (List.mem_of_mem_drop hx)
theorem yrd{i:Int}{n:Nat}(h0:0≤i)(h1:i<n)(hn:n≤1000):0≤(IntKind.i64.wrap (i+1)).tmod n∧(IntKind.i64.wrap (i+1)).tmod n<n:=by
 rw[zaa (by omega) (by omega)]
 rw[Int.tmod_eq_emod_of_nonneg (by omega)]
 exact⟨Int.emod_nonneg _ (by omega),Int.emod_lt_of_pos _ (by omega)⟩
theorem exN1{p:Int × Nv→Prop}{j a b c:Int}{e1:Bool}{e2 e3 e4:Int}{e5:Bool}{e6 f g:Int}(h:p (j,a,b,c,(e1,e2,e3,e4,e5,e6),f,g)):∃z,p z:=⟨_,h⟩
theorem exN2{p:Nv→Prop}{a b c:Int}{e1:Bool}{e2 e3 e4:Int}{e5:Bool}{e6 f g:Int}(h:p (a,b,c,(e1,e2,e3,e4,e5,e6),f,g)):∃z,p z:=⟨_,h⟩
theorem exR1{p:PmT [u64] × Int × Int→Prop}{a c d:Int}(h:p (a,c,d)):∃z,p z:=⟨_,h⟩
theorem yay{b:By}{s w:Int}{es:Es}{j k i x:Int}{e:En}{ci ch:Int}(hes:∀e ∈ es,EnR e)(hl:es.length≤1000)(h:NvI b es.length (j,k,i,x,e,ci,ch)):zt9 b s w es j k i x e.1 e.2.1 e.2.2.1 e.2.2.2.1 e.2.2.2.2.1 e.2.2.2.2.2 ci ch:=by
 obtain⟨⟨j0,j1⟩,he,⟨i0,i1⟩,hc⟩:=h
 dsimp only at j0 j1 he i0 i1 hc
 have hw:IntKind.i64.wrap (j+1)=j+1:=zaa (by omega) (by omega)
 obtain⟨n0,n1⟩:=yrd i0 i1 hl
 refine zah (zua ..) ?_
 conv=>zeta
 refine⟨fun hj=>⟨by omega,⟨n0,n1⟩,by omega, ?_⟩,fun _ => ?_⟩
 · have hj:j<8:=by
    by_cases g:j<8
    · exact g
    · simp[g] at hj
   have hen:=zvz hes (0+((IntKind.i64.wrap (i+1)).tmod es.length).toNat)
   rw[hw]
   apply exN1
   refine⟨?_,za8,⟨⟨?_, ?_⟩,hen,⟨n0,n1⟩,hc⟩, ?_,fun _ h=>h⟩
   · repeat' apply And.intro
     all_goals exact rfl
   · show 0≤j+1;omega
   · show j+1≤8;omega
   · show (8-(j+1)).toNat<(8-j).toNat;omega
 · apply exN2
   refine⟨?_,za8,he,⟨i0,i1⟩,hc⟩
   repeat' apply And.intro
   all_goals exact rfl
theorem bif3{a b c d:Bool}(h:(bif bif bif a then b else false then c else false then d else false)=true):c=true∧d=true:=by
 cases a<;>cases b<;>cases c<;>cases d<;>simp_all
theorem lv_64{l:Int}(h0:0≤l)(h1:l<3):IntKind.i64.wrap (6+IntKind.i64.wrap (3*l))≤64:=by
 rw[zaa (n:=3*l) (by omega) (by omega),zaa (by omega) (by omega)]
 omega
theorem zza:zcm Tryz.prog 117 near1:=by
 refine zhm Tryz.func117 (by kernel_rfl) zyf ze3 (fun b i hh (t:Tl) hc hx=>⟨nvX b t.1 t.2.1 t.2.2, ?_, ?_⟩)
 · obtain⟨s,w,es⟩:=t
   obtain⟨⟨t1,t2,t3,t4⟩,l1,l2⟩:=hx
   rw[show zak (zat Tryz.f117)=[zai Tryz.f117 0] by kernel_rfl]
   intro b' hb
   rcases List.mem_singleton.1 hb with rfl
   refine zg7 (k:=6) (by kernel_rfl) rfl (L:=nvL b s w es) (zdd mixed zyf ze3 (fun q:Int × Nv=>(8-q.1).toNat) (fun q hq=>⟨nvX b s w es,(by
    rw[show zak (zai Tryz.f117 0)=[] by kernel_rfl]
    exact fun b hb=>by cases hb), ?_⟩))
   obtain⟨j,k,i,x,e,ci,ch⟩:=q
   exact yay t4 l2 hq
 · obtain⟨s,w,es⟩:=t
   obtain⟨⟨t1,t2,t3,t4⟩,l1,l2⟩:=hx
   dsimp only at t1 t2 t3 t4 l1 l2
   refine zah (yb1 b i hh s w es) ?_
   conv=>zeta
   refine⟨⟨rfl,hc,by decide,by decide⟩,fun z ⟨z1,z2,z3⟩=>⟨⟨rfl,z1,by omega,by omega⟩,fun y ⟨y1,y2,y3⟩=>⟨⟨rfl,y1,by decide,by decide⟩,fun x ⟨x1,x2,x3⟩=>⟨⟨y2,y3⟩,(by have:=yor y2 y3;omega), ?_⟩⟩⟩⟩
   have hen:=zvz t4 (0+y.1.toNat)
   apply exN1
   refine⟨?_,za8,⟨⟨?_, ?_⟩,hen,⟨y2,y3⟩,x1⟩,fun q hq=>⟨fun hb=>⟨⟨rfl,hq.2.2,by decide,by decide⟩,fun p ⟨p1,p2,p3⟩ => ?_⟩,fun _=>⟨⟨rfl,hq.2.2,trivial⟩,fun p ⟨p1,p2⟩=>⟨(p.1,p.2.1,p.2.2), ?_,p1,p2⟩⟩⟩⟩
   · repeat' apply And.intro
     all_goals exact rfl
   · exact (by decide:(0:Int)≤0)
   · exact (by decide:(0:Int)≤8)
   · obtain⟨c1,c2⟩:=bif3 hb
     have hl:=lv_64 (of_decide_eq_true c1) (of_decide_eq_true c2)
     refine⟨fun _=>⟨hl, ?_⟩,fun _=>⟨hl, ?_⟩⟩<;>(apply exR1;dsimp only;repeat' first|exact rfl|assumption|exact zct _|apply And.intro)
   · repeat' apply And.intro
     all_goals exact rfl
theorem zdq{P:Program}{f:FuncId}{r:RelS}{l:List (FuncId × RelS)}(hc:callable P f=true)(hs:zcm P f r)(h:zb7 P (Rels.of l)):zb7 P (Rels.of ((f,r)::l)):=by
 intro g r' hg
 unfold Rels.of at hg
 simp only[List.lookup_cons] at hg
 split at hg
 · rename_i e
   have e':g=f:=by simpa using e
   simp only[Option.some.injEq] at hg
   subst e' hg
   exact⟨hc,hs⟩
 · exact h g r' hg
theorem yrs:zb7 Tryz.prog (Rels.of rER1):=zdq (by kernel_rfl) zza ze3
theorem ybd:zcm Tryz.prog 116 zwv:=by
 refine zhm Tryz.func116 (by kernel_rfl) zyf yrs (fun b i hh (t:Ha) hc hx=>⟨ycv,zbw (by kernel_rfl), ?_⟩)
 have ht:t=(Rn.ofH t).h:=rfl
 obtain⟨g1,g2,g3⟩:=zc1.1 hx.2.2.1
 have hl:=ze9 g2
 have hD:TlR ((Rn.ofH t).s2,(Rn.ofH t).w2,(Rn.ofH t).m2):=hx.1.2.2.2.2.2.2.2.2.2.2.2.2.1
 rw[ht]
 generalize Rn.ofH t=r at hl hD
 have hl1:1≤r.m2.length:=hl.1
 have hl2:r.m2.length≤1000:=Nat.le_trans hl.2 (by decide)
 refine zah (zuk b i hh r) ?_
 conv=>zeta
 repeat' first
  | exact rfl
  | assumption
  | exact zct _
  | exact⟨rfl,by assumption,by decide,by decide⟩
  | (apply exR1;dsimp only)
  | (intro z hz;obtain⟨z1,z2,z3⟩:zbe b z.2.1∧0≤z.1∧_:=hz)
  | (intro z hz;obtain⟨z1,z2⟩:zbe b z.2.1∧U64 z.1:=hz)
  | intro _
  | apply And.intro
def StJ1(b m:By)(n:Nat)(q:By × Int × Int × Int):Prop:=zan q.1∧q.1.length=m.length∧(0≤q.2.1∧q.2.1<n)∧zbe b q.2.2.1
def yub(b m:By)(n:Nat)(q:By × Int × Int × Int × Int):Prop:=zan q.1∧q.1.length=m.length∧(0≤q.2.1∧q.2.1<n)∧U64 q.2.2.1∧zbe b q.2.2.2.1
theorem exS1{p:By × Int × Int × Int→Prop}{a:By}{c d e:Int}(h:p (a,c,d,e)):∃z,p z:=⟨_,h⟩
theorem exS2{p:By × Int × Int × Int × Int→Prop}{a:By}{c d e f:Int}(h:p (a,c,d,e,f)):∃z,p z:=⟨_,h⟩
theorem exS3{p:PmT [byP] × Int × Int→Prop}{a:By}{c d:Int}(h:p (a,c,d)):∃z,p z:=⟨_,h⟩
theorem yup(m:By):[]++List.take (List.length m) (List.drop 0 m)=m:=by simp
theorem yuq(m:By):0+(List.take (List.length m) (List.drop 0 m)).length=m.length:=by simp
theorem yq5{n:Nat}(h:(((n:Int)==0))=false)(hn:n≤3):0≤IntKind.i64.wrap ((n:Int)-1)∧IntKind.i64.wrap ((n:Int)-1)<n:=by
 have:(n:Int)≠0:=by simpa using h
 rw[zaa (by omega) (by omega)]
 omega
theorem yko{rs:Rs}{k:Nat}(h:k<rs.length):rs.getD k (El.zero shR) ∈ rs:=by
 rw[List.getD_eq_getElem?_getD,List.getElem?_eq_getElem h]
 exact List.getElem_mem _
theorem yhe:zcm Tryz.prog 118 stale1:=by
 refine zhm Tryz.func118 (by kernel_rfl) zyf ze3 (fun b i hh (t:By × Int × Int) hc hx=>⟨stX b t.1 (zbx t.1 t.2.1 t.2.2),zbw (by kernel_rfl), ?_⟩)
 obtain⟨m,s,va⟩:=t
 obtain⟨hm,hs,hv⟩:=hx
 dsimp only at hm hs hv
 have hsz:m.length≤2097152:=hm.1
 have hlen:=zux m s va
 have hadr:=ycq (root:=s) (va:=va) hm
 refine zah (zx5 b i hh m s va) ?_
 conv=>zeta
 rw[yup,yuq]
 generalize (zbx m s va).2.2.2=rs at hlen hadr
 have main:∀(q:By × Int × Int × Int × Int),yub b m rs.length q→(0≤IntKind.i64.wrap (List.getD rs (0+q.2.1.toNat) (El.zero shR)).2.1∧IntKind.i64.wrap (List.getD rs (0+q.2.1.toNat) (El.zero shR)).2.1+((zc6 q.2.2.1 (Int.toNat 8)).length:Int)≤q.1.length) ∧
  zan (zpz q.1 (IntKind.i64.wrap (List.getD rs (0+q.2.1.toNat) (El.zero shR)).2.1).toNat (zc6 q.2.2.1 (Int.toNat 8))):=by
  intro q ⟨q1,q2,⟨q3,q4⟩,q5,q6⟩
  have hr:=hadr _ (yko (k:=0+q.2.1.toNat) (by omega))
  generalize List.getD rs (0+q.2.1.toNat) (El.zero shR)=r at hr
  have hq1:q.1.length≤2097152:=q1.1
  have hb:(zc6 q.2.2.1 (Int.toNat 8)).length=8:=zac _ _
  have hw:IntKind.i64.wrap r.2.1=r.2.1:=zaa (by omega) (by omega)
  rw[hw]
  refine⟨⟨hr.1,by omega⟩,ywa q1 (fun x hx=>zbv _ _ x hx) (by omega)⟩
 refine⟨⟨by omega,Nat.le_refl 0,by omega⟩,⟨rfl,hm,hs,hv⟩,fun _=>⟨(m,i,hh), ?_,hc,hm⟩,fun hne=>⟨⟨rfl,hc,by decide,by decide⟩,fun z ⟨z1,_⟩=>⟨fun _=>⟨(m,z.2.1,z.2.2), ?_,z1,hm⟩,fun _=>⟨⟨rfl,z1,by decide,by decide⟩,fun y ⟨y1,_⟩ => ?_⟩⟩⟩⟩
 · repeat' apply And.intro
   all_goals rfl
 · repeat' apply And.intro
   all_goals rfl
 have hl:=yq5 hne hlen
 have hpos:1≤(rs.length:Int):=by omega
 refine⟨StJ1 b m rs.length,⟨fun _=>⟨⟨rfl,y1,hpos,by omega⟩,fun x ⟨x1,x2,x3⟩ => ?_⟩,fun _ => ?_⟩,fun q ⟨q1,q2,q3,q4⟩=>⟨⟨rfl,q4,by decide,by decide⟩,fun x ⟨x1,x2,x3⟩=>⟨⟨rfl,x1,by decide,by decide⟩,fun u ⟨u1,_⟩=>⟨⟨rfl,u1,trivial⟩,fun f ⟨f1,f2⟩=>⟨q3,by omega,yub b m rs.length,⟨fun _=>⟨by decide, ?_⟩,fun _ => ?_⟩,fun p hp=>⟨⟨rfl,hp.2.2.2.2,by decide,by decide⟩,fun v ⟨v1,_⟩=>⟨yub b m rs.length,⟨fun _ => ?_,fun _ => ?_⟩,fun o ho=>⟨ho.2.2.1, ?_,⟨ho.2.2.2.1,by decide,by decide⟩,⟨rfl,rfl,ho.1.1,(main o ho).1.1,(main o ho).1.2⟩, ?_⟩⟩⟩⟩⟩⟩⟩⟩
 · apply exS1
   refine⟨?_,za8,hm,rfl,⟨x2,x3⟩,x1⟩
   repeat' apply And.intro
   all_goals rfl
 · apply exS1
   refine⟨?_,za8,hm,rfl,hl,y1⟩
   repeat' apply And.intro
   all_goals rfl
 · apply exS2
   dsimp only
   repeat' first|exact rfl|exact za8|((with_reducible show yub _ _ _ _);exact⟨q1,q2,q3,zct _,f1⟩)|apply And.intro
 · apply exS2
   dsimp only
   repeat' first|exact rfl|exact za8|((with_reducible show yub _ _ _ _);exact⟨q1,q2,q3,zct _,f1⟩)|apply And.intro
 · refine⟨(p.1,p.2.1,0,v.2.1,v.2.2), ?_,za8,hp.1,hp.2.1,hp.2.2.1,zie,v1⟩
   repeat' apply And.intro
   all_goals rfl
 · refine⟨(p.1,p.2.1,p.2.2.1,v.2.1,v.2.2), ?_,za8,hp.1,hp.2.1,hp.2.2.1,hp.2.2.2.1,v1⟩
   repeat' apply And.intro
   all_goals rfl
 · have:=ho.2.2.1;omega
 · apply exS3
   refine⟨?_,ho.2.2.2.2,(main o ho).2⟩
   repeat' apply And.intro
   all_goals rfl
end Go.Proofs.YtfiddfbagbaofaaGreat.V
