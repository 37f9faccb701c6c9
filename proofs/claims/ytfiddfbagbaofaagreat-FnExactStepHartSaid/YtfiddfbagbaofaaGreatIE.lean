/- The program's step: the translator by caches, the walking one, and who makes them. Conditions: those in each statement. -/
import Derived.Test.YtfiddfbagbaofaaGreatID
import Derived.KernelRfl
namespace Go.Proofs.YtfiddfbagbaofaaGreat.V
open Go
set_option linter.unusedVariables false
def FIE0:Dict:=mkD [] [(132,(3,fun k=>znt 9 (lowS [4] (trS k))))] []
def tcA(pick:Int):Av := .agg [.ptr 0 0,.v (.int .i64 pick)]
def Hn.setK(r:Hn)(k:Cch):Hn:={ r with k:=k }
def ylo(r:Hn)(c0:Int)(c1 c2:Bool)(c3 kind va pick:Int)(e:Nat)(pa l:Int)(k:Cch):Prop:=zkd Tryz.prog FIE0 .none Tryz.f269 [tcA pick,.agg [.v (.int .i64 c0),.v (.bool c1),.v (.bool c2),.v (.int .u64 c3)],.v (.int .i64 kind),.v (.int .u64 va)] (h6 r 0)
 [⟨false,.tup [.v (.int .u64 pa),ym5 0 l],h6 (r.setK k) 0,e=0⟩,⟨false,.tup [.v (.int .u64 pa),ym5 1 l],h6 (r.setK k) 0,e=1⟩,⟨false,.tup [.v (.int .u64 pa),ym5 2 l],h6 (r.setK k) 0,e=2⟩]
def tcS(k:Nat):Sum:=fun args H=>match args with
 | [.agg [.ptr 0 0,.v (.int .i64 pick)],.agg [.v (.int .i64 c0),.v (.bool c1),.v (.bool c2),.v (.int .u64 c3)],.v (.int .i64 kind),.v (.int .u64 va)]=>match get6 0 H with
  | some (n,r)=>some (some (n=r.ln∧yez r.m (c0,c1,c2,c3) r.k kind va pick∧ybp k (trM r.m (c0,c1,c2,c3) r.k kind va pick)),.tup [.v (.int .u64 (trM r.m (c0,c1,c2,c3) r.k kind va pick).2.1),ym5 k (trM r.m (c0,c1,c2,c3) r.k kind va pick).2.2.1],h6 (r.setK (trM r.m (c0,c1,c2,c3) r.k kind va pick).2.2.2) 0)
  | none=>none
 | _=>none
def flT(f:Fc)(t:Tl):Tl:=(t.1,t.2.1,t.2.2.map (zn4 f))
def flI(f:Fc)(k:Cch):Nat→Cch
 | 0=>k
 | 1=>(flT f k.1,k.2.1,k.2.2)
 | 2=>(flT f k.1,flT f k.2.1,k.2.2)
 | _=>(flT f k.1,flT f k.2.1,flT f k.2.2)
def kIE1:Known:=(101,znt 3 zz7)::kJ1
def FIE1:Dict:=mkD kIE1 [] []
def FlC(k:Cch)(f:Fc):Prop:=FlR k.1.2.2 f∧FlR k.2.1.2.2 f∧FlR k.2.2.2.2 f
def tcL(r:Hn)(f:Fc):LoopS where
 α:=Nat
 I i:=i≤3
 sl i:=slots 34 [(3,.ptr 7 0),(23,.sl 8 1 0 3),(24,.v (.int .i64 3)),(25,.v (.int .i64 (i:Int)))]
 H i:=h6 (r.setK (flI f r.k i)) 0++[.dead,.fix (fcA f) true (some 58),.fix [.ptr 0 12,.ptr 0 15,.ptr 0 18] true none]
 fams:=[{ β:=Unit,out:=fun _ _=>True,ex := .ext 0,sl:=fun _=>slots 34 [],H:=fun _=>h6 (r.setK (flI f r.k 3)) 0 }]
abbrev yjn(r:Hn)(pick:Int)(f0:Bool)(f1:Int)(f2:Bool)(f3:Int)(i:Nat):Prop:=zao Tryz.prog FIE1 (.one 3 (tcL r (f0,f1,f2,f3))) 6 (zak Tryz.f268 0) (tcL r (f0,f1,f2,f3)) (fun i:Nat=>3-i) i
def ylk(r:Hn)(pick:Int)(f0:Bool)(f1:Int)(f2:Bool)(f3:Int):Prop:=yjn r pick f0 f1 f2 f3 0
def yll(r:Hn)(pick:Int)(f0:Bool)(f1:Int)(f2:Bool)(f3:Int):Prop:=yjn r pick f0 f1 f2 f3 1
def ylm(r:Hn)(pick:Int)(f0:Bool)(f1:Int)(f2:Bool)(f3:Int):Prop:=yjn r pick f0 f1 f2 f3 2
def yln(r:Hn)(pick:Int)(f0:Bool)(f1:Int)(f2:Bool)(f3:Int):Prop:=yjn r pick f0 f1 f2 f3 3
def ym9(f:Fc)(k:Cch):Cch:=if ziu f=true then flI f k 3 else k
def yxg(r:Hn)(pick:Int)(f0:Bool)(f1:Int)(f2:Bool)(f3:Int)(k:Cch):Prop:=zjp Tryz.prog FIE1 (.one 3 (tcL r (f0,f1,f2,f3))) Tryz.f268 [tcA pick,.agg [.v (.bool f0),.v (.int .u64 f1),.v (.bool f2),.v (.int .u64 f3)]] (h6 r 0) (.tup []) (h6 (r.setK k) 0)
def tcFS:Sum:=fun args H=>match args with
 | [.agg [.ptr 0 0,.v (.int .i64 pick)],.agg [.v (.bool f0),.v (.int .u64 f1),.v (.bool f2),.v (.int .u64 f3)]]=>match get6 0 H with
  | some (n,r)=>some (some (n=r.ln∧U64 f1∧FlC r.k (f0,f1,f2,f3)),.tup [],h6 (r.setK (ym9 (f0,f1,f2,f3) r.k)) 0)
  | none=>none
 | _=>none
def noS1:Sum:=fun args H=>match args,H with
 | [.agg [.v (.int .i64 _),.v (.bool _),.v (.bool _),.v (.int .u64 _)],.v (.int .i64 _),.v (.int .u64 _)],[]=>some (none,.tup [],[])
 | _,_=>none
def noS2:Sum:=fun args H=>match args,H with
 | [.agg [.v (.bool _),.v (.int .u64 _),.v (.bool _),.v (.int .u64 _)]],[]=>some (none,.tup [],[])
 | _,_=>none
def ya41(c0:Int)(c1 c2:Bool)(c3 kind va:Int):Prop:=zjp Tryz.prog (mkD [] [] []) .none Tryz.f223 [.agg [.v (.int .i64 c0),.v (.bool c1),.v (.bool c2),.v (.int .u64 c3)],.v (.int .i64 kind),.v (.int .u64 va)] [] (.tup []) []
def ya51(f0:Bool)(f1:Int)(f2:Bool)(f3:Int):Prop:=zjp Tryz.prog (mkD [] [] []) .none Tryz.f224 [.agg [.v (.bool f0),.v (.int .u64 f1),.v (.bool f2),.v (.int .u64 f3)]] [] (.tup []) []
def kIE2:Known:=[(223,noS1),(224,noS2),(46,zad [byP,zgo,i64,u64] [trP] (fun t=>some (zaz t.1∧U64 t.2.1.2.2.2∧U64 t.2.2.2)) (fun t=>zav t.1 t.2.1 t.2.2.1 t.2.2.2))]
def FIE2:Dict:=mkD kIE2 [] []
def ymf:Av := .agg [.ptr 0 0,.fn 223 [],.fn 224 []]
def yxn(r:Hn)(c0:Int)(c1 c2:Bool)(c3 kind va e pa:Int):Prop:=zkd Tryz.prog FIE2 .none Tryz.f262 [ymf,.agg [.v (.int .i64 c0),.v (.bool c1),.v (.bool c2),.v (.int .u64 c3)],.v (.int .i64 kind),.v (.int .u64 va)] (h6 r 0)
 [⟨false,.tup [.v (.int .u64 pa),.v .nilIface],h6 r 0,e=0⟩,⟨false,.tup [.v (.int .u64 0),.ifc 311 (.v (.int .i64 e))],h6 r 0,¬ e=0⟩]
def wkS(bad:Bool):Sum:=fun args H=>match args with
 | [.agg [.ptr 0 0,.fn 223 [],.fn 224 []],.agg [.v (.int .i64 c0),.v (.bool c1),.v (.bool c2),.v (.int .u64 c3)],.v (.int .i64 kind),.v (.int .u64 va)]=>match get6 0 H with
  | some (n,r)=>some (some (n=r.ln∧(zaz r.m∧U64 c3∧U64 va)∧(match bad with|false=>(zav r.m (c0,c1,c2,c3) kind va).1=0|true=>¬ (zav r.m (c0,c1,c2,c3) kind va).1=0)),
   (match bad with|false => .tup [.v (.int .u64 (zav r.m (c0,c1,c2,c3) kind va).2),.v .nilIface]|true => .tup [.v (.int .u64 0),.ifc 311 (.v (.int .i64 (zav r.m (c0,c1,c2,c3) kind va).1))]),h6 r 0)
  | none=>none
 | _=>none
def yxm(r:Hn)(f0:Bool)(f1:Int)(f2:Bool)(f3:Int):Prop:=zjp Tryz.prog FIE2 .none Tryz.f261 [ymf,.agg [.v (.bool f0),.v (.int .u64 f1),.v (.bool f2),.v (.int .u64 f3)]] (h6 r 0) (.tup []) (h6 r 0)
def wkFS:Sum:=fun args H=>match args with
 | [.agg [.ptr 0 0,.fn 223 [],.fn 224 []],.agg [.v (.bool f0),.v (.int .u64 f1),.v (.bool f2),.v (.int .u64 f3)]]=>match get6 0 H with
  | some (n,r)=>some (some (n=r.ln),.tup [],h6 r 0)
  | none=>none
 | _=>none
def evT(t:Tl)(k:Int):Tl:=(t.1,t.2.1,t.2.2.set (k % t.2.2.length).toNat zE)
def evI(k:Cch)(p:Int):Nat→Cch
 | 0=>k
 | 1=>(evT k.1 p,k.2.1,k.2.2)
 | 2=>(evT k.1 p,evT k.2.1 p,k.2.2)
 | _=>(evT k.1 p,evT k.2.1 p,evT k.2.2 p)
def caL(r:Hn)(pick:Int):LoopS where
 α:=Nat
 I i:=128≤pick∧i≤3
 sl i:=slots 46 [(0,.ptr 0 0),(1,.v (.int .i64 pick)),(21,.sl 6 1 0 3),(22,.v (.int .i64 3)),(23,.v (.int .i64 (i:Int)))]
 H i:=h6 (r.setK (evI r.k (pick-128) i)) 0++[.fix [.ptr 0 12,.ptr 0 15,.ptr 0 18] true none]
 fams:=[{ β:=Unit,out:=fun _ _=>True,ex := .ext 0,sl:=fun _=>slots 46 [(0,.ptr 0 0),(1,.v (.int .i64 pick))],H:=fun _=>h6 (r.setK (evI r.k (pick-128) 3)) 0 }]
abbrev yjm(r:Hn)(pick:Int)(i:Nat):Prop:=zao Tryz.prog (mkD [] [] []) (.one 3 (caL r pick)) 6 (zak Tryz.f179 0) (caL r pick) (fun i:Nat=>3-i) i
def yws(r:Hn)(pick:Int):Prop:=yjm r pick 0
def ywt(r:Hn)(pick:Int):Prop:=yjm r pick 1
def ywu(r:Hn)(pick:Int):Prop:=yjm r pick 2
def ywv(r:Hn)(pick:Int):Prop:=yjm r pick 3
def evK(k:Cch)(pick:Int):Cch:=if pick≥128 then evI k (pick-128) 3 else k
def vc_ca(r:Hn)(pick:Int)(k:Cch):Prop:=zjp Tryz.prog (mkD [] [] []) (.one 3 (caL r pick)) Tryz.f179 [.ptr 0 0,.v (.int .i64 pick)] (h6 r 0) (.ifc 287 (tcA pick)) (h6 (r.setK k) 0)
def CaR(r:Hn)(pick:Int):Prop:=0≤pick∧pick≤255∧(1≤r.k.1.2.2.length∧r.k.1.2.2.length≤1000)∧(1≤r.k.2.1.2.2.length∧r.k.2.1.2.2.length≤1000)∧(1≤r.k.2.2.2.2.length∧r.k.2.2.2.2.length≤1000)
def caS:Sum:=fun args H=>match args with
 | [.ptr 0 0,.v (.int .i64 pick)]=>match get6 0 H with
  | some (n,r)=>some (some (n=r.ln∧CaR r pick),.ifc 287 (tcA pick),h6 (r.setK (evK r.k pick)) 0)
  | none=>none
 | _=>none
def vc_pl(r:Hn):Prop:=zjp Tryz.prog (mkD [] [] []) .none Tryz.f178 [.ptr 0 0] (h6 r 0) (.ifc 125 ymf) (h6 r 0)
def plS:Sum:=fun args H=>match args with
 | [.ptr 0 0]=>match get6 0 H with
  | some (n,r)=>some (some (n=r.ln),.ifc 125 ymf,h6 r 0)
  | none=>none
 | _=>none
def kIE3:Known:=[(179,caS),(178,plS)]
def FIE3:Dict:=mkD kIE3 [] []
def ya31(r:Hn)(pick:Int):Prop:=zjp Tryz.prog FIE3 .none Tryz.f76 [.ptr 0 0,.v (.bool true),.v (.int .i64 pick)] (h6 r 0) (.ifc 125 ymf) (h6 r 0)
def ya21(r:Hn)(pick:Int)(k:Cch):Prop:=zjp Tryz.prog FIE3 .none Tryz.f76 [.ptr 0 0,.v (.bool false),.v (.int .i64 pick)] (h6 r 0) (.ifc 287 (tcA pick)) (h6 (r.setK k) 0)
def mkS(pl:Bool):Sum:=fun args H=>match args with
 | [.ptr 0 0,.v (.bool b),.v (.int .i64 pick)]=>match get6 0 H with
  | some (n,r)=>some (some (n=r.ln∧b=pl∧CaR r pick),(match pl with|true => .ifc 125 ymf|false => .ifc 287 (tcA pick)),(match pl with|true=>h6 r 0|false=>h6 (r.setK (evK r.k pick)) 0))
  | none=>none
 | _=>none
set_option linter.unusedVariables false
set_option maxRecDepth 10000
theorem yd5(r:Hn)(c0:Int)(c1 c2:Bool)(c3 kind va pick:Int)(e:Nat)(pa l:Int)(k:Cch):ylo r c0 c1 c2 c3 kind va pick e pa l k=(
 let A0(a:Tl):=List.length a.snd.snd;
 let A1(a:Int × Bool × Bool × Int):=(trM r.1 a r.13 kind va pick).snd;
 let A2(a:Cch):=a.snd.snd;
 let A3(a:Cch):=a.snd.fst;
 let A4(a:Nat):=a=(0:Nat);
 let A5:=A4 (0:Nat);
 let A6(a b c:Prop):=a∧b∧c;
 let A7(a:Cch):=A0 (A3 a);
 let A8(a:Cch):=A0 (A2 a);
 let A9(a:Cch):=A0 a.fst;
 let Aa:=List.length r.2;
 let Ab:=(A1 (c0,c1,c2,c3)).snd.snd;
 let Ac:=(c0,c1,c2,c3);
 let Ad:=List.length r.1;
 let Ae:=A3 Ab;
 let Af(a b:Tl):=a.snd.fst=b.snd.fst;
 let Ah(a b:Tl):=a.snd.snd=b.snd.snd;
 let Ai:=A2 Ab;
 let Aj(a:Nat):=a=(2:Nat);
 let Ak(a:Cch):=a.fst.fst;
 let Al(a b:Int)(c:Prop)(d e:Nat)(f g h i j k l m n o p q r:Prop):=A6 (a=b) c (A6 A5 (d=e) (A6 f g (A6 h i (A6 j k (A6 l m (A6 n o (A6 p q r)))))));
 let Am(a:Nat):=a=(1:Nat);
 let An:=(A9 r.13,A7 r.13,A8 r.13);
 let Ao:=Ab.fst;
 let Ap(a:Prop):=A6 (An=An) (yez r.1 Ac r.13 kind va pick) a;
 let Aq:=(trM r.1 Ac r.13 kind va pick).fst;
 let Ar:=Ad=Ad;
 let Au(a b c:Prop):=Ar∧a→b∨c∨False∧Aj e;
 let Aw(a:Prop):=Al pa (A1 Ac).fst (l=(A1 Ac).snd.fst) Ad Ad A5 (Aa=Aa) (r.3=r.3) (r.4=r.4) (r.5=r.5) (r.6=r.6) (r.7=r.7) (r.8=r.8) (r.9=r.9) (r.10=r.10) (r.11=r.11) (r.12=r.12) (Al (Ak k) (Ak Ab) (Af k.fst Ao)
  (A9 k) (A9 Ab) ((A3 k).fst=Ae.fst) (Af (A3 k) Ae) A5 (A7 k=A7 Ab) ((A2 k).fst=Ai.fst) (Af (A2 k) Ai) A5 (A8 k=A8 Ab) (r.1=r.1) (r.2=r.2) (Ah k.fst Ao) (Ah (A3 k) Ae) (Ah (A2 k) Ai))∧a;
 let Ax:=Ar∧Ap (Aj Aq);
 (Ar∧Ap (A4 Aq)∨Ar∧Ap (Am Aq)∨Ax)∧A6 (Au (Ap (A4 Aq)) (Al pa (A1 Ac).fst (Value.nilIface=Value.nilIface) Ad Ad A5 (Aa=Aa) (r.3=r.3) (r.4=r.4) (r.5=r.5) (r.6=r.6) (r.7=r.7) (r.8=r.8) (r.9=r.9) (r.10=r.10) (r.11 =
  r.11) (r.12=r.12) (Al (Ak k) (Ak Ab) (Af k.fst Ao) (A9 k) (A9 Ab) ((A3 k).fst=Ae.fst) (Af (A3 k) Ae) A5 (A7 k=A7 Ab) ((A2 k).fst=Ai.fst) (Af (A2 k) Ai) A5 (A8 k=A8 Ab) (r.1=r.1) (r.2=r.2) (Ah k.fst Ao) (Ah (A3 k) Ae) (Ah (A2
  k) Ai))∧A4 e) (False∧Am e)) (Au (Ap (Am Aq)) (False∧A4 e) (Aw (Am e))) (Ax→False∧A4 e∨False∧Am e∨Aw (Aj e))):=by kernel_rfl
theorem zvg(r:Hn)(pick:Int)(f0:Bool)(f1:Int)(f2:Bool)(f3:Int):ylk r pick f0 f1 f2 f3=(
 let A0:=(f0,f1,f2,f3);
 let A1(a:Cch):=a.fst.snd;
 let A2(a b c:Prop):=a∧b∧c;
 let A3:=(0:Nat)=(0:Nat);
 let A4(a b c d e:Prop):=A2 a b (A2 c d e);
 let A5(a:Cch):=a.snd.snd.snd;
 let A6(a:Cch):=a.snd.fst.snd;
 let A7:=flI A0 r.13 (0:Nat);
 let A8:=A1 A7;
 let A9:=(↑(0:Nat):Int);
 let Aa(a b c d e f g h i:Prop):=A4 a b c d (A4 e f g h i);
 let Ab:=flI A0 r.13 (3:Nat);
 let Ac(a b:Int × Es):=List.length a.snd=List.length b.snd;
 let Ad(a:Nat):=flI A0 r.13 a;
 let Ae:=A6 A7;
 let Af(a:Cch):=a.snd.fst.fst;
 let Ah(a b:Int × Es):=a.fst=b.fst;
 let Ai(a:Nat)(b c d e f g:Prop)(h i:Int)(j k:Prop)(l m n o:Int)(p q r:Prop)(s t:Int)(u v:Int × Es)(w:Prop)(x y:Int)(z B:Int × Es)(C D E F G H:Prop):=A2 A3 (a=a) (A4 b c d e (Aa f g (h=h) (i=i) j k
  (l=l) (m=m) (Aa (n=o) p q r (s=t) (Ah u v) A3 w (Aa (x=y) (Ah z B) A3 (Ac z B) C D E F G))))∧H;
 let Aj(a:Cch):=a.snd.snd.fst;
 let Ak(a:Cch):=(A6 a).snd=Ae.snd;
 let Al(a:Cch):=(A5 a).snd=(A5 A7).snd;
 let Am:=List.length r.2=List.length r.2;
 let An:=List.length r.1;
 (true=true→A2 ((0:Int)≤A9∧A9<(↑(3:Nat):Int)) (Ac A8 A8∧FlR A8.snd A0) (∃(x0':Nat),Ai (3:Nat) ((3:Int)=(3:Int)) ((↑x0':Int)=IntKind.i64.wrap (A9+(1:Int))) A3 (An=An) A3 Am r.3 r.4 (r.5=r.5) (r.6 =
  r.6) r.7 r.8 r.9 r.9 (r.10=r.10) (r.11=r.11) (r.12=r.12) (Ad x0').fst.fst A7.fst.fst (A1 (Ad x0')) A8 (Ac (A1 (Ad x0')) A8) (Af (Ad x0')) (Af A7) (A6 (Ad x0')) Ae (Aj (Ad x0')=Aj A7) (Ah (A5 (Ad x0')) (A5 A7)) A3 (Ac (A5 (Ad x0'))
  (A5 A7)) (Aa (r.1=r.1) (r.2=r.2) ((A1 (Ad x0')).snd=List.map (zn4 A0) A8.snd) (Ak (Ad x0')) (Al (Ad x0')) (f0=f0) (f1=f1) (f2=f2) (f3=f3)) (A2 (x0'≤(3:Nat)) ((3:Nat)-x0'<(3:Nat)-(0:Nat)) (∀(x1':Unit),True
  → True))))∧(true=false→∃(x2':Unit),Ai An A3 Am (r.3=r.3) (r.4=r.4) (r.5=r.5) (r.6=r.6) r.7 r.8 (r.9=r.9) (r.10=r.10) r.11 r.12 Ab.fst.fst A7.fst.fst (Ah (A1 Ab) A8) A3 (Ac (A1 Ab) A8) (Af Ab) (Af A7) (A6 Ab) Ae (Ac (A6
  Ab) Ae) (Aj Ab) (Aj A7) (A5 Ab) (A5 A7) (r.1=r.1) (r.2=r.2) ((A1 Ab).snd=A8.snd) (Ak Ab) (Al Ab) True)):=by kernel_rfl
theorem zvh(r:Hn)(pick:Int)(f0:Bool)(f1:Int)(f2:Bool)(f3:Int):yll r pick f0 f1 f2 f3=(
 let A0(a:Cch):=a.snd.fst;
 let A1:=(f0,f1,f2,f3);
 let A2(a:Cch):=(A0 a).snd;
 let A3(a b c:Prop):=a∧b∧c;
 let A4:=(0:Nat)=(0:Nat);
 let A5(a b c d e:Prop):=A3 a b (A3 c d e);
 let A6(a:Cch):=a.snd.snd.snd;
 let A7(a:Cch):=a.fst.snd;
 let A8:=flI A1 r.13 (1:Nat);
 let A9:=A2 A8;
 let Aa:=(↑(1:Nat):Int);
 let Ab(a b c d e f g h i:Prop):=A5 a b c d (A5 e f g h i);
 let Ac:=flI A1 r.13 (3:Nat);
 let Ad(a b:Int × Es):=List.length a.snd=List.length b.snd;
 let Ae(a:Nat):=flI A1 r.13 a;
 let Af:=A7 A8;
 let Ah(a:Cch):=a.snd.snd.fst;
 let Ai(a b:Int × Es):=a.fst=b.fst;
 let Aj(a:Nat)(b c d e f g:Prop)(h i:Int)(j k:Prop)(l m n o:Int)(p q r:Prop)(s t:Tl)(u v:Int × Es)(w:Prop)(x y:Int)(z B:Int × Es)(C D E F G H I:Prop):=A3 A4 (a=a) (A5 b c d e (Ab f g (h=h) (i=i) j
  k (l=l) (m=m) (Ab (n=o) p q r (s.fst=t.fst) (Ai u v) A4 w (Ab (x=y) (Ai z B) A4 C D E F G H))))∧I;
 let Ak(a:Cch):=(A7 a).snd=Af.snd;
 let Al(a:Cch):=(A6 a).snd=(A6 A8).snd;
 let Am:=List.length r.2=List.length r.2;
 let An:=List.length r.1;
 (true=true→A3 ((0:Int)≤Aa∧Aa<(↑(3:Nat):Int)) (Ad A9 A9∧FlR A9.snd A1) (∃(x0':Nat),Aj (3:Nat) ((3:Int)=(3:Int)) ((↑x0':Int)=IntKind.i64.wrap (Aa+(1:Int))) A4 (An=An) A4 Am r.3 r.4 (r.5=r.5) (r.6 =
  r.6) r.7 r.8 r.9 r.9 (r.10=r.10) (r.11=r.11) (r.12=r.12) (Ae x0').fst A8.fst (A7 (Ae x0')) Af (Ad (A7 (Ae x0')) Af) (A0 (Ae x0')).fst (A0 A8).fst (A2 (Ae x0')) A9 (Ad (A2 (Ae x0')) A9) (Ah (Ae x0')=Ah A8) (Ai (A6 (Ae x0')) (A6 A8))
  A4 (Ad (A6 (Ae x0')) (A6 A8)) (Ab (r.1=r.1) (r.2=r.2) (Ak (Ae x0')) ((A2 (Ae x0')).snd=List.map (zn4 A1) A9.snd) (Al (Ae x0')) (f0=f0) (f1=f1) (f2=f2) (f3=f3)) (A3 (x0'≤(3:Nat)) ((3:Nat)-x0'<(3:Nat)-(1:Nat))
  (∀(x1':Unit),True→True))))∧(true=false→∃(x2':Unit),Aj An A4 Am (r.3=r.3) (r.4=r.4) (r.5=r.5) (r.6=r.6) r.7 r.8 (r.9=r.9) (r.10=r.10) r.11 r.12 Ac.fst.fst A8.fst.fst (Ai (A7 Ac) Af) A4 (Ad (A7 Ac) Af) (A0 Ac) (A0
  A8) (A2 Ac) A9 (Ad (A2 Ac) A9) (Ah Ac) (Ah A8) (A6 Ac) (A6 A8) (Ad (A6 Ac) (A6 A8)) (r.1=r.1) (r.2=r.2) (Ak Ac) ((A2 Ac).snd=A9.snd) (Al Ac) True)):=by kernel_rfl
theorem zvi(r:Hn)(pick:Int)(f0:Bool)(f1:Int)(f2:Bool)(f3:Int):ylm r pick f0 f1 f2 f3=(
 let A0:=(f0,f1,f2,f3);
 let A1(a:Cch):=a.snd.snd.snd;
 let A2(a b c:Prop):=a∧b∧c;
 let A3:=(0:Nat)=(0:Nat);
 let A4(a b c d e:Prop):=A2 a b (A2 c d e);
 let A5(a:Cch):=a.snd.fst.snd;
 let A6(a:Cch):=a.fst.snd;
 let A7:=flI A0 r.13 (2:Nat);
 let A8:=A1 A7;
 let A9:=(↑(2:Nat):Int);
 let Aa(a b c d e f g h i:Prop):=A4 a b c d (A4 e f g h i);
 let Ab:=flI A0 r.13 (3:Nat);
 let Ac(a b:Int × Es):=List.length a.snd=List.length b.snd;
 let Ad(a:Nat):=flI A0 r.13 a;
 let Ae:=A6 A7;
 let Af(a:Cch):=a.snd.fst.fst;
 let Ah(a b:Int × Es):=a.fst=b.fst;
 let Ai(a:Nat)(b c d e f g:Prop)(h i:Int)(j k:Prop)(l m n o:Int)(p q r:Prop)(s t:Int)(u v:Int × Es)(w x:Int)(y z:Int × Es)(B C D E F G H:Prop):=A2 A3 (a=a) (A4 b c d e (Aa f g (h=h) (i=i) j k (l=l)
  (m=m) (Aa (n=o) p q r (s=t) (Ah u v) A3 (Ac u v) (Aa (w=x) (Ah y z) A3 B C D E F G))))∧H;
 let Aj(a:Cch):=a.snd.snd.fst;
 let Ak(a:Cch):=(A6 a).snd=Ae.snd;
 let Al(a:Cch):=(A5 a).snd=(A5 A7).snd;
 let Am:=List.length r.2=List.length r.2;
 let An:=List.length r.1;
 (true=true→A2 ((0:Int)≤A9∧A9<(↑(3:Nat):Int)) (Ac A8 A8∧FlR A8.snd A0) (∃(x0':Nat),Ai (3:Nat) ((3:Int)=(3:Int)) ((↑x0':Int)=IntKind.i64.wrap (A9+(1:Int))) A3 (An=An) A3 Am r.3 r.4 (r.5=r.5) (r.6 =
  r.6) r.7 r.8 r.9 r.9 (r.10=r.10) (r.11=r.11) (r.12=r.12) (Ad x0').fst.fst A7.fst.fst (A6 (Ad x0')) Ae (Af (Ad x0')) (Af A7) (A5 (Ad x0')) (A5 A7) (Ac (A5 (Ad x0')) (A5 A7)) (Aj (Ad x0')=Aj A7) (Ah (A1 (Ad x0')) A8) A3 (Ac (A1 (Ad
  x0')) A8) (Aa (r.1=r.1) (r.2=r.2) (Ak (Ad x0')) (Al (Ad x0')) ((A1 (Ad x0')).snd=List.map (zn4 A0) A8.snd) (f0=f0) (f1=f1) (f2=f2) (f3=f3)) (A2 (x0'≤(3:Nat)) ((3:Nat)-x0'<(3:Nat)-(2:Nat)) (∀(x1':Unit),True
  → True))))∧(true=false→∃(x2':Unit),Ai An A3 Am (r.3=r.3) (r.4=r.4) (r.5=r.5) (r.6=r.6) r.7 r.8 (r.9=r.9) (r.10=r.10) r.11 r.12 Ab.fst.fst A7.fst.fst (Ah (A6 Ab) Ae) A3 (Ac (A6 Ab) Ae) (Af Ab) (Af A7) (A5 Ab) (A5 A7)
  (Aj Ab) (Aj A7) (A1 Ab) A8 (Ac (A1 Ab) A8) (r.1=r.1) (r.2=r.2) (Ak Ab) (Al Ab) ((A1 Ab).snd=A8.snd) True)):=by kernel_rfl
theorem zvj(r:Hn)(pick:Int)(f0:Bool)(f1:Int)(f2:Bool)(f3:Int):yln r pick f0 f1 f2 f3=(
 let A0:=flI (f0,f1,f2,f3) r.13 (3:Nat);
 let A1:=(↑(3:Nat):Int);
 let A2(a:Tl):=List.length a.snd.snd;
 let A3:=(0:Nat)=(0:Nat);
 let A4:=A0.snd.snd;
 let A5:=A0.snd.fst;
 let A6(a b c d e:Prop):=a∧b∧c∧d∧e;
 let A7:=A0.fst;
 (false=true→((0:Int)≤A1∧A1<A1)∧False)∧(false=false→∃(x0':Unit),(A3∧List.length r.1=List.length r.1∧A6 A3 (List.length r.2=List.length r.2) (r.3=r.3) (r.4=r.4) (A6 (r.5=r.5) (r.6=r.6) (r.7=r.7) (r.8
  = r.8) (A6 (r.9=r.9) (r.10=r.10) (r.11=r.11) (r.12=r.12) (A6 (A7.fst=A7.fst) (A7.snd.fst=A7.snd.fst) A3 (A2 A7=A2 A7) (A6 (A5.fst=A5.fst) (A5.snd.fst=A5.snd.fst) A3 (A2 A5=A2 A5) (A6 (A4.fst=A4.fst) (A4.snd.fst =
  A4.snd.fst) A3 (A2 A4=A2 A4) (A6 (r.1=r.1) (r.2=r.2) (A7.snd.snd=A7.snd.snd) (A5.snd.snd=A5.snd.snd) (A4.snd.snd=A4.snd.snd))))))))∧True)):=by kernel_rfl
theorem yd4(r:Hn)(pick:Int)(f0:Bool)(f1:Int)(f2:Bool)(f3:Int)(k:Cch):yxg r pick f0 f1 f2 f3 k=(
 let A0(a:Cch):=a.snd.snd;
 let A1(a:Tl):=List.length a.snd.snd;
 let A2(a b c:Prop):=a∧b∧c;
 let A3:=(0:Nat)=(0:Nat);
 let A4(a:Cch):=a.snd.fst;
 let A5(a b c d e:Prop):=A2 a b (A2 c d e);
 let A6:=List.length r.2;
 let A7:=List.length r.1;
 let A8(a b c d e f g h i:Prop):=A5 a b c d (A5 e f g h i);
 let A9(a:Cch):=(A0 a).fst;
 let Aa(a b:Tl):=A1 a=A1 b;
 let Ab(a b:Tl):=a.snd.fst=b.snd.fst;
 let Ac(a b:Tl):=a.snd.snd=b.snd.snd;
 let Ad(a b c d e f g h i j k l m n o p q:Prop):=A8 a b c d e f g h (A8 i j k l m n o p q);
 let Ae:=flI (f0,f1,f2,f3) r.13 (3:Nat);
 let Af(a:Nat):=flI (f0,f1,f2,f3) r.13 a;
 let Ah:=r.13.fst;
 let Ai:=A4 r.13;
 let Aj(a:Prop)(b c:Tl)(d:Cch)(e:Tl):=a→A2 A3 (A7=A7) (A5 A3 (A6=A6) (r.3=r.3) (r.4=r.4) (A8 (r.5=r.5) (r.6=r.6) (r.7=r.7) (r.8=r.8) (r.9=r.9) (r.10=r.10) (r.11=r.11) (r.12=r.12) (Ad (k.fst.fst =
  b.fst) (Ab k.fst b) A3 (Aa k.fst b) ((A4 k).fst=c.fst) (Ab (A4 k) c) A3 (Aa (A4 k) c) (A9 k=A9 d) (Ab (A0 k) e) A3 (Aa (A0 k) e) (r.1=r.1) (r.2=r.2) (Ac k.fst b) (Ac (A4 k) c) (Ac (A0 k) e))));
 let Ak:=A0 r.13;
 let Al(a:Bool):=ziu (f0,f1,f2,f3)=a;
 let Am(a:Nat):=(Af a).fst;
 let An(a:Nat):=A4 (Af a);
 A2 (U64 f1) (Al true→∃(x0':Nat),A2 (A2 A3 ((3:Nat)=(3:Nat)) (A5 ((3:Int)=(↑(3:Nat):Int)) ((↑x0':Int)=(0:Int)) A3 (A7=A7) (Ad A3 (A6=A6) (r.3=r.3) (r.4=r.4) (r.5=r.5) (r.6=r.6) (r.7=r.7) (r.8=r.8)
  (r.9=r.9) (r.10=r.10) (r.11=r.11) (r.12=r.12) ((Am x0').fst=Ah.fst) (Ab (Am x0') Ah) A3 (Aa (Am x0') Ah) (Ad ((An x0').fst=Ai.fst) (Ab (An x0') Ai) A3 (Aa (An x0') Ai) (A9 (Af x0')=A9 r.13) (Ab (A0 (Af x0')) Ak) A3 (Aa (A0 (Af
  x0')) Ak) (r.1=r.1) (r.2=r.2) (Ac (Am x0') Ah) (Ac (An x0') Ai) (Ac (A0 (Af x0')) Ak) (f0=f0) (f1=f1) (f2=f2) (f3=f3))))) (x0'≤(3:Nat)) (∀(x1':Unit),Aj True Ae.fst (A4 Ae) Ae (A0 Ae))) (Aj (Al false) Ah Ai r.13 Ak)):=by kernel_rfl
theorem ykz(c0:Int)(c1 c2:Bool)(c3 kind va:Int):ya41 c0 c1 c2 c3 kind va=(
 True):=by kernel_rfl
theorem yk0(f0:Bool)(f1:Int)(f2:Bool)(f3:Int):ya51 f0 f1 f2 f3=(
 True):=by kernel_rfl
theorem yef(r:Hn)(c0:Int)(c1 c2:Bool)(c3 kind va e pa:Int):yxn r c0 c1 c2 c3 kind va e pa=(
 (List.length r.1=List.length r.1∧zaz r.1∧U64 c3∧U64 va)∧(((zav r.1 (c0,c1,c2,c3) kind va).fst != (0:Int))=true→False∧e=(0:Int)∨((0:Int)=(0:Int)∧e=(zav r.1 (c0,c1,c2,c3) kind va).fst∧(0 :
 Nat)=(0:Nat)∧List.length r.1=List.length r.1∧(0:Nat)=(0:Nat)∧List.length r.2=List.length r.2∧r.3=r.3∧r.4=r.4∧r.5=r.5∧r.6=r.6∧r.7=r.7∧r.8=r.8∧r.9=r.9∧r.10=r.10∧r.11=r.11∧r.12=r.12 ∧
 r.13.fst.fst=r.13.fst.fst∧r.13.fst.snd.fst=r.13.fst.snd.fst∧(0:Nat)=(0:Nat)∧List.length r.13.fst.snd.snd=List.length r.13.fst.snd.snd∧r.13.snd.fst.fst=r.13.snd.fst.fst∧r.13.snd.fst.snd.fst=r.13.snd.fst.snd.fst∧(0
 : Nat)=(0:Nat)∧List.length r.13.snd.fst.snd.snd=List.length r.13.snd.fst.snd.snd∧r.13.snd.snd.fst=r.13.snd.snd.fst∧r.13.snd.snd.snd.fst=r.13.snd.snd.snd.fst∧(0:Nat)=(0:Nat)∧List.length r.13.snd.snd.snd.snd =
 List.length r.13.snd.snd.snd.snd∧r.1=r.1∧r.2=r.2∧r.13.fst.snd.snd=r.13.fst.snd.snd∧r.13.snd.fst.snd.snd=r.13.snd.fst.snd.snd∧r.13.snd.snd.snd.snd=r.13.snd.snd.snd.snd)∧¬e=(0:Int))∧(((zav r.1 (c0,c1,c2,c3)
 kind va).fst != (0:Int))=false→(pa=(zav r.1 (c0,c1,c2,c3) kind va).snd∧Value.nilIface=Value.nilIface∧(0:Nat)=(0:Nat)∧List.length r.1=List.length r.1∧(0:Nat)=(0:Nat)∧List.length r.2=List.length r.2 ∧
 r.3=r.3∧r.4=r.4∧r.5=r.5∧r.6=r.6∧r.7=r.7∧r.8=r.8∧r.9=r.9∧r.10=r.10∧r.11=r.11∧r.12=r.12∧r.13.fst.fst=r.13.fst.fst∧r.13.fst.snd.fst=r.13.fst.snd.fst∧(0:Nat)=(0:Nat)∧List.length
 r.13.fst.snd.snd=List.length r.13.fst.snd.snd∧r.13.snd.fst.fst=r.13.snd.fst.fst∧r.13.snd.fst.snd.fst=r.13.snd.fst.snd.fst∧(0:Nat)=(0:Nat)∧List.length r.13.snd.fst.snd.snd=List.length r.13.snd.fst.snd.snd ∧
 r.13.snd.snd.fst=r.13.snd.snd.fst∧r.13.snd.snd.snd.fst=r.13.snd.snd.snd.fst∧(0:Nat)=(0:Nat)∧List.length r.13.snd.snd.snd.snd=List.length r.13.snd.snd.snd.snd∧r.1=r.1∧r.2=r.2∧r.13.fst.snd.snd=r.13.fst.snd.snd ∧
 r.13.snd.fst.snd.snd=r.13.snd.fst.snd.snd∧r.13.snd.snd.snd.snd=r.13.snd.snd.snd.snd)∧e=(0:Int)∨False∧¬e=(0:Int))):=by kernel_rfl
theorem yee(r:Hn)(f0:Bool)(f1:Int)(f2:Bool)(f3:Int):yxm r f0 f1 f2 f3=(
 let A0:=r.13.snd.snd;
 let A1:=r.13.fst;
 let A2(a:Tl):=List.length a.snd.snd;
 let A3:=r.13.snd.fst;
 let A4:=(0:Nat)=(0:Nat);
 let A5(a b c d e:Prop):=a∧b∧c∧d∧e;
 let A6(a b:Int)(c:Tl)(d:Prop):=A5 (a=a) (b=b) A4 (A2 c=A2 c) d;
 A4∧List.length r.1=List.length r.1∧A5 A4 (List.length r.2=List.length r.2) (r.3=r.3) (r.4=r.4) (A5 (r.5=r.5) (r.6=r.6) (r.7=r.7) (r.8=r.8) (A5 (r.9=r.9) (r.10=r.10) (r.11=r.11) (r.12=r.12) (A6 A1.fst A1.snd.fst
  A1 (A6 A3.fst A3.snd.fst A3 (A5 (A0.fst=A0.fst) (A0.snd.fst=A0.snd.fst) A4 (A2 A0=A2 A0) (A5 (r.1=r.1) (r.2=r.2) (A1.snd.snd=A1.snd.snd) (A3.snd.snd=A3.snd.snd) (A0.snd.snd=A0.snd.snd)))))))):=by kernel_rfl
theorem ycz(r:Hn)(pick:Int):yws r pick=(
 let A0(a:Tl):=List.length a.snd.snd;
 let A1:=evI r.13 (pick-(128:Int)) (0:Nat);
 let A2(a:Nat):=evI r.13 (pick-(128:Int)) a;
 let A3:=(0:Nat)=(0:Nat);
 let A4(a b c:Prop):=a∧b∧c;
 let A5(a b c d e:Prop):=A4 a b (A4 c d e);
 let A6(a:Tl):=a.snd.snd;
 let A7:=A1.snd.fst;
 let A8:=A1.snd.snd;
 let A9:=(↑(0:Nat):Int);
 let Aa:=(↑(A0 A1.fst):Int);
 let Ab(a b c d e f g h i:Prop):=A5 a b c d (A5 e f g h i);
 let Ac:=A2 (3:Nat);
 let Ad(a b:Tl):=a.snd.fst=b.snd.fst;
 let Ae(a b:Tl):=A0 a=A0 b;
 let Af(a b:Tl):=a.fst=b.fst;
 let Ah:=A1.fst;
 let Ai:=IntKind.i64.wrap (pick-(128:Int));
 let Aj(a:Cch)(b c:Tl)(d:Prop):=Ab (r.5=r.5) (r.6=r.6) (r.7=r.7) (r.8=r.8) (r.9=r.9) (r.10=r.10) (r.11=r.11) (r.12=r.12) (Ab (Af a.fst Ah) (Ad a.fst Ah) A3 (Ae a.fst Ah) (Af b A7) (Ad b A7) A3 (Ae b A7) (Ab (Af c
  A8) (Ad c A8) A3 (Ae c A8) (r.1=r.1) (r.2=r.2) d (A6 b=A6 A7) (A6 c=A6 A8)));
 let Ak(a:Nat)(b c:Prop):=(pick=pick∧A4 A3 (a=a) b)∧c;
 let Al:=List.length r.2=List.length r.2;
 let Am:=(0:Nat)+(Ai.tmod Aa).toNat;
 let An:=List.length r.1;
 (true=true→A5 ((0:Int)≤A9∧A9<(↑(3:Nat):Int)) (Aa≠(0:Int)) ((0:Int)≤Ai.tmod Aa∧Ai.tmod Aa<Aa) (Am<A0 Ah) (∃(x0':Nat),Ak (3:Nat) (Ab ((3:Int)=(3:Int)) ((↑x0':Int)=IntKind.i64.wrap (A9+(1 :
  Int))) A3 (An=An) A3 Al (r.3=r.3) (r.4=r.4) (Aj (A2 x0') (A2 x0').snd.fst (A2 x0').snd.snd (A6 (A2 x0').fst=List.set (A6 Ah) Am (false,(0:Int),(0:Int),(0:Int),false,(0:Int))))) (A4 ((128:Int)≤pick∧x0'≤(3:Nat))
  ((3:Nat)-x0'<(3:Nat)-(0:Nat)) (∀(x1':Unit),True→True))))∧(true=false→∃(x2':Unit),Ak An (A5 A3 Al (r.3=r.3) (r.4=r.4) (Aj Ac Ac.snd.fst Ac.snd.snd (A6 Ac.fst=A6 Ah))) True)):=by kernel_rfl
theorem yc0(r:Hn)(pick:Int):ywt r pick=(
 let A0(a:Tl):=List.length a.snd.snd;
 let A1:=evI r.13 (pick-(128:Int)) (1:Nat);
 let A2(a:Nat):=evI r.13 (pick-(128:Int)) a;
 let A3:=(0:Nat)=(0:Nat);
 let A4(a b c:Prop):=a∧b∧c;
 let A5(a b c d e:Prop):=A4 a b (A4 c d e);
 let A6(a:Tl):=a.snd.snd;
 let A7:=A1.snd.snd;
 let A8:=A1.fst;
 let A9:=(↑(1:Nat):Int);
 let Aa:=(↑(A0 A1.snd.fst):Int);
 let Ab(a b c d e f g h i:Prop):=A5 a b c d (A5 e f g h i);
 let Ac:=A2 (3:Nat);
 let Ad(a b:Tl):=a.snd.fst=b.snd.fst;
 let Ae(a b:Tl):=A0 a=A0 b;
 let Af(a b:Tl):=a.fst=b.fst;
 let Ah:=A1.snd.fst;
 let Ai:=IntKind.i64.wrap (pick-(128:Int));
 let Aj(a:Cch)(b c:Tl)(d:Prop):=Ab (r.5=r.5) (r.6=r.6) (r.7=r.7) (r.8=r.8) (r.9=r.9) (r.10=r.10) (r.11=r.11) (r.12=r.12) (Ab (Af a.fst A8) (Ad a.fst A8) A3 (Ae a.fst A8) (Af b Ah) (Ad b Ah) A3 (Ae b Ah) (Ab (Af c
  A7) (Ad c A7) A3 (Ae c A7) (r.1=r.1) (r.2=r.2) (A6 a.fst=A6 A8) d (A6 c=A6 A7)));
 let Ak(a:Nat)(b c:Prop):=(pick=pick∧A4 A3 (a=a) b)∧c;
 let Al:=List.length r.2=List.length r.2;
 let Am:=(0:Nat)+(Ai.tmod Aa).toNat;
 let An:=List.length r.1;
 (true=true→A5 ((0:Int)≤A9∧A9<(↑(3:Nat):Int)) (Aa≠(0:Int)) ((0:Int)≤Ai.tmod Aa∧Ai.tmod Aa<Aa) (Am<A0 Ah) (∃(x0':Nat),Ak (3:Nat) (Ab ((3:Int)=(3:Int)) ((↑x0':Int)=IntKind.i64.wrap (A9+(1 :
  Int))) A3 (An=An) A3 Al (r.3=r.3) (r.4=r.4) (Aj (A2 x0') (A2 x0').snd.fst (A2 x0').snd.snd (A6 (A2 x0').snd.fst=List.set (A6 Ah) Am (false,(0:Int),(0:Int),(0:Int),false,(0:Int))))) (A4 ((128:Int)≤pick∧x0'≤(3 :
  Nat)) ((3:Nat)-x0'<(3:Nat)-(1:Nat)) (∀(x1':Unit),True→True))))∧(true=false→∃(x2':Unit),Ak An (A5 A3 Al (r.3=r.3) (r.4=r.4) (Aj Ac Ac.snd.fst Ac.snd.snd (A6 Ac.snd.fst=A6 Ah))) True)):=by kernel_rfl
theorem yc1(r:Hn)(pick:Int):ywu r pick=(
 let A0(a:Tl):=List.length a.snd.snd;
 let A1:=evI r.13 (pick-(128:Int)) (2:Nat);
 let A2(a:Nat):=evI r.13 (pick-(128:Int)) a;
 let A3:=(0:Nat)=(0:Nat);
 let A4(a b c:Prop):=a∧b∧c;
 let A5(a b c d e:Prop):=A4 a b (A4 c d e);
 let A6(a:Tl):=a.snd.snd;
 let A7:=A1.snd.fst;
 let A8:=A1.fst;
 let A9:=(↑(2:Nat):Int);
 let Aa:=(↑(A0 A1.snd.snd):Int);
 let Ab(a b c d e f g h i:Prop):=A5 a b c d (A5 e f g h i);
 let Ac:=A2 (3:Nat);
 let Ad(a b:Tl):=a.snd.fst=b.snd.fst;
 let Ae(a b:Tl):=A0 a=A0 b;
 let Af(a b:Tl):=a.fst=b.fst;
 let Ah:=A1.snd.snd;
 let Ai:=IntKind.i64.wrap (pick-(128:Int));
 let Aj(a:Cch)(b c:Tl)(d:Prop):=Ab (r.5=r.5) (r.6=r.6) (r.7=r.7) (r.8=r.8) (r.9=r.9) (r.10=r.10) (r.11=r.11) (r.12=r.12) (Ab (Af a.fst A8) (Ad a.fst A8) A3 (Ae a.fst A8) (Af b A7) (Ad b A7) A3 (Ae b A7) (Ab (Af c
  Ah) (Ad c Ah) A3 (Ae c Ah) (r.1=r.1) (r.2=r.2) (A6 a.fst=A6 A8) (A6 b=A6 A7) d));
 let Ak(a:Nat)(b c:Prop):=(pick=pick∧A4 A3 (a=a) b)∧c;
 let Al:=List.length r.2=List.length r.2;
 let Am:=(0:Nat)+(Ai.tmod Aa).toNat;
 let An:=List.length r.1;
 (true=true→A5 ((0:Int)≤A9∧A9<(↑(3:Nat):Int)) (Aa≠(0:Int)) ((0:Int)≤Ai.tmod Aa∧Ai.tmod Aa<Aa) (Am<A0 Ah) (∃(x0':Nat),Ak (3:Nat) (Ab ((3:Int)=(3:Int)) ((↑x0':Int)=IntKind.i64.wrap (A9+(1 :
  Int))) A3 (An=An) A3 Al (r.3=r.3) (r.4=r.4) (Aj (A2 x0') (A2 x0').snd.fst (A2 x0').snd.snd (A6 (A2 x0').snd.snd=List.set (A6 Ah) Am (false,(0:Int),(0:Int),(0:Int),false,(0:Int))))) (A4 ((128:Int)≤pick∧x0'≤(3 :
  Nat)) ((3:Nat)-x0'<(3:Nat)-(2:Nat)) (∀(x1':Unit),True→True))))∧(true=false→∃(x2':Unit),Ak An (A5 A3 Al (r.3=r.3) (r.4=r.4) (Aj Ac Ac.snd.fst Ac.snd.snd (A6 Ac.snd.snd=A6 Ah))) True)):=by kernel_rfl
theorem yc2(r:Hn)(pick:Int):ywv r pick=(
 let A0:=evI r.13 (pick-(128:Int)) (3:Nat);
 let A1:=A0.snd.snd;
 let A2:=A0.fst;
 let A3:=(↑(3:Nat):Int);
 let A4(a:Tl):=List.length a.snd.snd;
 let A5:=A0.snd.fst;
 let A6:=(0:Nat)=(0:Nat);
 let A7(a b c d e:Prop):=a∧b∧c∧d∧e;
 let A8(a b:Int)(c:Tl)(d:Prop):=A7 (a=a) (b=b) A6 (A4 c=A4 c) d;
 (false=true→((0:Int)≤A3∧A3<A3)∧False)∧(false=false→∃(x0':Unit),(pick=pick∧A6∧List.length r.1=List.length r.1∧A7 A6 (List.length r.2=List.length r.2) (r.3=r.3) (r.4=r.4) (A7 (r.5=r.5) (r.6=r.6)
  (r.7=r.7) (r.8=r.8) (A7 (r.9=r.9) (r.10=r.10) (r.11=r.11) (r.12=r.12) (A8 A2.fst A2.snd.fst A2 (A8 A5.fst A5.snd.fst A5 (A7 (A1.fst=A1.fst) (A1.snd.fst=A1.snd.fst) A6 (A4 A1=A4 A1) (A7 (r.1=r.1) (r.2=r.2) (A2.snd.snd =
  A2.snd.snd) (A5.snd.snd=A5.snd.snd) (A1.snd.snd=A1.snd.snd))))))))∧True)):=by kernel_rfl
theorem ypd(r:Hn)(pick:Int)(k:Cch):vc_ca r pick k=(
 let A0(a:Cch):=a.snd.snd;
 let A1(a:Tl):=List.length a.snd.snd;
 let A2(a b c:Prop):=a∧b∧c;
 let A3:=(0:Nat)=(0:Nat);
 let A4(a:Cch):=a.snd.fst;
 let A5(a b c d e:Prop):=A2 a b (A2 c d e);
 let A6(a:Nat):=evI r.13 (pick-(128:Int)) a;
 let A7:=List.length r.2;
 let A8:=List.length r.1;
 let A9(a b c d e f g h i:Prop):=A5 a b c d (A5 e f g h i);
 let Aa(a:Cch):=(A0 a).fst;
 let Ab:=A6 (3:Nat);
 let Ac(a b:Tl):=a.snd.fst=b.snd.fst;
 let Ad(a b:Tl):=A1 a=A1 b;
 let Ae(a b:Tl):=a.snd.snd=b.snd.snd;
 let Af(a:Nat):=A6 a;
 let Ah(a b:Tl):=a.fst=b.fst;
 let Ai(a:Nat):=A4 (Af a);
 let Aj(a:Nat):=(Af a).fst;
 let Ak:=r.13.fst;
 let Al:=A4 r.13;
 let Am(a:Prop)(b c:Tl)(d:Cch)(e:Tl):=a→pick=pick∧A2 A3 (A8=A8) (A5 A3 (A7=A7) (r.3=r.3) (r.4=r.4) (A9 (r.5=r.5) (r.6=r.6) (r.7=r.7) (r.8=r.8) (r.9=r.9) (r.10=r.10) (r.11=r.11) (r.12=r.12) (A9 (Ah
  k.fst b) (Ac k.fst b) A3 (Ad k.fst b) (Ah (A4 k) c) (Ac (A4 k) c) A3 (Ad (A4 k) c) (A9 (Aa k=Aa d) (Ac (A0 k) e) A3 (Ad (A0 k) e) (r.1=r.1) (r.2=r.2) (Ae k.fst b) (Ae (A4 k) c) (Ae (A0 k) e)))));
 let An:=A0 r.13;
 let Ao(a:Bool):=decide (pick≥(128:Int))=a;
 (Ao true→∃(x0':Nat),A2 (pick=pick∧A2 A3 ((3:Nat)=(3:Nat)) (A9 ((3:Int)=(↑(3:Nat):Int)) ((↑x0':Int)=(0:Int)) A3 (A8=A8) A3 (A7=A7) (r.3=r.3) (r.4=r.4) (A9 (r.5=r.5) (r.6=r.6) (r.7=r.7) (r.8=r.8)
  (r.9=r.9) (r.10=r.10) (r.11=r.11) (r.12=r.12) (A9 (Ah (Aj x0') Ak) (Ac (Aj x0') Ak) A3 (Ad (Aj x0') Ak) (Ah (Ai x0') Al) (Ac (Ai x0') Al) A3 (Ad (Ai x0') Al) (A9 (Aa (Af x0')=Aa r.13) (Ac (A0 (Af x0')) An) A3 (Ad (A0 (Af x0')) An)
  (r.1=r.1) (r.2=r.2) (Ae (Aj x0') Ak) (Ae (Ai x0') Al) (Ae (A0 (Af x0')) An)))))) ((128:Int)≤pick∧x0'≤(3:Nat)) (∀(x1':Unit),Am True Ab.fst (A4 Ab) Ab (A0 Ab)))∧Am (Ao false) Ak Al r.13 An):=by kernel_rfl
theorem yp1(r:Hn):vc_pl r=(
 let A0:=r.13.snd.snd;
 let A1:=r.13.fst;
 let A2(a:Tl):=List.length a.snd.snd;
 let A3:=r.13.snd.fst;
 let A4:=(0:Nat)=(0:Nat);
 let A5(a b c d e:Prop):=a∧b∧c∧d∧e;
 let A6(a b:Int)(c:Tl)(d:Prop):=A5 (a=a) (b=b) A4 (A2 c=A2 c) d;
 A4∧List.length r.1=List.length r.1∧A5 A4 (List.length r.2=List.length r.2) (r.3=r.3) (r.4=r.4) (A5 (r.5=r.5) (r.6=r.6) (r.7=r.7) (r.8=r.8) (A5 (r.9=r.9) (r.10=r.10) (r.11=r.11) (r.12=r.12) (A6 A1.fst A1.snd.fst
  A1 (A6 A3.fst A3.snd.fst A3 (A5 (A0.fst=A0.fst) (A0.snd.fst=A0.snd.fst) A4 (A2 A0=A2 A0) (A5 (r.1=r.1) (r.2=r.2) (A1.snd.snd=A1.snd.snd) (A3.snd.snd=A3.snd.snd) (A0.snd.snd=A0.snd.snd)))))))):=by kernel_rfl
theorem yky(r:Hn)(pick:Int):ya31 r pick=(
 let A0(a:Tl):=List.length a.snd.snd;
 let A1:=r.13.snd.snd;
 let A2:=r.13.snd.fst;
 let A3:=r.13.fst;
 let A4:=(0:Nat)=(0:Nat);
 let A5(a b c d e:Prop):=a∧b∧c∧d∧e;
 let A6:=A0 A3;
 let A7:=A0 A1;
 let A8(a:Nat):=(1:Nat)≤a∧a≤(1000:Nat);
 let A9:=(List.length r.1,List.length r.2,A6,A0 A2,A7);
 (true=true→A9=A9∧A4∧List.length r.1=List.length r.1∧A5 A4 (List.length r.2=List.length r.2) (r.3=r.3) (r.4=r.4) (A5 (r.5=r.5) (r.6=r.6) (r.7=r.7) (r.8=r.8) (A5 (r.9=r.9) (r.10=r.10) (r.11=r.11) (r.12 =
  r.12) (A5 (A3.fst=A3.fst) (A3.snd.fst=A3.snd.fst) A4 (A6=A6) (A5 (A2.fst=A2.fst) (A2.snd.fst=A2.snd.fst) A4 (A0 A2=A0 A2) (A5 (A1.fst=A1.fst) (A1.snd.fst=A1.snd.fst) A4 (A7=A7) (A5 (r.1=r.1) (r.2=r.2) (A3.snd.snd =
  A3.snd.snd) (A2.snd.snd=A2.snd.snd) (A1.snd.snd=A1.snd.snd))))))))∧(true=false→(A9=A9∧(0:Int)≤pick∧A5 (pick≤(255:Int)) (A8 A6) (A8 (A0 A2)) ((1:Nat)≤A7) (A7≤(1000:Nat)))∧False)):=by kernel_rfl
theorem ykx(r:Hn)(pick:Int)(k:Cch):ya21 r pick k=(
 let A0(a:Tl):=List.length a.snd.snd;
 let A1(a:Cch):=a.snd.snd;
 let A2(a:Cch):=a.snd.fst;
 let A3(a b c d e:Prop):=a∧b∧c∧d∧e;
 let A4:=if pick≥(128:Int) then evI r.13 (pick-(128:Int)) (3:Nat) else r.13;
 let A5:=(0:Nat)=(0:Nat);
 let A6:=A0 (A1 r.13);
 let A7(a:Nat):=(1:Nat)≤a∧a≤(1000:Nat);
 let A8(a:Prop)(b c:Int)(d e f:Prop):=A3 a (b=c) d e f;
 let A9:=(List.length r.1,List.length r.2,A0 r.13.fst,A0 (A2 r.13),A6);
 (false=true→A9=A9∧False)∧(false=false→A8 (A9=A9∧(0:Int)≤pick∧A3 (pick≤(255:Int)) (A7 (A0 r.13.fst)) (A7 (A0 (A2 r.13))) ((1:Nat)≤A6) (A6≤(1000:Nat))) pick pick A5 (List.length r.1=List.length r.1) (A3
  A5 (List.length r.2=List.length r.2) (r.3=r.3) (r.4=r.4) (A3 (r.5=r.5) (r.6=r.6) (r.7=r.7) (r.8=r.8) (A8 (r.9=r.9) r.10 r.10 (r.11=r.11) (r.12=r.12) (A8 (k.fst.fst=A4.fst.fst) k.fst.snd.fst A4.fst.snd.fst A5 (A0 k.fst
  = A0 A4.fst) (A8 ((A2 k).fst=(A2 A4).fst) (A2 k).snd.fst (A2 A4).snd.fst A5 (A0 (A2 k)=A0 (A2 A4)) (A8 ((A1 k).fst=(A1 A4).fst) (A1 k).snd.fst (A1 A4).snd.fst A5 (A0 (A1 k)=A0 (A1 A4)) (A3 (r.1=r.1) (r.2=r.2) (k.fst.snd.snd =
  A4.fst.snd.snd) ((A2 k).snd.snd=(A2 A4).snd.snd) ((A1 k).snd.snd=(A1 A4).snd.snd)))))))))):=by kernel_rfl
set_option linter.unusedSimpArgs false
set_option linter.unusedVariables false
theorem ytl:DictOk Tryz.prog FIE0:=zaw .nil (.cons (by kernel_rfl) (fun k=>zel (yvg (yas1 k))) .nil) .nil
theorem zli(m:By)(c:Ct)(k:Cch)(kind va pick:Int):(trM m c k kind va pick).1=0∨(trM m c k kind va pick).1=1∨(trM m c k kind va pick).1=2:=by
 obtain⟨I,D,P⟩:=k
 obtain⟨e,pa,l,t1,t2,t3,h, -, -, -, -,g⟩:=znf m c I D P kind va pick
 rw[h]
 exact g
theorem tc_vc{r:Hn}{c0:Int}{c1 c2:Bool}{c3 kind va pick:Int}(h:yez r.m (c0,c1,c2,c3) r.k kind va pick):ylo r c0 c1 c2 c3 kind va pick (trM r.m (c0,c1,c2,c3) r.k kind va pick).1 (trM r.m (c0,c1,c2,c3) r.k kind va pick).2.1 (trM r.m (c0,c1,c2,c3) r.k kind va pick).2.2.1 (trM r.m (c0,c1,c2,c3) r.k kind va pick).2.2.2:=by
 refine zae (yd5 r c0 c1 c2 c3 kind va pick _ _ _ _) ?_
 conv=>zeta
 refine⟨?_,fun q => .inl ⟨?_,q.2.2.2⟩,fun q => .inr (.inl ⟨?_,q.2.2.2⟩),fun q => .inr (.inr ⟨?_,q.2.2.2⟩)⟩
 · exact (zli r.m (c0,c1,c2,c3) r.k kind va pick).imp (fun e=>⟨rfl,rfl,h,e⟩) (fun e=>e.imp (fun e=>⟨rfl,rfl,h,e⟩) (fun e=>⟨rfl,rfl,h,e⟩))
 all_goals repeat' apply And.intro
 all_goals rfl
theorem ywb(k:Nat):Sound Tryz.prog 269 (tcS k):=by
 refine zd8 mixed Tryz.func269 (by kernel_rfl) false ytl (fun args H p v H' h hp => ?_)
 unfold tcS at h
 split at h
 case h_2=>cases h
 rename_i pick c0 c1 c2 c3 kind va
 split at h
 case h_2=>cases h
 rename_i n r hg
 simp only[Option.some.injEq,Prod.mk.injEq] at h
 obtain⟨rfl,rfl,rfl⟩:=h
 obtain⟨hn,hT,hk⟩:=hp
 obtain⟨rfl, -, -⟩:=zex hg hn
 refine⟨.none,_,zdr (by kernel_rfl),tc_vc hT,fun o ho hout => ?_⟩
 simp only[List.mem_cons,List.not_mem_nil,or_false] at ho
 generalize trM r.m (c0,c1,c2,c3) r.k kind va pick=z at *
 match k,hk with
 | 0,hk =>
  have hk:z.1=0:=hk
  rcases ho with rfl|rfl|rfl
  · exact⟨rfl,rfl,rfl⟩
  · exact absurd (hk.symm.trans hout) (by decide)
  · exact absurd (hk.symm.trans hout) (by decide)
 | 1,hk =>
  have hk:z.1=1:=hk
  rcases ho with rfl|rfl|rfl
  · exact absurd (hk.symm.trans hout) (by decide)
  · exact⟨rfl,rfl,rfl⟩
  · exact absurd (hk.symm.trans hout) (by decide)
 | _+2,hk =>
  have hk:z.1=2:=hk
  rcases ho with rfl|rfl|rfl
  · exact absurd (hk.symm.trans hout) (by decide)
  · exact absurd (hk.symm.trans hout) (by decide)
  · exact⟨rfl,rfl,rfl⟩
theorem yu4:zar Tryz.prog kIE1 := .cons (by kernel_rfl) (zel zz8) yaf
theorem ytm:DictOk Tryz.prog FIE1:=zaw yu4 .nil .nil
theorem yf8(f:Fc)(t:Tl):(flT f t).2.2.length=t.2.2.length:=List.length_map ..
theorem ym8{r:Hn}{pick:Int}{f0:Bool}{f1:Int}{f2:Bool}{f3:Int}(h:FlC r.k (f0,f1,f2,f3)):∀i:Nat,i≤3→yjn r pick f0 f1 f2 f3 i
 | 0,_=>by
  refine zae (zvg r pick f0 f1 f2 f3) ?_
  conv=>zeta
  exact⟨fun _=>⟨⟨by decide,by decide⟩,⟨rfl,h.1⟩,1,(by
   repeat' apply And.intro
   all_goals first|rfl|exact yf8 _ _),by decide,by decide,fun _ _=>trivial⟩,fun q=>(by cases q)⟩
 | 1,_=>by
  refine zae (zvh r pick f0 f1 f2 f3) ?_
  conv=>zeta
  exact⟨fun _=>⟨⟨by decide,by decide⟩,⟨rfl,h.2.1⟩,2,(by
   repeat' apply And.intro
   all_goals first|rfl|exact yf8 _ _),by decide,by decide,fun _ _=>trivial⟩,fun q=>(by cases q)⟩
 | 2,_=>by
  refine zae (zvi r pick f0 f1 f2 f3) ?_
  conv=>zeta
  exact⟨fun _=>⟨⟨by decide,by decide⟩,⟨rfl,h.2.2⟩,3,(by
   repeat' apply And.intro
   all_goals first|rfl|exact yf8 _ _),by decide,by decide,fun _ _=>trivial⟩,fun q=>(by cases q)⟩
 | 3,_=>by
  refine zae (zvj r pick f0 f1 f2 f3) ?_
  conv=>zeta
  exact⟨fun q=>(by cases q),fun _=>⟨(),(by
   repeat' apply And.intro
   all_goals rfl),trivial⟩⟩
 | n+4,h=>absurd h (by omega)
theorem yao1:Sound Tryz.prog 268 tcFS:=by
 refine zds mixed Tryz.func268 (by kernel_rfl) (b:=zak Tryz.f268 0) (k:=3) (by kernel_rfl) (by kernel_rfl) (by kernel_rfl) ytm (fun args H p v H' h hp => ?_)
 unfold tcFS at h
 split at h
 case h_2=>cases h
 rename_i pick f0 f1 f2 f3
 split at h
 case h_2=>cases h
 rename_i n r hg
 simp only[Option.some.injEq,Prod.mk.injEq] at h
 obtain⟨rfl,rfl,rfl⟩:=h
 obtain⟨hn,hu,hF⟩:=hp
 obtain⟨rfl, -, -⟩:=zex hg hn
 refine⟨_,tcL r (f0,f1,f2,f3),fun i:Nat=>3-i,za1 _ _,fun  (i:Nat) hi=>ym8 (pick:=pick) hF i hi,zae (yd4 r pick f0 f1 f2 f3 _) ?_⟩
 conv=>zeta
 refine⟨hu,fun q=>⟨0, ?_,by decide,fun _ _ => ?_⟩,fun q => ?_⟩
 · repeat' apply And.intro
   all_goals rfl
 · unfold ym9
   rw[if_pos q]
   repeat' apply And.intro
   all_goals rfl
 · unfold ym9
   rw[if_neg (by rw[q];decide)]
   repeat' apply And.intro
   all_goals rfl
theorem yzt:Sound Tryz.prog 223 noS1:=by
 refine zbo mixed Tryz.func223 (by kernel_rfl) (by kernel_rfl) (zaw .nil .nil .nil) (fun args H p v H' h hp => ?_)
 unfold noS1 at h
 split at h
 case h_2=>cases h
 simp only[Option.some.injEq,Prod.mk.injEq] at h
 obtain⟨rfl,rfl,rfl⟩:=h
 exact⟨.none,zae (ykz ..) trivial⟩
theorem yzu:Sound Tryz.prog 224 noS2:=by
 refine zbo mixed Tryz.func224 (by kernel_rfl) (by kernel_rfl) (zaw .nil .nil .nil) (fun args H p v H' h hp => ?_)
 unfold noS2 at h
 split at h
 case h_2=>cases h
 simp only[Option.some.injEq,Prod.mk.injEq] at h
 obtain⟨rfl,rfl,rfl⟩:=h
 exact⟨.none,zae (yk0 ..) trivial⟩
theorem yu5:zar Tryz.prog kIE2 := .cons (by kernel_rfl) yzt (.cons (by kernel_rfl) yzu (.cons (by kernel_rfl) zsx .nil))
theorem yer:DictOk Tryz.prog FIE2:=zaw yu5 .nil .nil
theorem ybj1(bad:Bool):Sound Tryz.prog 262 (wkS bad):=by
 refine zd8 mixed Tryz.func262 (by kernel_rfl) false yer (fun args H p v H' h hp => ?_)
 unfold wkS at h
 split at h
 case h_2=>cases h
 rename_i c0 c1 c2 c3 kind va
 split at h
 case h_2=>cases h
 rename_i n r hg
 simp only[Option.some.injEq,Prod.mk.injEq] at h
 obtain⟨rfl,rfl,rfl⟩:=h
 obtain⟨hn,hT,hk⟩:=hp
 obtain⟨rfl, -, -⟩:=zex hg hn
 refine⟨.none,_,zdr (by kernel_rfl),zae (yef r c0 c1 c2 c3 kind va (zav r.m (c0,c1,c2,c3) kind va).1 (zav r.m (c0,c1,c2,c3) kind va).2) ⟨⟨rfl,hT⟩,fun q => .inr ⟨?_, ?_⟩,fun q => .inl ⟨?_, ?_⟩⟩,fun o ho hout => ?_⟩
 · repeat' apply And.intro
   all_goals rfl
 · simpa using q
 · repeat' apply And.intro
   all_goals rfl
 · simpa using q
 · simp only[List.mem_cons,List.not_mem_nil,or_false] at ho
   rcases ho with rfl|rfl
   · cases bad with
     | false=>exact⟨rfl,rfl,rfl⟩
     | true=>exact absurd hout hk
   · cases bad with
     | false=>exact absurd hk hout
     | true=>exact⟨rfl,rfl,rfl⟩
theorem ybi1:Sound Tryz.prog 261 wkFS:=by
 refine zbo mixed Tryz.func261 (by kernel_rfl) (by kernel_rfl) yer (fun args H p v H' h hp => ?_)
 unfold wkFS at h
 split at h
 case h_2=>cases h
 rename_i f0 f1 f2 f3
 split at h
 case h_2=>cases h
 rename_i n r hg
 simp only[Option.some.injEq,Prod.mk.injEq] at h
 obtain⟨rfl,rfl,rfl⟩:=h
 obtain⟨rfl, -, -⟩:=zex hg hp
 refine⟨.none,zae (yee r f0 f1 f2 f3) ?_⟩
 conv=>zeta
 repeat' apply And.intro
 all_goals rfl
theorem yf2(t:Tl)(k:Int):(evT t k).2.2.length=t.2.2.length:=List.length_set
theorem zz4{p:Int}{n:Nat}(h0:0≤p)(h1:p≤127)(hn:1≤n)(hn2:n≤1000):(n:Int)≠0∧(0≤(IntKind.i64.wrap p).tmod n∧(IntKind.i64.wrap p).tmod n<n)∧0+((IntKind.i64.wrap p).tmod n).toNat<n∧(IntKind.i64.wrap p).tmod n=p % n:=by
 rw[zac (by omega) (by omega),Int.tmod_eq_emod_of_nonneg h0]
 have a:=Int.emod_nonneg p (show (n:Int)≠0 by omega)
 have b:=Int.emod_lt_of_pos p (show (0:Int)<n by omega)
 refine⟨by omega,⟨a,b⟩,by omega,rfl⟩
theorem yui{p:Int}{t:Tl}(h0:0≤p)(h1:p≤127)(hn:1≤t.2.2.length)(hn2:t.2.2.length≤1000):(evT t p).2.2=t.2.2.set (0+((IntKind.i64.wrap p).tmod t.2.2.length).toNat) (false,0,0,0,false,0):=by
 rw[(zz4 h0 h1 hn hn2).2.2.2,Nat.zero_add]
 rfl
theorem ymw{r:Hn}{pick:Int}(h:CaR r pick)(hp:128≤pick):∀i:Nat,i≤3→yjm r pick i
 | 0,_=>by
  obtain⟨-,p1,⟨a1,a2⟩, -⟩:=h
  have hi:=zz4 (p:=pick-128) (by omega) (by omega) a1 a2
  refine zae (ycz r pick) ?_
  conv=>zeta
  exact⟨fun _=>⟨⟨by decide,by decide⟩,hi.1,hi.2.1,hi.2.2.1,1,(by
   repeat' apply And.intro
   all_goals first|rfl|exact yf2 _ _|exact yui (by omega) (by omega) a1 a2),⟨hp,by decide⟩,by decide,fun _ _=>trivial⟩,fun q=>(by cases q)⟩
 | 1,_=>by
  obtain⟨-,p1, -,⟨a1,a2⟩, -⟩:=h
  have hi:=zz4 (p:=pick-128) (by omega) (by omega) a1 a2
  refine zae (yc0 r pick) ?_
  conv=>zeta
  exact⟨fun _=>⟨⟨by decide,by decide⟩,hi.1,hi.2.1,hi.2.2.1,2,(by
   repeat' apply And.intro
   all_goals first|rfl|exact yf2 _ _|exact yui (by omega) (by omega) a1 a2),⟨hp,by decide⟩,by decide,fun _ _=>trivial⟩,fun q=>(by cases q)⟩
 | 2,_=>by
  obtain⟨-,p1, -, -,a1,a2⟩:=h
  have hi:=zz4 (p:=pick-128) (by omega) (by omega) a1 a2
  refine zae (yc1 r pick) ?_
  conv=>zeta
  exact⟨fun _=>⟨⟨by decide,by decide⟩,hi.1,hi.2.1,hi.2.2.1,3,(by
   repeat' apply And.intro
   all_goals first|rfl|exact yf2 _ _|exact yui (by omega) (by omega) a1 a2),⟨hp,by decide⟩,by decide,fun _ _=>trivial⟩,fun q=>(by cases q)⟩
 | 3,_=>by
  refine zae (yc2 r pick) ?_
  conv=>zeta
  exact⟨fun q=>(by cases q),fun _=>⟨(),(by
   repeat' apply And.intro
   all_goals rfl),trivial⟩⟩
 | n+4,h=>absurd h (by omega)
theorem ca_ok:Sound Tryz.prog 179 caS:=by
 refine zds mixed Tryz.func179 (by kernel_rfl) (b:=zak Tryz.f179 0) (k:=3) (by kernel_rfl) (by kernel_rfl) (by kernel_rfl) (zaw .nil .nil .nil) (fun args H p v H' h hp => ?_)
 unfold caS at h
 split at h
 case h_2=>cases h
 rename_i pick
 split at h
 case h_2=>cases h
 rename_i n r hg
 simp only[Option.some.injEq,Prod.mk.injEq] at h
 obtain⟨rfl,rfl,rfl⟩:=h
 obtain⟨hn,hC⟩:=hp
 obtain⟨rfl, -, -⟩:=zex hg hn
 refine⟨_,caL r pick,fun i:Nat=>3-i,za1 _ _,fun  (i:Nat) hi=>ymw hC hi.1 i hi.2,zae (ypd r pick _) ?_⟩
 conv=>zeta
 refine⟨fun q=>⟨0, ?_,⟨of_decide_eq_true q,by decide⟩,fun _ _ => ?_⟩,fun q => ?_⟩
 · repeat' apply And.intro
   all_goals rfl
 · have q:pick≥128:=of_decide_eq_true q
   unfold evK
   rw[if_pos q]
   repeat' apply And.intro
   all_goals rfl
 · have q:¬ pick≥128:=of_decide_eq_false q
   unfold evK
   rw[if_neg q]
   repeat' apply And.intro
   all_goals rfl
theorem pl_ok:Sound Tryz.prog 178 plS:=by
 refine zbo mixed Tryz.func178 (by kernel_rfl) (by kernel_rfl) (zaw .nil .nil .nil) (fun args H p v H' h hp => ?_)
 unfold plS at h
 split at h
 case h_2=>cases h
 split at h
 case h_2=>cases h
 rename_i n r hg
 simp only[Option.some.injEq,Prod.mk.injEq] at h
 obtain⟨rfl,rfl,rfl⟩:=h
 obtain⟨rfl, -, -⟩:=zex hg hp
 refine⟨.none,zae (yp1 r) ?_⟩
 conv=>zeta
 repeat' apply And.intro
 all_goals rfl
theorem yu6:zar Tryz.prog kIE3 := .cons (by kernel_rfl) ca_ok (.cons (by kernel_rfl) pl_ok .nil)
theorem ytn:DictOk Tryz.prog FIE3:=zaw yu6 .nil .nil
theorem mk_ok(pl:Bool):Sound Tryz.prog 76 (mkS pl):=by
 refine zbo mixed Tryz.func76 (by kernel_rfl) (by kernel_rfl) ytn (fun args H p v H' h hp => ?_)
 unfold mkS at h
 split at h
 case h_2=>cases h
 rename_i b pick
 split at h
 case h_2=>cases h
 rename_i n r hg
 simp only[Option.some.injEq,Prod.mk.injEq] at h
 obtain⟨rfl,rfl,rfl⟩:=h
 obtain⟨hn,rfl,hC⟩:=hp
 obtain⟨rfl, -, -⟩:=zex hg hn
 cases b with
 | true =>
  refine⟨.none,zae (yky r pick) ?_⟩
  conv=>zeta
  refine⟨fun _ => ?_,fun q=>(by cases q)⟩
  repeat' apply And.intro
  all_goals rfl
 | false =>
  refine⟨.none,zae (ykx r pick _) ?_⟩
  conv=>zeta
  refine⟨fun q=>(by cases q),fun _=>⟨⟨rfl,hC⟩, ?_⟩⟩
  repeat' apply And.intro
  all_goals rfl
end Go.Proofs.YtfiddfbagbaofaaGreat.V
