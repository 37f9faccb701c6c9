/- The program's step: the translator by caches, the walking one, and who makes them. Conditions: those in each statement. -/
import Derived.Test.YtfiddfbagbaofaaGreatID
import Derived.KernelRfl
namespace Go.Proofs.YtfiddfbagbaofaaGreat.V
open Go
set_option linter.unusedVariables false
def FIE0:Dict:=mkD [] [(132,(3,fun k=>zn9 9 (lowS [4] (trS k))))] []
def tcA(pick:Int):Av := .agg [.ptr 0 0,.v (.int .i64 pick)]
def Hn.setK(r:Hn)(k:Cch):Hn:={ r with k:=k }
def ylm(r:Hn)(c0:Int)(c1 c2:Bool)(c3 kind va pick:Int)(e:Nat)(pa l:Int)(k:Cch):Prop:=zku Tryz.prog FIE0 .none Tryz.f269 [tcA pick,.agg [.v (.int .i64 c0),.v (.bool c1),.v (.bool c2),.v (.int .u64 c3)],.v (.int .i64 kind),.v (.int .u64 va)] (h6 r 0)
 [⟨false,.tup [.v (.int .u64 pa),ymv 0 l],h6 (r.setK k) 0,e=0⟩,⟨false,.tup [.v (.int .u64 pa),ymv 1 l],h6 (r.setK k) 0,e=1⟩,⟨false,.tup [.v (.int .u64 pa),ymv 2 l],h6 (r.setK k) 0,e=2⟩]
def tcS(k:Nat):Sum:=fun args H=>match args with
 | [.agg [.ptr 0 0,.v (.int .i64 pick)],.agg [.v (.int .i64 c0),.v (.bool c1),.v (.bool c2),.v (.int .u64 c3)],.v (.int .i64 kind),.v (.int .u64 va)]=>match get6 0 H with
  | some (n,r)=>some (some (n=r.ln∧yeu r.m (c0,c1,c2,c3) r.k kind va pick∧ybt k (trM r.m (c0,c1,c2,c3) r.k kind va pick)),.tup [.v (.int .u64 (trM r.m (c0,c1,c2,c3) r.k kind va pick).2.1),ymv k (trM r.m (c0,c1,c2,c3) r.k kind va pick).2.2.1],h6 (r.setK (trM r.m (c0,c1,c2,c3) r.k kind va pick).2.2.2) 0)
  | none=>none
 | _=>none
def flT(f:Fc)(t:Tl):Tl:=(t.1,t.2.1,t.2.2.map (zok f))
def flI(f:Fc)(k:Cch):Nat→Cch
 | 0=>k
 | 1=>(flT f k.1,k.2.1,k.2.2)
 | 2=>(flT f k.1,flT f k.2.1,k.2.2)
 | _=>(flT f k.1,flT f k.2.1,flT f k.2.2)
def kIE1:Known:=(101,zn9 3 zz9)::kJ1
def FIE1:Dict:=mkD kIE1 [] []
def FlC(k:Cch)(f:Fc):Prop:=FlR k.1.2.2 f∧FlR k.2.1.2.2 f∧FlR k.2.2.2.2 f
def tcL(r:Hn)(f:Fc):LoopS where
 α:=Nat
 I i:=i≤3
 sl i:=slots 34 [(3,.ptr 7 0),(23,.sl 8 1 0 3),(24,.v (.int .i64 3)),(25,.v (.int .i64 (i:Int)))]
 H i:=h6 (r.setK (flI f r.k i)) 0++[.dead,.fix (fcA f) true (some 58),.fix [.ptr 0 12,.ptr 0 15,.ptr 0 18] true none]
 fams:=[{ β:=Unit,out:=fun _ _=>True,ex := .ext 0,sl:=fun _=>slots 34 [],H:=fun _=>h6 (r.setK (flI f r.k 3)) 0 }]
abbrev yju(r:Hn)(pick:Int)(f0:Bool)(f1:Int)(f2:Bool)(f3:Int)(i:Nat):Prop:=zam Tryz.prog FIE1 (.one 3 (tcL r (f0,f1,f2,f3))) 6 (zag Tryz.f268 0) (tcL r (f0,f1,f2,f3)) (fun i:Nat=>3-i) i
def yli(r:Hn)(pick:Int)(f0:Bool)(f1:Int)(f2:Bool)(f3:Int):Prop:=yju r pick f0 f1 f2 f3 0
def ylj(r:Hn)(pick:Int)(f0:Bool)(f1:Int)(f2:Bool)(f3:Int):Prop:=yju r pick f0 f1 f2 f3 1
def ylk(r:Hn)(pick:Int)(f0:Bool)(f1:Int)(f2:Bool)(f3:Int):Prop:=yju r pick f0 f1 f2 f3 2
def yll(r:Hn)(pick:Int)(f0:Bool)(f1:Int)(f2:Bool)(f3:Int):Prop:=yju r pick f0 f1 f2 f3 3
def ymz(f:Fc)(k:Cch):Cch:=if zje f=true then flI f k 3 else k
def ywt(r:Hn)(pick:Int)(f0:Bool)(f1:Int)(f2:Bool)(f3:Int)(k:Cch):Prop:=zi1 Tryz.prog FIE1 (.one 3 (tcL r (f0,f1,f2,f3))) Tryz.f268 [tcA pick,.agg [.v (.bool f0),.v (.int .u64 f1),.v (.bool f2),.v (.int .u64 f3)]] (h6 r 0) (.tup []) (h6 (r.setK k) 0)
def tcFS:Sum:=fun args H=>match args with
 | [.agg [.ptr 0 0,.v (.int .i64 pick)],.agg [.v (.bool f0),.v (.int .u64 f1),.v (.bool f2),.v (.int .u64 f3)]]=>match get6 0 H with
  | some (n,r)=>some (some (n=r.ln∧U64 f1∧FlC r.k (f0,f1,f2,f3)),.tup [],h6 (r.setK (ymz (f0,f1,f2,f3) r.k)) 0)
  | none=>none
 | _=>none
def noS1:Sum:=fun args H=>match args,H with
 | [.agg [.v (.int .i64 _),.v (.bool _),.v (.bool _),.v (.int .u64 _)],.v (.int .i64 _),.v (.int .u64 _)],[]=>some (none,.tup [],[])
 | _,_=>none
def noS2:Sum:=fun args H=>match args,H with
 | [.agg [.v (.bool _),.v (.int .u64 _),.v (.bool _),.v (.int .u64 _)]],[]=>some (none,.tup [],[])
 | _,_=>none
def yap1(c0:Int)(c1 c2:Bool)(c3 kind va:Int):Prop:=zi1 Tryz.prog (mkD [] [] []) .none Tryz.f223 [.agg [.v (.int .i64 c0),.v (.bool c1),.v (.bool c2),.v (.int .u64 c3)],.v (.int .i64 kind),.v (.int .u64 va)] [] (.tup []) []
def yaq1(f0:Bool)(f1:Int)(f2:Bool)(f3:Int):Prop:=zi1 Tryz.prog (mkD [] [] []) .none Tryz.f224 [.agg [.v (.bool f0),.v (.int .u64 f1),.v (.bool f2),.v (.int .u64 f3)]] [] (.tup []) []
def kIE2:Known:=[(223,noS1),(224,noS2),(46,zai [byP,zg4,i64,u64] [trP] (fun t=>some (zaj t.1∧U64 t.2.1.2.2.2∧U64 t.2.2.2)) (fun t=>zaw t.1 t.2.1 t.2.2.1 t.2.2.2))]
def FIE2:Dict:=mkD kIE2 [] []
def yl5:Av := .agg [.ptr 0 0,.fn 223 [],.fn 224 []]
def yww(r:Hn)(c0:Int)(c1 c2:Bool)(c3 kind va e pa:Int):Prop:=zku Tryz.prog FIE2 .none Tryz.f262 [yl5,.agg [.v (.int .i64 c0),.v (.bool c1),.v (.bool c2),.v (.int .u64 c3)],.v (.int .i64 kind),.v (.int .u64 va)] (h6 r 0)
 [⟨false,.tup [.v (.int .u64 pa),.v .nilIface],h6 r 0,e=0⟩,⟨false,.tup [.v (.int .u64 0),.ifc 311 (.v (.int .i64 e))],h6 r 0,¬ e=0⟩]
def wkS(bad:Bool):Sum:=fun args H=>match args with
 | [.agg [.ptr 0 0,.fn 223 [],.fn 224 []],.agg [.v (.int .i64 c0),.v (.bool c1),.v (.bool c2),.v (.int .u64 c3)],.v (.int .i64 kind),.v (.int .u64 va)]=>match get6 0 H with
  | some (n,r)=>some (some (n=r.ln∧(zaj r.m∧U64 c3∧U64 va)∧(match bad with|false=>(zaw r.m (c0,c1,c2,c3) kind va).1=0|true=>¬ (zaw r.m (c0,c1,c2,c3) kind va).1=0)),
   (match bad with|false => .tup [.v (.int .u64 (zaw r.m (c0,c1,c2,c3) kind va).2),.v .nilIface]|true => .tup [.v (.int .u64 0),.ifc 311 (.v (.int .i64 (zaw r.m (c0,c1,c2,c3) kind va).1))]),h6 r 0)
  | none=>none
 | _=>none
def ywv(r:Hn)(f0:Bool)(f1:Int)(f2:Bool)(f3:Int):Prop:=zi1 Tryz.prog FIE2 .none Tryz.f261 [yl5,.agg [.v (.bool f0),.v (.int .u64 f1),.v (.bool f2),.v (.int .u64 f3)]] (h6 r 0) (.tup []) (h6 r 0)
def wkFS:Sum:=fun args H=>match args with
 | [.agg [.ptr 0 0,.fn 223 [],.fn 224 []],.agg [.v (.bool f0),.v (.int .u64 f1),.v (.bool f2),.v (.int .u64 f3)]]=>match get6 0 H with
  | some (n,r)=>some (some (n=r.ln),.tup [],h6 r 0)
  | none=>none
 | _=>none
def evT(t:Tl)(k:Int):Tl:=(t.1,t.2.1,t.2.2.set (k % t.2.2.length).toNat zE)
def evI(k:Cch)(p:Int):Nat→Cch
 | 0=>k
 | 1=>(evT k.1 p,k.2.1,k.2.2)
 | 2=>(evT k.1 p,evT k.2.1 p,k.2.2)
 | _=>(evT k.1 p,evT k.2.1 p,evT k.2.2 p)
def caL(r:Hn)(pick:Int):LoopS where
 α:=Nat
 I i:=128≤pick∧i≤3
 sl i:=slots 46 [(0,.ptr 0 0),(1,.v (.int .i64 pick)),(21,.sl 6 1 0 3),(22,.v (.int .i64 3)),(23,.v (.int .i64 (i:Int)))]
 H i:=h6 (r.setK (evI r.k (pick-128) i)) 0++[.fix [.ptr 0 12,.ptr 0 15,.ptr 0 18] true none]
 fams:=[{ β:=Unit,out:=fun _ _=>True,ex := .ext 0,sl:=fun _=>slots 46 [(0,.ptr 0 0),(1,.v (.int .i64 pick))],H:=fun _=>h6 (r.setK (evI r.k (pick-128) 3)) 0 }]
abbrev yjt(r:Hn)(pick:Int)(i:Nat):Prop:=zam Tryz.prog (mkD [] [] []) (.one 3 (caL r pick)) 6 (zag Tryz.f179 0) (caL r pick) (fun i:Nat=>3-i) i
def yv4(r:Hn)(pick:Int):Prop:=yjt r pick 0
def yv5(r:Hn)(pick:Int):Prop:=yjt r pick 1
def yv6(r:Hn)(pick:Int):Prop:=yjt r pick 2
def yv7(r:Hn)(pick:Int):Prop:=yjt r pick 3
def evK(k:Cch)(pick:Int):Cch:=if pick≥128 then evI k (pick-128) 3 else k
def vc_ca(r:Hn)(pick:Int)(k:Cch):Prop:=zi1 Tryz.prog (mkD [] [] []) (.one 3 (caL r pick)) Tryz.f179 [.ptr 0 0,.v (.int .i64 pick)] (h6 r 0) (.ifc 287 (tcA pick)) (h6 (r.setK k) 0)
def CaR(r:Hn)(pick:Int):Prop:=0≤pick∧pick≤255∧(1≤r.k.1.2.2.length∧r.k.1.2.2.length≤1000)∧(1≤r.k.2.1.2.2.length∧r.k.2.1.2.2.length≤1000)∧(1≤r.k.2.2.2.2.length∧r.k.2.2.2.2.length≤1000)
def caS:Sum:=fun args H=>match args with
 | [.ptr 0 0,.v (.int .i64 pick)]=>match get6 0 H with
  | some (n,r)=>some (some (n=r.ln∧CaR r pick),.ifc 287 (tcA pick),h6 (r.setK (evK r.k pick)) 0)
  | none=>none
 | _=>none
def vc_pl(r:Hn):Prop:=zi1 Tryz.prog (mkD [] [] []) .none Tryz.f178 [.ptr 0 0] (h6 r 0) (.ifc 125 yl5) (h6 r 0)
def plS:Sum:=fun args H=>match args with
 | [.ptr 0 0]=>match get6 0 H with
  | some (n,r)=>some (some (n=r.ln),.ifc 125 yl5,h6 r 0)
  | none=>none
 | _=>none
def kIE3:Known:=[(179,caS),(178,plS)]
def FIE3:Dict:=mkD kIE3 [] []
def yao1(r:Hn)(pick:Int):Prop:=zi1 Tryz.prog FIE3 .none Tryz.f76 [.ptr 0 0,.v (.bool true),.v (.int .i64 pick)] (h6 r 0) (.ifc 125 yl5) (h6 r 0)
def yan1(r:Hn)(pick:Int)(k:Cch):Prop:=zi1 Tryz.prog FIE3 .none Tryz.f76 [.ptr 0 0,.v (.bool false),.v (.int .i64 pick)] (h6 r 0) (.ifc 287 (tcA pick)) (h6 (r.setK k) 0)
def mkS(pl:Bool):Sum:=fun args H=>match args with
 | [.ptr 0 0,.v (.bool b),.v (.int .i64 pick)]=>match get6 0 H with
  | some (n,r)=>some (some (n=r.ln∧b=pl∧CaR r pick),(match pl with|true => .ifc 125 yl5|false => .ifc 287 (tcA pick)),(match pl with|true=>h6 r 0|false=>h6 (r.setK (evK r.k pick)) 0))
  | none=>none
 | _=>none
set_option linter.unusedVariables false
set_option maxRecDepth 10000
theorem ykz(c0:Int)(c1 c2:Bool)(c3 kind va:Int):yap1 c0 c1 c2 c3 kind va=(
 True):=by kernel_rfl
theorem yk0(f0:Bool)(f1:Int)(f2:Bool)(f3:Int):yaq1 f0 f1 f2 f3=(
 True):=by kernel_rfl
theorem yd7(r:Hn)(c0:Int)(c1 c2:Bool)(c3 kind va e pa:Int):yww r c0 c1 c2 c3 kind va e pa=(
 (List.length r.1=List.length r.1∧zaj r.1∧U64 c3∧U64 va)∧(((zaw r.1 (c0,c1,c2,c3) kind va).1 != 0)=true→False∧e=0∨((0:Int)=0∧e=(zaw r.1 (c0,c1,c2,c3) kind va).1∧(0 :
 Nat)=0∧List.length r.1=List.length r.1∧(0:Nat)=0∧List.length r.2=List.length r.2∧r.3=r.3∧r.4=r.4∧r.5=r.5∧r.6=r.6∧r.7=r.7∧r.8=r.8∧r.9=r.9∧r.10=r.10∧r.11=r.11∧r.12=r.12 ∧
 r.13.1.1=r.13.1.1∧r.13.1.2.1=r.13.1.2.1∧(0:Nat)=0∧List.length r.13.1.2.2=List.length r.13.1.2.2∧r.13.2.1.1=r.13.2.1.1∧r.13.2.1.2.1=r.13.2.1.2.1∧(0
 : Nat)=0∧List.length r.13.2.1.2.2=List.length r.13.2.1.2.2∧r.13.2.2.1=r.13.2.2.1∧r.13.2.2.2.1=r.13.2.2.2.1∧(0:Nat)=0∧List.length r.13.2.2.2.2 =
 List.length r.13.2.2.2.2∧r.1=r.1∧r.2=r.2∧r.13.1.2.2=r.13.1.2.2∧r.13.2.1.2.2=r.13.2.1.2.2∧r.13.2.2.2.2=r.13.2.2.2.2)∧¬e=0)∧(((zaw r.1 (c0,c1,c2,c3)
 kind va).1 != 0)=false→(pa=(zaw r.1 (c0,c1,c2,c3) kind va).2∧Value.nilIface=Value.nilIface∧(0:Nat)=0∧List.length r.1=List.length r.1∧(0:Nat)=0∧List.length r.2=List.length r.2 ∧
 r.3=r.3∧r.4=r.4∧r.5=r.5∧r.6=r.6∧r.7=r.7∧r.8=r.8∧r.9=r.9∧r.10=r.10∧r.11=r.11∧r.12=r.12∧r.13.1.1=r.13.1.1∧r.13.1.2.1=r.13.1.2.1∧(0:Nat)=0∧List.length
 r.13.1.2.2=List.length r.13.1.2.2∧r.13.2.1.1=r.13.2.1.1∧r.13.2.1.2.1=r.13.2.1.2.1∧(0:Nat)=0∧List.length r.13.2.1.2.2=List.length r.13.2.1.2.2 ∧
 r.13.2.2.1=r.13.2.2.1∧r.13.2.2.2.1=r.13.2.2.2.1∧(0:Nat)=0∧List.length r.13.2.2.2.2=List.length r.13.2.2.2.2∧r.1=r.1∧r.2=r.2∧r.13.1.2.2=r.13.1.2.2 ∧
 r.13.2.1.2.2=r.13.2.1.2.2∧r.13.2.2.2.2=r.13.2.2.2.2)∧e=0∨False∧¬e=0)):=by kernel_rfl
set_option maxHeartbeats 20000000 in
theorem zfj :
 let A0(a:Tl):=List.length a.2.2;
 let A1(a:Cch):=a.2.2;
 let A2(a:Nat):=a=0;
 let A3(a:Cch):=a.2.1;
 let A4:=A2 0;
 let A5(a:Hn)(b:Int)(c:Nat):=evI a.13 (b-128) c;
 let A6(a b c:Prop):=a∧b∧c;
 let A7(a b c d e:Prop):=A6 a b (A6 c d e);
 let A8(a:Hn):=List.length a.1;
 let A9(a:Hn)(b:Int):=A5 a b 3;
 let Aa(a:Bool)(b:Int)(c:Bool)(d:Int)(e:Hn)(f:Nat):=flI (a,b,c,d) e.13 f;
 let Ab(a:Hn):=List.length a.2;
 let Ac(a:Bool)(b:Int)(c:Bool)(d:Int)(e:Hn):=Aa a b c d e 3;
 let Ad(a b c d e f g h i:Prop):=A7 a b c d (A7 e f g h i);
 let Ae(a:Cch):=A0 (A3 a);
 let Af(a:Cch):=A0 (A1 a);
 let Ah(a:Cch):=(A3 a).2.2;
 let Ai(a:Cch):=a.1.1;
 let Aj(a:Cch):=A0 a.1;
 let Ak(a b:Tl):=a.2.1=b.2.1;
 let Al(a:Cch):=(A1 a).2.2;
 let Am(a:Cch):=(A3 a).1;
 let An(a:Cch):=a.1.2.2;
 let Ao(a:Cch):=(A1 a).1;
 let Ap(a:Hn)(b:Int):=A5 a b 2;
 let Aq(a:Bool)(b:Int)(c:Bool)(d:Int)(e:Hn):=Aa a b c d e 1;
 let Ar(a:By)(b:Int × Bool × Bool × Int)(c:Cch)(d e f:Int):=(trM a b c d e f).2;
 let Au(a:Hn)(b:Int):=A5 a b 1;
 let Aw(a:Bool)(b:Int)(c:Bool)(d:Int)(e:Hn):=Aa a b c d e 2;
 let Ax(a:Hn)(b:Int):=A5 a b 0;
 let Ay(a:Int)(b c:Bool)(d:Int):=(a,b,c,d);
 let Az(a:Bool)(b:Int)(c:Bool)(d:Int)(e:Hn):=Aa a b c d e 0;
 let AB:=(↑(3:Nat):Int);
 let AC(a b:Cch)(c:Hn)(d e f:Prop):=Ad (Ai a=Ai b) (Ak a.1 b.1) A4 (Aj a=Aj b) (Am a=Am b) (Ak (A3 a) (A3 b)) A4 (Ae a=Ae b) (Ad (Ao a=Ao b) (Ak (A1 a) (A1 b)) A4 (Af a=Af b) (c.1=c.1) (c.2=c.2) d e f);
 let AD(a b c d:Prop)(e:Hn)(f g:Cch):=Ad a b c d (e.9=e.9) (e.10=e.10) (e.11=e.11) (e.12=e.12) (AC f g e (An f=An g) (Ah f=Ah g) (Al f=Al g));
 let AE(a b c d e f g:Prop):=A6 a b (A7 c d e f g);
 let AF(a:Hn):=Ab a=Ab a;
 let AG(a:Hn)(b:Int)(c d:Bool)(e f g h:Int):=(Ar a.1 (Ay b c d e) a.13 f g h).2.2;
 let AH(a:Hn):=Aj a.13;
 let AI(a:Hn):=A8 a=A8 a;
 let AJ(a:Hn):=Af a.13;
 let AK(a:Nat):=(3:Nat)-a;
 let AL:=(↑(2:Nat):Int);
 let AM:=(↑(1:Nat):Int);
 let AN(a:Hn):=(AH a,Ae a.13,AJ a);
 let AO:=(↑(0:Nat):Int);
 let AP(a b c d:Prop):=a∧A6 b c d;
 let AQ(a:Int)(b:Nat):=(IntKind.i64.wrap (a-128)).tmod (↑b:Int);
 let AR(a:Nat)(b:Int):=(↑a:Int)=b;
 let AS(a:Nat):=a≤3;
 let AT:=(3:Nat)=3;
 let AU(a:Nat):=a≤1000;
 let AV(a b c d:Prop)(e:Hn)(f:Cch):=AD a b c d e f e.13;
 let AW(a:Int)(b:Hn):=if a≥128 then A9 b a else b.13;
 let AX(a:Hn):=a.8=a.8;
 let AY(a:Hn):=a.6=a.6;
 let AZ(a b:Cch)(c:Hn)(d:Cch):=AC a b c (An a=An b) (Ah a=Ah b) (Al a=Al d);
 let B0(a:Hn):=a.5=a.5;
 let B1(a b:Int)(c:Prop)(d:Hn)(e:Prop):=Ad (a=b) c A4 (A8 d=A8 d) A4 (AF d) (d.3=d.3) (d.4=d.4) (Ad (B0 d) (AY d) (d.7=d.7) (AX d) (d.9=d.9) (d.10=d.10) (d.11=d.11) (d.12=d.12) e);
 let B2(a:Nat):=(1:Nat)≤a;
 let B3(a b:Int):=(0:Int)≤a∧a<b;
 let B4(a:Bool)(b c:Prop):=(a=true→b)∧(a=false→c);
 let B5(a:Hn)(b:Int):=Ae (Au a b);
 let B6(a:Hn):=a.7=a.7;
 let B7(a:Hn)(b c d e f g h i:Prop)(j k:Cch)(l:Prop)(m:Nat)(n o p q r s t u v:Prop):=Ad A4 (AF a) b c (B0 a) (AY a) d (AX a) (Ad e f g h i (Ak j.1 k.1) A4 l (Ad (Am j=Am k) (Ak (A3 j) (A3 k)) A4 (Ae j=Ae k)
  (Ao j=Ao k) (Ak (A1 j) (A1 k)) A4 (Af j=m) (Ad n o p q r s t u v)));
 let B8(a:Hn)(b:Prop):=AE A4 (AI a) A4 (AF a) (a.3=a.3) (a.4=a.4) b;
 let B9(a:Hn)(b c d e f g h i:Prop)(j k:Cch)(l m n o p q r s t u:Prop):=B7 a b c d e f g h i j k l (Af k) m n o p q r s t u;
 let Ba(a:Hn):=(A8 a,Ab a,AN a);
 let Bb(a b:Cch)(c:Hn)(d:Int)(e f:Bool)(g h i j:Int):=AZ a b c (AG c d e f g h i j);
 let Bc(a:Int):=IntKind.i64.wrap (a+1);
 let Bd(a:Int)(b:Nat):=(0:Nat)+(AQ a b).toNat;
 let Be(a:Int):=B3 a AB;
 let Bf(a b:Prop):=B4 true a b;
 let Bg(a:By)(b:Int)(c d:Bool)(e:Int)(f:Cch)(g h i:Int):=(trM a (Ay b c d e) f g h i).1;
 let Bh(a:Hn)(b:Int)(c d:Bool)(e f g h:Int)(i:Prop):=AP (AI a) (AN a=AN a) (yeu a.1 (Ay b c d e) a.13 f g h) i;
 let Bi(a:Int)(b:Nat)(c:Int)(d:Hn)(e:Prop)(f:Nat):=AP (AP (a=a) A4 AT (B1 3 3 (AR b (Bc c)) d e)) ((128:Int)≤a∧AS b) (AK b<f) (∀(x1:Unit),True→True);
 let Bj(a b c d:Prop)(e:Hn):=AV a b c d e e.13;
 let Bk(a:Bool)(b:Int)(c:Bool)(d:Int):=(a,b,c,d);
 let Bl(a:Nat):=False∧a=1;
 let Bm(a:Int)(b:Hn)(c:Prop):=a=a∧B8 b c;
 let Bn(a:Int)(b:Nat)(c:Int)(d e:Prop):=Bf (A7 (Be a) ((↑b:Int)≠0) (B3 (AQ c b) (↑b:Int)) (Bd c b<b) d) e;
 let Bo(a:Hn):=a.12=a.12;
 let Bp:=((0:Int),0,0,false,0);
 let Bq(a b c:Prop)(d:Nat):=a→b∨c∨False∧d=2;
 let Br(a:Int)(b:Hn)(c:Prop):=Bm a b c∧True;
 let Bs(a:Hn)(b:Int):=AE (Ba a=Ba a) ((0:Int)≤b) (b≤255) (B2 (AH a)∧AU (AH a)) (B2 (Ae a.13)∧AU (Ae a.13)) (B2 (AJ a)) (AU (AJ a));
 let Bt(a b:Es)(c:Int)(d:Nat):=a=List.set b (Bd c d) (false,Bp);
 let Bu(a:Bool)(b:Int)(c:Bool)(d:Int)(e:Hn)(f:Nat)(g:Cch):=Ai (Aa a b c d e f)=Ai g;
 let Bv(a:Hn)(b:Prop):=B8 a b∧True;
 let Bw(a:Hn):=a.11=a.11;
 let Bx(a:Hn):=a.10=a.10;
 let Bz(a:Prop):=B4 false (Be AB∧False) a;
 let BA(a:Hn):=a.9=a.9;
 let BB(a:Prop)(b c:Nat):=AP a (AS b) (AK b<c) (∀(x1:Unit),True→True);
 let BC(a:Hn):=a.4=a.4;
 let BD(a:Bool)(b:Int)(c:Bool)(d:Int)(e:Hn)(f:Nat)(g:Cch):=Al (Aa a b c d e f)=Al g;
 let BE(a:Bool)(b:Int)(c:Bool)(d:Int)(e:Hn)(f:Nat)(g:Cch):=Ah (Aa a b c d e f)=Ah g;
 let BF(a:Bool)(b:Int)(c:Bool)(d:Int)(e:Hn)(f:Nat)(g:Cch):=An (Aa a b c d e f)=An g;
 let BG(a:Hn):=a.3=a.3;
 let BH(a b:Prop)(c:Hn)(d:Prop):=AE A4 AT a b A4 (AI c) d;
 let BI(a:Nat)(b:Int)(c:Hn)(d:Prop):=BH ((3:Int)=3) (AR a (Bc b)) c d;
 let BJ(a:By)(b:Int × Bool × Bool × Int)(c:Hn)(d e f:Int):=Ar a b c.13 d e f;
 let BK(a:Hn):=a.1=a.1;
 let BL(a:Hn):=a.2=a.2;
 (∀(r:Hn)(c0:Int)(c1 c2:Bool)(c3 kind va pick:Int)(e:Nat)(pa l:Int)(k:Cch),ylm r c0 c1 c2 c3 kind va pick e pa l k=(AP (Bh r c0 c1 c2 c3 kind va pick (A2 (Bg r.1 c0 c1 c2 c3 r.13 kind va pick))∨Bh r c0 c1
  c2 c3 kind va pick (Bg r.1 c0 c1 c2 c3 r.13 kind va pick=1)∨Bh r c0 c1 c2 c3 kind va pick (Bg r.1 c0 c1 c2 c3 r.13 kind va pick=2)) (Bq (Bh r c0 c1 c2 c3 kind va pick (A2 (Bg r.1 c0 c1 c2 c3 r.13 kind va
  pick))) (B1 pa (BJ r.1 (Ay c0 c1 c2 c3) r kind va pick).1 (Value.nilIface=Value.nilIface) r (Bb k (AG r c0 c1 c2 c3 kind va pick) r c0 c1 c2 c3 kind va pick)∧A2 e) (Bl e) e) (Bq (Bh r c0 c1 c2 c3 kind va pick (Bg r.1 c0
  c1 c2 c3 r.13 kind va pick=1)) (False∧A2 e) (B1 pa (BJ r.1 (Ay c0 c1 c2 c3) r kind va pick).1 (l=(Ar r.1 (Ay c0 c1 c2 c3) r.13 kind va pick).2.1) r (Bb k (AG r c0 c1 c2 c3 kind va pick) r c0 c1 c2 c3 kind va pick)
  ∧ e=1) e) (Bh r c0 c1 c2 c3 kind va pick (Bg r.1 c0 c1 c2 c3 r.13 kind va pick=2)→False∧A2 e∨Bl e∨B1 pa (BJ r.1 (Ay c0 c1 c2 c3) r kind va pick).1 (l=(Ar r.1 (Ay c0 c1 c2 c3) r.13 kind va
  pick).2.1) r (Bb k (AG r c0 c1 c2 c3 kind va pick) r c0 c1 c2 c3 kind va pick)∧e=2)))∧(∀(r:Hn)(pick:Int)(f0:Bool)(f1:Int)(f2:Bool)(f3:Int),yli r pick f0 f1 f2 f3=(Bf (A6 (Be AO) (Aj (Az f0
  f1 f2 f3 r)=Aj (Az f0 f1 f2 f3 r)∧FlR (An (Az f0 f1 f2 f3 r)) (Bk f0 f1 f2 f3)) (∃(x0:Nat),BB (BI x0 AO r (B9 r (BG r) (BC r) (B6 r) (BA r) (Bx r) (Bw r) (Bo r) (Bu f0 f1 f2 f3 r x0 (Az f0 f1 f2 f3 r)) (Aa
  f0 f1 f2 f3 r x0) (Az f0 f1 f2 f3 r) (Aj (Aa f0 f1 f2 f3 r x0)=Aj (Az f0 f1 f2 f3 r)) (BK r) (BL r) (An (Aa f0 f1 f2 f3 r x0)=List.map (zok (Bk f0 f1 f2 f3)) (An (Az f0 f1 f2 f3 r))) (BE f0 f1 f2 f3 r x0 (Az f0 f1 f2 f3 r))
  (BD f0 f1 f2 f3 r x0 (Az f0 f1 f2 f3 r)) (f0=f0) (f1=f1) (f2=f2) (f3=f3))) x0 (AK 0))) (∃(x2:Unit),Bv r (AD (B0 r) (AY r) (B6 r) (AX r) r (Ac f0 f1 f2 f3 r) (Az f0 f1 f2 f3 r)))))∧(∀(r:Hn)(pick:Int)
  (f0:Bool) (f1:Int) (f2:Bool) (f3:Int),ylj r pick f0 f1 f2 f3=(Bf (A6 (Be AM) (Ae (Aq f0 f1 f2 f3 r)=Ae (Aq f0 f1 f2 f3 r)∧FlR (Ah (Aq f0 f1 f2 f3 r)) (Bk f0 f1 f2 f3)) (∃(x0:Nat),BB (BI x0 AM r (B9 r
  (BG r) (BC r) (B6 r) (BA r) (Bx r) (Bw r) (Bo r) (Bu f0 f1 f2 f3 r x0 (Aq f0 f1 f2 f3 r)) (Aa f0 f1 f2 f3 r x0) (Aq f0 f1 f2 f3 r) (Aj (Aa f0 f1 f2 f3 r x0)=Aj (Aq f0 f1 f2 f3 r)) (BK r) (BL r) (BF f0 f1 f2 f3 r
  x0 (Aq f0 f1 f2 f3 r)) (Ah (Aa f0 f1 f2 f3 r x0)=List.map (zok (Bk f0 f1 f2 f3)) (Ah (Aq f0 f1 f2 f3 r))) (BD f0 f1 f2 f3 r x0 (Aq f0 f1 f2 f3 r)) (f0=f0) (f1=f1) (f2=f2) (f3=f3))) x0 (AK 1))) (∃(x2:Unit),
  Bv r (AD (B0 r) (AY r) (B6 r) (AX r) r (Ac f0 f1 f2 f3 r) (Aq f0 f1 f2 f3 r)))))∧(∀(r:Hn)(pick:Int)(f0:Bool)(f1:Int)(f2:Bool)(f3:Int),ylk r pick f0 f1 f2 f3=(Bf (A6 (Be AL) (Af (Aw f0 f1 f2 f3 r)=Af
  (Aw f0 f1 f2 f3 r)∧FlR (Al (Aw f0 f1 f2 f3 r)) (Bk f0 f1 f2 f3)) (∃(x0:Nat),BB (BI x0 AL r (B9 r (BG r) (BC r) (B6 r) (BA r) (Bx r) (Bw r) (Bo r) (Bu f0 f1 f2 f3 r x0 (Aw f0 f1 f2 f3 r)) (Aa f0 f1 f2 f3 r
  x0) (Aw f0 f1 f2 f3 r) (Aj (Aa f0 f1 f2 f3 r x0)=Aj (Aw f0 f1 f2 f3 r)) (BK r) (BL r) (BF f0 f1 f2 f3 r x0 (Aw f0 f1 f2 f3 r)) (BE f0 f1 f2 f3 r x0 (Aw f0 f1 f2 f3 r)) (Al (Aa f0 f1 f2 f3 r x0)=List.map (zok (Bk f0 f1 f2
  f3)) (Al (Aw f0 f1 f2 f3 r))) (f0=f0) (f1=f1) (f2=f2) (f3=f3))) x0 (AK 2))) (∃(x2:Unit),Bv r (AD (B0 r) (AY r) (B6 r) (AX r) r (Ac f0 f1 f2 f3 r) (Aw f0 f1 f2 f3 r)))))∧(∀(r:Hn)(pick:Int)(f0:Bool) (f1
  : Int) (f2:Bool) (f3:Int),yll r pick f0 f1 f2 f3=(Bz (∃(x0:Unit),Bv r (AD (B0 r) (AY r) (B6 r) (AX r) r (Ac f0 f1 f2 f3 r) (Ac f0 f1 f2 f3 r)))))∧(∀(r:Hn)(pick:Int)(f0:Bool)(f1:Int)(f2:Bool) (f3 :
  Int) (k:Cch),ywt r pick f0 f1 f2 f3 k=(A6 (U64 f1) (zje (f0,f1,f2,f3)=true→∃(x0:Nat),A6 (BH ((3:Int)=AB) (AR x0 0) r (B7 r (BG r) (BC r) (B6 r) (BA r) (Bx r) (Bw r) (Bo r) (Bu f0 f1 f2
  f3 r x0 r.13) (Aa f0 f1 f2 f3 r x0) r.13 (Aj (Aa f0 f1 f2 f3 r x0)=AH r) (AJ r) (BK r) (BL r) (BF f0 f1 f2 f3 r x0 r.13) (BE f0 f1 f2 f3 r x0 r.13) (BD f0 f1 f2 f3 r x0 r.13) (f0=f0) (f1=f1) (f2=f2) (f3=f3))) (AS
  x0) (∀(x1:Unit),True→B8 r (AD (B0 r) (AY r) (B6 r) (AX r) r k (Ac f0 f1 f2 f3 r)))) (zje (f0,f1,f2,f3)=false→B8 r (AV (B0 r) (AY r) (B6 r) (AX r) r k))))∧(∀(r:Hn)(f0:Bool)(f1:Int)(f2:Bool) (f3 :
  Int),ywv r f0 f1 f2 f3=(B8 r (Bj (B0 r) (AY r) (B6 r) (AX r) r)))∧(∀(r:Hn)(pick:Int),yv4 r pick=(Bn AO (Aj (Ax r pick)) pick (∃(x0:Nat),Bi pick x0 AO r (AC (A5 r pick x0) (Ax r pick) r (An (A5 r pick
  x0)=List.set (An (Ax r pick)) (Bd pick (Aj (Ax r pick))) (false,Bp)) (Ah (A5 r pick x0)=Ah (Ax r pick)) (Al (A5 r pick x0)=Al (Ax r pick))) (AK 0)) (∃(x2:Unit),Br pick r (AD (B0 r) (AY r) (B6 r) (AX r) r (A9
  r pick) (Ax r pick)))))∧(∀(r:Hn)(pick:Int),yv5 r pick=(Bf (A7 (Be AM) ((↑(B5 r pick):Int)≠0) (B3 (AQ pick (B5 r pick)) (↑(B5 r pick):Int)) (Bd pick (B5 r pick)<B5 r pick) (∃(x0:Nat),Bi
  pick x0 AM r (AC (A5 r pick x0) (Au r pick) r (An (A5 r pick x0)=An (Au r pick)) (Bt (Ah (A5 r pick x0)) (Ah (Au r pick)) pick (B5 r pick)) (Al (A5 r pick x0)=Al (Au r pick))) (AK 1))) (∃(x2:Unit),Br pick r (AD
  (B0 r) (AY r) (B6 r) (AX r) r (A9 r pick) (Au r pick)))))∧(∀(r:Hn)(pick:Int),yv6 r pick=(Bn AL (Af (Ap r pick)) pick (∃(x0:Nat),Bi pick x0 AL r (AC (A5 r pick x0) (Ap r pick) r (An (A5 r pick x0)=An (Ap r
  pick)) (Ah (A5 r pick x0)=Ah (Ap r pick)) (Bt (Al (A5 r pick x0)) (Al (Ap r pick)) pick (Af (Ap r pick)))) (AK 2)) (∃(x2:Unit),Br pick r (AD (B0 r) (AY r) (B6 r) (AX r) r (A9 r pick) (Ap r pick)))))∧(∀(r:Hn)
  (pick:Int),yv7 r pick=(Bz (∃(x0:Unit),Br pick r (AD (B0 r) (AY r) (B6 r) (AX r) r (A9 r pick) (A9 r pick)))))∧(∀(r:Hn)(pick:Int)(k:Cch),vc_ca r pick k=(B4 (decide (pick≥128)) (∃(x0:Nat),
  A6 (AP (pick=pick) A4 AT (B1 3 AB (AR x0 0) r (AZ (A5 r pick x0) r.13 r r.13))) ((128:Int)≤pick∧AS x0) (∀(x1:Unit),True→Bm pick r (AD (B0 r) (AY r) (B6 r) (AX r) r k (A9 r pick)))) (Bm pick r (AV
  (B0 r) (AY r) (B6 r) (AX r) r k))))∧(∀(r:Hn),vc_pl r=(B8 r (Bj (B0 r) (AY r) (B6 r) (AX r) r)))∧(∀(r:Hn)(pick:Int),yao1 r pick=(Bf (Ba r=Ba r∧B8 r (Bj (B0 r) (AY r) (B6 r) (AX r) r)) (Bs
  r pick∧False)))∧(∀(r:Hn)(pick:Int)(k:Cch),yan1 r pick k=(B4 false (Ba r=Ba r∧False) (Ad (Bs r pick) (pick=pick) A4 (A8 r=A8 r) A4 (AF r) (BG r) (BC r) (Ad (B0 r) (AY r) (B6 r) (AX r) (BA r) (Bx
  r) (Bw r) (Bo r) (AZ k (AW pick r) r (AW pick r)))))):=by
  conv=>zeta
  refine⟨?_, ?_, ?_, ?_, ?_, ?_, ?_, ?_, ?_, ?_, ?_, ?_, ?_, ?_, ?_⟩<;>(intros;as_aux_lemma=>kernel_rfl)
set_option linter.unusedSimpArgs false
set_option linter.unusedVariables false
theorem ysn:DictOk Tryz.prog FIE0:=zay .nil (.cons (by kernel_rfl) (fun k=>zew (yum (yaf1 k))) .nil) .nil
theorem zlx(m:By)(c:Ct)(k:Cch)(kind va pick:Int):(trM m c k kind va pick).1=0∨(trM m c k kind va pick).1=1∨(trM m c k kind va pick).1=2:=by
 obtain⟨I,D,P⟩:=k
 obtain⟨e,pa,l,t1,t2,t3,h, -, -, -, -,g⟩:=znt m c I D P kind va pick
 rw[h]
 exact g
theorem tc_vc{r:Hn}{c0:Int}{c1 c2:Bool}{c3 kind va pick:Int}(h:yeu r.m (c0,c1,c2,c3) r.k kind va pick):ylm r c0 c1 c2 c3 kind va pick (trM r.m (c0,c1,c2,c3) r.k kind va pick).1 (trM r.m (c0,c1,c2,c3) r.k kind va pick).2.1 (trM r.m (c0,c1,c2,c3) r.k kind va pick).2.2.1 (trM r.m (c0,c1,c2,c3) r.k kind va pick).2.2.2:=by
 have e0:=zfj
 conv at e0=>zeta
 dsimp -proj -iota -eta only at e0
 replace e0:=e0.1
 refine zab (e0 r c0 c1 c2 c3 kind va pick _ _ _ _) ⟨?_,fun q => .inl ⟨?_,q.2.2.2⟩,fun q => .inr (.inl ⟨?_,q.2.2.2⟩),fun q => .inr (.inr ⟨?_,q.2.2.2⟩)⟩
 · exact (zlx r.m (c0,c1,c2,c3) r.k kind va pick).imp (fun e=>⟨rfl,rfl,h,e⟩) (fun e=>e.imp (fun e=>⟨rfl,rfl,h,e⟩) (fun e=>⟨rfl,rfl,h,e⟩))
 all_goals repeat' apply And.intro
 all_goals rfl
theorem yvr(k:Nat):Sound Tryz.prog 269 (tcS k):=by
 refine zek mixed Tryz.func269 (by kernel_rfl) false ysn (fun args H p v H' h hp => ?_)
 unfold tcS at h
 split at h
 case h_2=>cases h
 rename_i pick c0 c1 c2 c3 kind va
 split at h
 case h_2=>cases h
 rename_i n r hg
 simp only[Option.some.injEq,Prod.mk.injEq] at h
 obtain⟨rfl,rfl,rfl⟩:=h
 obtain⟨hn,hT,hk⟩:=hp
 obtain⟨rfl, -, -⟩:=zfa hg hn
 refine⟨.none,_,zd5 (by kernel_rfl),tc_vc hT,fun o ho hout => ?_⟩
 simp only[List.mem_cons,List.not_mem_nil,or_false] at ho
 generalize trM r.m (c0,c1,c2,c3) r.k kind va pick=z at *
 match k,hk with
 | 0,hk =>
  have hk:z.1=0:=hk
  rcases ho with rfl|rfl|rfl
  · exact⟨rfl,rfl,rfl⟩
  · exact absurd (hk.symm.trans hout) (by decide)
  · exact absurd (hk.symm.trans hout) (by decide)
 | 1,hk =>
  have hk:z.1=1:=hk
  rcases ho with rfl|rfl|rfl
  · exact absurd (hk.symm.trans hout) (by decide)
  · exact⟨rfl,rfl,rfl⟩
  · exact absurd (hk.symm.trans hout) (by decide)
 | _+2,hk =>
  have hk:z.1=2:=hk
  rcases ho with rfl|rfl|rfl
  · exact absurd (hk.symm.trans hout) (by decide)
  · exact absurd (hk.symm.trans hout) (by decide)
  · exact⟨rfl,rfl,rfl⟩
theorem yt9:zar Tryz.prog kIE1 := .cons (by kernel_rfl) (zew yaa) yaf
theorem yso:DictOk Tryz.prog FIE1:=zay yt9 .nil .nil
theorem yf7(f:Fc)(t:Tl):(flT f t).2.2.length=t.2.2.length:=List.length_map ..
theorem ymy{r:Hn}{pick:Int}{f0:Bool}{f1:Int}{f2:Bool}{f3:Int}(h:FlC r.k (f0,f1,f2,f3)):∀i:Nat,i≤3→yju r pick f0 f1 f2 f3 i
 | 0,_=>by
  have e0:=zfj
  conv at e0=>zeta
  dsimp -proj -iota -eta only at e0
  replace e0:=e0.2.1
  exact zab (e0 r pick f0 f1 f2 f3) ⟨fun _=>⟨⟨by decide,by decide⟩,⟨rfl,h.1⟩,1,(by
   repeat' apply And.intro
   all_goals first|rfl|exact yf7 _ _),by decide,by decide,fun _ _=>trivial⟩,fun q=>(by cases q)⟩
 | 1,_=>by
  have e0:=zfj
  conv at e0=>zeta
  dsimp -proj -iota -eta only at e0
  replace e0:=e0.2.2.1
  exact zab (e0 r pick f0 f1 f2 f3) ⟨fun _=>⟨⟨by decide,by decide⟩,⟨rfl,h.2.1⟩,2,(by
   repeat' apply And.intro
   all_goals first|rfl|exact yf7 _ _),by decide,by decide,fun _ _=>trivial⟩,fun q=>(by cases q)⟩
 | 2,_=>by
  have e0:=zfj
  conv at e0=>zeta
  dsimp -proj -iota -eta only at e0
  replace e0:=e0.2.2.2.1
  exact zab (e0 r pick f0 f1 f2 f3) ⟨fun _=>⟨⟨by decide,by decide⟩,⟨rfl,h.2.2⟩,3,(by
   repeat' apply And.intro
   all_goals first|rfl|exact yf7 _ _),by decide,by decide,fun _ _=>trivial⟩,fun q=>(by cases q)⟩
 | 3,_=>by
  have e0:=zfj
  conv at e0=>zeta
  dsimp -proj -iota -eta only at e0
  replace e0:=e0.2.2.2.2.1
  exact zab (e0 r pick f0 f1 f2 f3) ⟨fun q=>(by cases q),fun _=>⟨(),(by
   repeat' apply And.intro
   all_goals rfl),trivial⟩⟩
 | n+4,h=>absurd h (by omega)
theorem yad1:Sound Tryz.prog 268 tcFS:=by
 refine zdk mixed Tryz.func268 (by kernel_rfl) (b:=zag Tryz.f268 0) (k:=3) (by kernel_rfl) (by kernel_rfl) (by kernel_rfl) yso (fun args H p v H' h hp => ?_)
 unfold tcFS at h
 split at h
 case h_2=>cases h
 rename_i pick f0 f1 f2 f3
 split at h
 case h_2=>cases h
 rename_i n r hg
 simp only[Option.some.injEq,Prod.mk.injEq] at h
 obtain⟨rfl,rfl,rfl⟩:=h
 obtain⟨hn,hu,hF⟩:=hp
 obtain⟨rfl, -, -⟩:=zfa hg hn
 refine⟨_,tcL r (f0,f1,f2,f3),fun i:Nat=>3-i,za3 _ _,fun  (i:Nat) hi=>ymy (pick:=pick) hF i hi, ?_⟩
 have e0:=zfj
 conv at e0=>zeta
 dsimp -proj -iota -eta only at e0
 replace e0:=e0.2.2.2.2.2.1
 refine zab (e0 r pick f0 f1 f2 f3 _) ?_
 refine⟨hu,fun q=>⟨0, ?_,by decide,fun _ _ => ?_⟩,fun q => ?_⟩
 · repeat' apply And.intro
   all_goals rfl
 · unfold ymz
   rw[if_pos q]
   repeat' apply And.intro
   all_goals rfl
 · unfold ymz
   rw[if_neg (by rw[q];decide)]
   repeat' apply And.intro
   all_goals rfl
theorem yzf:Sound Tryz.prog 223 noS1:=by
 refine zbi mixed Tryz.func223 (by kernel_rfl) (by kernel_rfl) (zay .nil .nil .nil) (fun args H p v H' h hp => ?_)
 unfold noS1 at h
 split at h
 case h_2=>cases h
 simp only[Option.some.injEq,Prod.mk.injEq] at h
 obtain⟨rfl,rfl,rfl⟩:=h
 exact⟨.none,zab (ykz ..) trivial⟩
theorem yzg:Sound Tryz.prog 224 noS2:=by
 refine zbi mixed Tryz.func224 (by kernel_rfl) (by kernel_rfl) (zay .nil .nil .nil) (fun args H p v H' h hp => ?_)
 unfold noS2 at h
 split at h
 case h_2=>cases h
 simp only[Option.some.injEq,Prod.mk.injEq] at h
 obtain⟨rfl,rfl,rfl⟩:=h
 exact⟨.none,zab (yk0 ..) trivial⟩
theorem yua:zar Tryz.prog kIE2 := .cons (by kernel_rfl) yzf (.cons (by kernel_rfl) yzg (.cons (by kernel_rfl) ztk .nil))
theorem yem:DictOk Tryz.prog FIE2:=zay yua .nil .nil
theorem ya01(bad:Bool):Sound Tryz.prog 262 (wkS bad):=by
 refine zek mixed Tryz.func262 (by kernel_rfl) false yem (fun args H p v H' h hp => ?_)
 unfold wkS at h
 split at h
 case h_2=>cases h
 rename_i c0 c1 c2 c3 kind va
 split at h
 case h_2=>cases h
 rename_i n r hg
 simp only[Option.some.injEq,Prod.mk.injEq] at h
 obtain⟨rfl,rfl,rfl⟩:=h
 obtain⟨hn,hT,hk⟩:=hp
 obtain⟨rfl, -, -⟩:=zfa hg hn
 refine⟨.none,_,zd5 (by kernel_rfl),zab (yd7 r c0 c1 c2 c3 kind va (zaw r.m (c0,c1,c2,c3) kind va).1 (zaw r.m (c0,c1,c2,c3) kind va).2) ⟨⟨rfl,hT⟩,fun q => .inr ⟨?_, ?_⟩,fun q => .inl ⟨?_, ?_⟩⟩,fun o ho hout => ?_⟩
 · repeat' apply And.intro
   all_goals rfl
 · simpa using q
 · repeat' apply And.intro
   all_goals rfl
 · simpa using q
 · simp only[List.mem_cons,List.not_mem_nil,or_false] at ho
   rcases ho with rfl|rfl
   · cases bad with
     | false=>exact⟨rfl,rfl,rfl⟩
     | true=>exact absurd hout hk
   · cases bad with
     | false=>exact absurd hk hout
     | true=>exact⟨rfl,rfl,rfl⟩
theorem yaz1:Sound Tryz.prog 261 wkFS:=by
 refine zbi mixed Tryz.func261 (by kernel_rfl) (by kernel_rfl) yem (fun args H p v H' h hp => ?_)
 unfold wkFS at h
 split at h
 case h_2=>cases h
 rename_i f0 f1 f2 f3
 split at h
 case h_2=>cases h
 rename_i n r hg
 simp only[Option.some.injEq,Prod.mk.injEq] at h
 obtain⟨rfl,rfl,rfl⟩:=h
 obtain⟨rfl, -, -⟩:=zfa hg hp
 refine⟨.none, ?_⟩
 have e0:=zfj
 conv at e0=>zeta
 dsimp -proj -iota -eta only at e0
 replace e0:=e0.2.2.2.2.2.2.1
 refine zab (e0 r f0 f1 f2 f3) ?_
 repeat' apply And.intro
 all_goals rfl
theorem yf1(t:Tl)(k:Int):(evT t k).2.2.length=t.2.2.length:=List.length_set
theorem zz5{p:Int}{n:Nat}(h0:0≤p)(h1:p≤127)(hn:1≤n)(hn2:n≤1000):(n:Int)≠0∧(0≤(IntKind.i64.wrap p).tmod n∧(IntKind.i64.wrap p).tmod n<n)∧0+((IntKind.i64.wrap p).tmod n).toNat<n∧(IntKind.i64.wrap p).tmod n=p % n:=by
 rw[zaa (by omega) (by omega),Int.tmod_eq_emod_of_nonneg h0]
 have a:=Int.emod_nonneg p (show (n:Int)≠0 by omega)
 have b:=Int.emod_lt_of_pos p (show (0:Int)<n by omega)
 refine⟨by omega,⟨a,b⟩,by omega,rfl⟩
theorem yto{p:Int}{t:Tl}(h0:0≤p)(h1:p≤127)(hn:1≤t.2.2.length)(hn2:t.2.2.length≤1000):(evT t p).2.2=t.2.2.set (0+((IntKind.i64.wrap p).tmod t.2.2.length).toNat) (false,0,0,0,false,0):=by
 rw[(zz5 h0 h1 hn hn2).2.2.2,Nat.zero_add]
 rfl
theorem ymj{r:Hn}{pick:Int}(h:CaR r pick)(hp:128≤pick):∀i:Nat,i≤3→yjt r pick i
 | 0,_=>by
  obtain⟨-,p1,⟨a1,a2⟩, -⟩:=h
  have hi:=zz5 (p:=pick-128) (by omega) (by omega) a1 a2
  have e0:=zfj
  conv at e0=>zeta
  dsimp -proj -iota -eta only at e0
  replace e0:=e0.2.2.2.2.2.2.2.1
  exact zab (e0 r pick) ⟨fun _=>⟨⟨by decide,by decide⟩,hi.1,hi.2.1,hi.2.2.1,1,(by
   repeat' apply And.intro
   all_goals first|rfl|exact yf1 _ _|exact yto (by omega) (by omega) a1 a2),⟨hp,by decide⟩,by decide,fun _ _=>trivial⟩,fun q=>(by cases q)⟩
 | 1,_=>by
  obtain⟨-,p1, -,⟨a1,a2⟩, -⟩:=h
  have hi:=zz5 (p:=pick-128) (by omega) (by omega) a1 a2
  have e0:=zfj
  conv at e0=>zeta
  dsimp -proj -iota -eta only at e0
  replace e0:=e0.2.2.2.2.2.2.2.2.1
  exact zab (e0 r pick) ⟨fun _=>⟨⟨by decide,by decide⟩,hi.1,hi.2.1,hi.2.2.1,2,(by
   repeat' apply And.intro
   all_goals first|rfl|exact yf1 _ _|exact yto (by omega) (by omega) a1 a2),⟨hp,by decide⟩,by decide,fun _ _=>trivial⟩,fun q=>(by cases q)⟩
 | 2,_=>by
  obtain⟨-,p1, -, -,a1,a2⟩:=h
  have hi:=zz5 (p:=pick-128) (by omega) (by omega) a1 a2
  have e0:=zfj
  conv at e0=>zeta
  dsimp -proj -iota -eta only at e0
  replace e0:=e0.2.2.2.2.2.2.2.2.2.1
  exact zab (e0 r pick) ⟨fun _=>⟨⟨by decide,by decide⟩,hi.1,hi.2.1,hi.2.2.1,3,(by
   repeat' apply And.intro
   all_goals first|rfl|exact yf1 _ _|exact yto (by omega) (by omega) a1 a2),⟨hp,by decide⟩,by decide,fun _ _=>trivial⟩,fun q=>(by cases q)⟩
 | 3,_=>by
  have e0:=zfj
  conv at e0=>zeta
  dsimp -proj -iota -eta only at e0
  replace e0:=e0.2.2.2.2.2.2.2.2.2.2.1
  exact zab (e0 r pick) ⟨fun q=>(by cases q),fun _=>⟨(),(by
   repeat' apply And.intro
   all_goals rfl),trivial⟩⟩
 | n+4,h=>absurd h (by omega)
theorem ca_ok:Sound Tryz.prog 179 caS:=by
 refine zdk mixed Tryz.func179 (by kernel_rfl) (b:=zag Tryz.f179 0) (k:=3) (by kernel_rfl) (by kernel_rfl) (by kernel_rfl) (zay .nil .nil .nil) (fun args H p v H' h hp => ?_)
 unfold caS at h
 split at h
 case h_2=>cases h
 rename_i pick
 split at h
 case h_2=>cases h
 rename_i n r hg
 simp only[Option.some.injEq,Prod.mk.injEq] at h
 obtain⟨rfl,rfl,rfl⟩:=h
 obtain⟨hn,hC⟩:=hp
 obtain⟨rfl, -, -⟩:=zfa hg hn
 refine⟨_,caL r pick,fun i:Nat=>3-i,za3 _ _,fun  (i:Nat) hi=>ymj hC hi.1 i hi.2, ?_⟩
 have e0:=zfj
 conv at e0=>zeta
 dsimp -proj -iota -eta only at e0
 replace e0:=e0.2.2.2.2.2.2.2.2.2.2.2.1
 refine zab (e0 r pick _) ?_
 refine⟨fun q=>⟨0, ?_,⟨of_decide_eq_true q,by decide⟩,fun _ _ => ?_⟩,fun q => ?_⟩
 · repeat' apply And.intro
   all_goals rfl
 · have q:pick≥128:=of_decide_eq_true q
   unfold evK
   rw[if_pos q]
   repeat' apply And.intro
   all_goals rfl
 · have q:¬ pick≥128:=of_decide_eq_false q
   unfold evK
   rw[if_neg q]
   repeat' apply And.intro
   all_goals rfl
theorem pl_ok:Sound Tryz.prog 178 plS:=by
 refine zbi mixed Tryz.func178 (by kernel_rfl) (by kernel_rfl) (zay .nil .nil .nil) (fun args H p v H' h hp => ?_)
 unfold plS at h
 split at h
 case h_2=>cases h
 split at h
 case h_2=>cases h
 rename_i n r hg
 simp only[Option.some.injEq,Prod.mk.injEq] at h
 obtain⟨rfl,rfl,rfl⟩:=h
 obtain⟨rfl, -, -⟩:=zfa hg hp
 refine⟨.none, ?_⟩
 have e0:=zfj
 conv at e0=>zeta
 dsimp -proj -iota -eta only at e0
 replace e0:=e0.2.2.2.2.2.2.2.2.2.2.2.2.1
 refine zab (e0 r) ?_
 repeat' apply And.intro
 all_goals rfl
theorem yub:zar Tryz.prog kIE3 := .cons (by kernel_rfl) ca_ok (.cons (by kernel_rfl) pl_ok .nil)
theorem ysp:DictOk Tryz.prog FIE3:=zay yub .nil .nil
theorem mk_ok(pl:Bool):Sound Tryz.prog 76 (mkS pl):=by
 refine zbi mixed Tryz.func76 (by kernel_rfl) (by kernel_rfl) ysp (fun args H p v H' h hp => ?_)
 unfold mkS at h
 split at h
 case h_2=>cases h
 rename_i b pick
 split at h
 case h_2=>cases h
 rename_i n r hg
 simp only[Option.some.injEq,Prod.mk.injEq] at h
 obtain⟨rfl,rfl,rfl⟩:=h
 obtain⟨hn,rfl,hC⟩:=hp
 obtain⟨rfl, -, -⟩:=zfa hg hn
 cases b with
 | true =>
  refine⟨.none, ?_⟩
  have e0:=zfj
  conv at e0=>zeta
  dsimp -proj -iota -eta only at e0
  replace e0:=e0.2.2.2.2.2.2.2.2.2.2.2.2.2.1
  refine zab (e0 r pick) ?_
  refine⟨fun _ => ?_,fun q=>(by cases q)⟩
  repeat' apply And.intro
  all_goals rfl
 | false =>
  refine⟨.none, ?_⟩
  have e0:=zfj
  conv at e0=>zeta
  dsimp -proj -iota -eta only at e0
  replace e0:=e0.2.2.2.2.2.2.2.2.2.2.2.2.2.2
  refine zab (e0 r pick _) ?_
  refine⟨fun q=>(by cases q),fun _=>⟨⟨rfl,hC⟩, ?_⟩⟩
  repeat' apply And.intro
  all_goals rfl
end Go.Proofs.YtfiddfbagbaofaaGreat.V
