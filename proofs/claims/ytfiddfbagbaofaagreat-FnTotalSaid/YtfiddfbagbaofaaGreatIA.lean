/- The small parts of the program's step. Conditions: those in each statement. -/
import Derived.Test.YtfiddfbagbaofaaGreatHA
import Derived.Test.YtfiddfbagbaofaaGreatV4
import Derived.KernelRfl
namespace Go.Proofs.YtfiddfbagbaofaaGreat.V
open Go
abbrev LL:=List (List Int)
abbrev shQ:List Ty:=[.i .u64,.i .u64,.i .u64]
abbrev Qt:=Int × Int × Int
abbrev Qs:=List Qt
structure Hn where
 m:By
 u:Us
 pc:Int
 mo:Int
 su:Bool
 mx:Bool
 sa:Int
 tv:Int
 ep:Int
 em:Int
 ca:Int
 tl:Int
 k:Cch
 g1:LL
 g2:LL
abbrev TrS:=Cch × LL × LL
structure Tm where
 X:List (Option (Nat × Nat))→Value→Prop
 R1:LL→List (Option (Nat × Nat))→Option Obj→Prop
 R2:LL→List (Option (Nat × Nat))→Option Obj→Prop
 tr:By→Ct→Int→Int→Cch→LL→LL→Nat × Int × Int × TrS
 fe:Fc→Cch→LL→LL→TrS
 inv:Nat→Cch→LL→LL→Prop
def OkT(M:Tm)(n:Nat)(m:By)(c:Ct)(kind va:Int)(k:Cch)(g1 g2:LL):Prop:=zaj m∧U64 c.2.2.2∧0≤c.1∧c.1≤2∧0≤kind∧kind≤2∧U64 va∧M.inv (n+1) k g1 g2
def Hn.c(r:Hn):Ct:=(r.mo,r.su,r.mx,r.sa)
def Hn.upd(r:Hn)(x:TrS):Hn:={ r with k:=x.1,g1:=x.2.1,g2:=x.2.2 }
def Tm.ask(M:Tm)(r:Hn)(c:Ct)(kind va:Int):Nat × Int × Int × TrS:=M.tr r.m c kind va r.k r.g1 r.g2
def hnA(r:Hn)(b:Nat):List Av:=[.sl b 1 0 r.m.length,.sl (b+1) 1 0 r.u.length,.v (.int .u64 r.pc),.v (.int .i64 r.mo),.v (.bool r.su),.v (.bool r.mx),.v (.int .u64 r.sa),.v (.int .u64 r.tv),.v (.int .u64 r.ep),.v (.int .i64 r.em),.v (.int .i64 r.ca),.v (.int .u64 r.tl),.v (.int .i64 r.k.1.1),.v (.int .i64 r.k.1.2.1),.sl (b+2) 6 0 r.k.1.2.2.length,.v (.int .i64 r.k.2.1.1),.v (.int .i64 r.k.2.1.2.1),.sl (b+3) 6 0 r.k.2.1.2.2.length,.v (.int .i64 r.k.2.2.1),.v (.int .i64 r.k.2.2.2.1),.sl (b+4) 6 0 r.k.2.2.2.2.length]
def h6(r:Hn)(b:Nat):Heap:=[.fix (hnA r (b+1)) true none,.arr [.i .u8] r.m true,.arr [.i .u64] r.u true,.arr shE r.k.1.2.2 true,.arr shE r.k.2.1.2.2 true,.arr shE r.k.2.2.2.2 true]
def gH(M:Tm)(r:Hn)(b:Nat):Heap:=[.ob true [b+7] r.g1 M.R1,.ob true [] r.g2 M.R2]
def h8(M:Tm)(r:Hn)(b:Nat):Heap:=h6 r b++gH M r b
def stA(M:Tm)(c:Ct)(nx:Int):List Av:=[.ptr 1 0,.v (.int .i64 c.1),.v (.bool c.2.1),.v (.bool c.2.2.1),.v (.int .u64 c.2.2.2),.opq [1,7] M.X,.v (.int .u64 nx)]
def zh5(M:Tm)(r:Hn)(c:Ct)(nx:Int):Heap := .fix (stA M c nx) true (some 238)::h8 M r 1
abbrev Ln:=Nat × Nat × Nat × Nat × Nat
def Hn.ln(r:Hn):Ln:=(r.m.length,r.u.length,r.k.1.2.2.length,r.k.2.1.2.2.length,r.k.2.2.2.2.length)
def get6(b:Nat):Heap→Option (Ln × Hn)
 | [.fix [.sl i0 1 0 n0,.sl i1 1 0 n1,.v (.int .u64 pc),.v (.int .i64 mo),.v (.bool su),.v (.bool mx),.v (.int .u64 sa),.v (.int .u64 tv),.v (.int .u64 ep),.v (.int .i64 em),.v (.int .i64 ca),.v (.int .u64 tl),.v (.int .i64 s1),.v (.int .i64 w1),.sl i2 6 0 n2,.v (.int .i64 s2),.v (.int .i64 w2),.sl i3 6 0 n3,.v (.int .i64 s3),.v (.int .i64 w3),.sl i4 6 0 n4] true none,.arr h0 m true,.arr h1 u true,.arr h2 m1 true,.arr h3 m2 true,.arr h4 m3 true] =>
  if i0=b+1∧i1=b+2∧i2=b+3∧i3=b+4∧i4=b+5 then (if e0:h0=[.i .u8] then (if e1:h1=[.i .u64] then (if e2:h2=shE then (if e3:h3=shE then (if e4:h4=shE then
   some ((n0,n1,n2,n3,n4),⟨(e0 ▸ m:List (El [.i .u8])),(e1 ▸ u:List (El [.i .u64])),pc,mo,su,mx,sa,tv,ep,em,ca,tl,((s1,w1,(e2 ▸ m1:List (El shE))),(s2,w2,(e3 ▸ m2:List (El shE))),(s3,w3,(e4 ▸ m3:List (El shE)))),[],[]⟩)
   else none) else none) else none) else none) else none) else none
 | _=>none
abbrev Rx:=LL→List (Option (Nat × Nat))→Option Obj→Prop
def getG(b:Nat):Heap→Option ((LL × Rx) × LL × Rx)
 | [.ob true [j] g1 R1,.ob true [] g2 R2]=>if j=b+7 then some ((g1,R1),g2,R2) else none
 | _=>none
abbrev Xx:=List (Option (Nat × Nat))→Value→Prop
def Tm.is(M:Tm)(X:Xx)(R1 R2:Rx):Prop:=X=M.X∧R1=M.R1∧R2=M.R2
def get8(b:Nat)(H:Heap):Option (Ln × Hn × Rx × Rx):=match get6 b (H.take 6),getG b (H.drop 6) with
 | some (n,r),some ((g1,R1),g2,R2)=>some (n,{ r with g1:=g1,g2:=g2 },R1,R2)
 | _,_=>none
def ytt:Heap→Option (Ln × Hn × Rx × Rx × Ct × Int × Xx)
 | .fix [.ptr 1 0,.v (.int .i64 c0),.v (.bool c1),.v (.bool c2),.v (.int .u64 c3),.opq [1,7] X,.v (.int .u64 nx)] true (some 238)::H=>match get8 1 H with
  | some (n,r,R1,R2)=>some (n,r,R1,R2,(c0,c1,c2,c3),nx,X)
  | none=>none
 | _=>none
def err4(k:Nat)(l:Int):Av:=match k with|0 => .v .nilIface|1 => .ifc 256 (.agg [.v (.int .i64 l)])|2 => .ifc 200 (.agg [.v (.int .i64 l)])|_ => .ifc 311 (.v (.int .i64 l))
def code4(k e:Nat):Prop:=match k with|0=>e=0|1=>e=1|2=>e=2|_=>3≤e
def trMS(M:Tm)(k:Nat):Sum:=fun args H=>match args with
 | [.opq [0,6] X,.agg [.v (.int .i64 c0),.v (.bool c1),.v (.bool c2),.v (.int .u64 c3)],.v (.int .i64 kind),.v (.int .u64 va)]=>match get8 0 H with
  | some (n,r,R1,R2)=>some (some (M.is X R1 R2∧n=r.ln∧(∃j,OkT M j r.m (c0,c1,c2,c3) kind va r.k r.g1 r.g2)∧code4 k (M.tr r.m (c0,c1,c2,c3) kind va r.k r.g1 r.g2).1),
   .tup [.v (.int .u64 (M.tr r.m (c0,c1,c2,c3) kind va r.k r.g1 r.g2).2.1),err4 k (M.tr r.m (c0,c1,c2,c3) kind va r.k r.g1 r.g2).2.2.1],h8 M (r.upd (M.tr r.m (c0,c1,c2,c3) kind va r.k r.g1 r.g2).2.2.2) 0)
  | none=>none
 | _=>none
def yym(M:Tm):Sum:=fun args H=>match args with
 | [.opq [0,6] X,.agg [.v (.bool f0),.v (.int .u64 f1),.v (.bool f2),.v (.int .u64 f3)]]=>match get8 0 H with
  | some (n,r,R1,R2)=>some (some (M.is X R1 R2∧n=r.ln∧U64 f1∧U64 f3∧∃j,M.inv j r.k r.g1 r.g2),.tup [],h8 M (r.upd (M.fe (f0,f1,f2,f3) r.k r.g1 r.g2)) 0)
  | none=>none
 | _=>none
structure Tm.Ok (P:Program) (M:Tm):Prop where
 tr:∀k,zky (zgy P zcs) .returned (trMS M k)
 fe:zky (zgy P (zcs+1)) .returned (yym M)
 trI:∀{n m c kind va k g1 g2},OkT M n m c kind va k g1 g2→M.inv n (M.tr m c kind va k g1 g2).2.2.2.1 (M.tr m c kind va k g1 g2).2.2.2.2.1 (M.tr m c kind va k g1 g2).2.2.2.2.2
 trV:∀{n m c kind va k g1 g2},OkT M n m c kind va k g1 g2→U64 (M.tr m c kind va k g1 g2).2.1∧(3≤(M.tr m c kind va k g1 g2).1→(M.tr m c kind va k g1 g2).2.2.1≠0)
 feI:∀{n f k g1 g2},U64 f.2.1→M.inv n k g1 g2→M.inv n (M.fe f k g1 g2).1 (M.fe f k g1 g2).2.1 (M.fe f k g1 g2).2.2
 le:∀{n j k g1 g2},M.inv n k g1 g2→j≤n→M.inv j k g1 g2
def zhb(e:Nat)(l kind:Int):Int:=if e=0 then 0 else if e=1 then afM kind else if e=2 then pfM kind else l
def zjz(c v:Int):Av := .ifc 127 (.agg [.v (.int .i64 c),.v (.int .u64 v)])
def zea(M:Tm)(r:Hn)(c:Ct)(kind va:Int):Int × Int × Hn:=(zhb (M.ask r c kind va).1 (M.ask r c kind va).2.2.1 kind,(M.ask r c kind va).2.1,r.upd (M.ask r c kind va).2.2.2)
def kIA0(M:Tm):Known:=[(zcs+1,yym M)]++kN2++kB3++kA4
def FIA0(M:Tm):Dict:=mkD (kIA0 M) [(zcs,(4,trMS M))] []
def plcO(M:Tm)(r:Hn)(c:Ct)(kind va nx:Int):List Out:=[⟨false,.v (.int .u64 (M.ask r c kind va).2.1),zh5 M (r.upd (M.ask r c kind va).2.2.2) c nx,(M.ask r c kind va).1=0⟩,⟨true,zjz (zhb (M.ask r c kind va).1 (M.ask r c kind va).2.2.1 kind) va,zh5 M (r.upd (M.ask r c kind va).2.2.2) c nx,(M.ask r c kind va).1≠0⟩]
def ybe(M:Tm)(r:Hn)(c0:Int)(c1 c2:Bool)(c3:Int)(kind va nx:Int):Prop:=zku Tryz.prog (FIA0 M) .none Tryz.f237 [.ptr 0 0,.v (.int .i64 kind),.v (.int .u64 va)] (zh5 M r (c0,c1,c2,c3) nx) (plcO M r (c0,c1,c2,c3) kind va nx)
def plcS(M:Tm)(pan:Bool):Sum:=fun args H=>match args with
 | [.ptr 0 0,.v (.int .i64 kind),.v (.int .u64 va)]=>match ytt H with
  | some (n,r,R1,R2,c,nx,X)=>some (some (M.is X R1 R2∧n=r.ln∧(∃j,OkT M j r.m c kind va r.k r.g1 r.g2)∧(match pan with|false=>(zea M r c kind va).1=0|true=>¬ (zea M r c kind va).1=0)),
   (match pan with|false => .v (.int .u64 (zea M r c kind va).2.1)|true=>zjz (zea M r c kind va).1 va),zh5 M (zea M r c kind va).2.2 c nx)
  | none=>none
 | _=>none
def yv8(r:Hn):Prop:=zi1 Tryz.prog (mkD [] [] []) .none Tryz.f175 [.ptr 0 0] (h6 r 0) (.agg [.v (.int .i64 r.mo),.v (.bool r.su),.v (.bool r.mx),.v (.int .u64 r.sa)]) (h6 r 0)
def ctxS:Sum:=fun args H=>match args with
 | [.ptr 0 0]=>match get6 0 H with
  | some (n,r)=>some (some (n=r.ln),.agg [.v (.int .i64 r.mo),.v (.bool r.su),.v (.bool r.mx),.v (.int .u64 r.sa)],h6 r 0)
  | none=>none
 | _=>none
def zc5(op c mo:Int):Bool:=if op=9∨op=10∨op=11 then !(mo==0) else if op=12 then mo==2 else if op=13 then (mo==2)&&decide (c≤2) else decide (1≤op)&&decide (op≤14)
def ycy(op c mo:Int):Prop:=zal Tryz.prog (mkD [] [] []) .none Tryz.f219 [u64,u64,i64] [bl] (op,c,mo) (zc5 op c mo)
set_option linter.unusedVariables false
set_option maxRecDepth 10000
theorem zyy(M:Tm)(r:Hn)(c0:Int)(c1 c2:Bool)(c3:Int)(kind va nx:Int):ybe M r c0 c1 c2 c3 kind va nx=(
 let A0:=M.tr r.1 (c0,c1,c2,c3) kind va r.13 r.14 r.15;
 let A1(a:Tl):=List.length a.2.2;
 let A2:=List.length r.2;
 let A3:=List.length r.1;
 let A4(a b c:Prop):=a∧b∧c;
 let A5(a:Nat):=a=0;
 let A6(a b c d e:Prop):=A4 a b (A4 c d e);
 let A7:=A5 0;
 let A8(a:Cch):=A1 a.2.1;
 let A9(a:Tl):=a.2.2;
 let Aa(a:Cch):=A1 a.2.2;
 let Ab:=A0.2.2.2.1;
 let Ac(a b c d e f g h i:Prop):=A6 a b c d (A6 e f g h i);
 let Ad:=A0.2.2;
 let Ae:=Ab.2.1;
 let Af:=Ab.2.2;
 let Ah:=Ab.1;
 let Ai(a:Tl):=a.2.1=a.2.1;
 let Aj(a:Tl):=a.1=a.1;
 let Ak:=Ad.2.2;
 let Al(a:Int):=Value.agg ({ toList:=(Value.int IntKind.i64 a::Value.int IntKind.u64 va::[]) });
 let Am(a b:Prop):=(a∧Ac (c0=c0) (c1=c1) (c2=c2) (c3=c3) (M.1=M.1) (nx=nx) A7 (A3=A3) (Ac A7 (A2=A2) (r.3=r.3) (r.4=r.4) (r.5=r.5) (r.6=r.6) (r.7=r.7) (r.8=r.8) (Ac (r.9=r.9) (r.10=r.10) (r.11=r.11)
  (r.12=r.12) (Aj Ah) (Ai Ah) A7 (A1 Ab.1=A1 Ab.1) (Ac (Aj Ae) (Ai Ae) A7 (A8 Ab=A8 Ab) (Aj Af) (Ai Af) A7 (Aa Ab=Aa Ab) (Ac (r.1=r.1) (r.2=r.2) (A9 Ah=A9 Ah) (A9 Ae=A9 Ae) (A9 Af=A9 Af) (Ak.1=Ak.1) (M.2=M.2)
  (Ak.2=Ak.2) (M.3=M.3))))))∧b;
 let An:=A0.1;
 let Ao:=(A3,A2,A1 r.13.1,A8 r.13,Aa r.13);
 let Ap(a b:Prop):=A4 (M.1=M.1) (M.2=M.2) (M.3=M.3)∧A4 (Ao=Ao) a b;
 let Aq:=(0:Int)≤kind;
 let Ar:=kind≤2;
 let Au(a:Int):=False∨Am (Value.iface (127:TypeId) (Al (zhb An Ad.1 kind))=Value.iface 127 (Al a)) (An≠0);
 let Aw(a:Nat):=OkT M a r.1 (c0,c1,c2,c3) kind va r.13 r.14 r.15;
 let Ax(a:Prop):=Ap a (An=2);
 let Ay(a:Prop):=Ap a ((3:Nat)≤An);
 let Az(a:Prop):=Ap a (An=1);
 let AB(a:Prop)(b:Int):=a→(Aq∧Ar)∧Au b;
 A6 (Ap (∃(x0:Nat),Aw x0) (A5 An)∨Az (∃(x0:Nat),Aw x0)∨Ax (∃(x0:Nat),Aw x0)∨Ay (∃(x0:Nat),Aw x0)) (Ap (∃(x0:Nat),Aw x0) (A5 An)→((!true)=true→(Aq∧Ar)∧Au 0)∧((!true)=false→Am
  (A0.2.1=A0.2.1) (A5 An)∨False)) (AB (Az (∃(x0:Nat),Aw x0)) (afM kind)) (AB (Ax (∃(x0:Nat),Aw x0)) (pfM kind)) (Ay (∃(x0:Nat),Aw x0)→Au Ad.1)):=by kernel_rfl
theorem yc1(r:Hn):yv8 r=(
 let A0:=r.13.2.2;
 let A1:=r.13.1;
 let A2(a:Tl):=List.length a.2.2;
 let A3:=r.13.2.1;
 let A4:=(0:Nat)=0;
 let A5(a b c d e:Prop):=a∧b∧c∧d∧e;
 r.4=r.4∧r.5=r.5∧A5 (r.6=r.6) (r.7=r.7) A4 (List.length r.1=List.length r.1) (A5 A4 (List.length r.2=List.length r.2) (r.3=r.3) (r.4=r.4) (A5 (r.5=r.5) (r.6=r.6) (r.7=r.7) (r.8=r.8) (A5 (r.9=r.9) (r.10=r.10)
  (r.11=r.11) (r.12=r.12) (A5 (A1.1=A1.1) (A1.2.1=A1.2.1) A4 (A2 A1=A2 A1) (A5 (A3.1=A3.1) (A3.2.1=A3.2.1) A4 (A2 A3=A2 A3) (A5 (A0.1=A0.1) (A0.2.1=A0.2.1) A4 (A2 A0=A2 A0) (A5 (r.1 =
  r.1) (r.2=r.2) (A1.2.2=A1.2.2) (A3.2.2=A3.2.2) (A0.2.2=A0.2.2))))))))):=by kernel_rfl
theorem zrw(op c mo:Int):ycy op c mo=(
 let A0(a:Int)(b:Bool):=(op==a)=b;
 let A1(a:Int)(b:Bool):=A0 a true→zc5 op c mo=b;
 let A2(a:Int)(b c:Prop):=A0 a false→b∧c;
 let A3(a b:Bool)(d e:Int):=A0 13 a→zc5 op c mo=(bif b then decide (d≤e) else false);
 let A4(a:Int):=A1 a (mo != 0);
 let A5:=A2 12 (A3 true (mo==2) c 2) (A3 false (decide (op≥1)) op 14);
 let A6:=A1 12 (mo==2);
 (A0 9 true→A4 9∧A2 9 A6 A5)∧A2 9 (A0 10 true→A4 10∧A2 10 A6 A5) (A2 10 (A4 11) (A2 11 A6 A5))):=by kernel_rfl
set_option linter.unusedSimpArgs false
set_option linter.unusedVariables false
theorem zfa{b:Nat}{H:Heap}{n:Ln}{r:Hn}(h:get6 b H=some (n,r))(hn:n=r.ln):H=h6 r b∧r.g1=[]∧r.g2=[]:=by
 unfold get6 at h
 split at h
 case h_2=>cases h
 split at h
 case isFalse=>cases h
 rename_i hi
 obtain⟨rfl,rfl,rfl,rfl,rfl⟩:=hi
 split at h
 case isFalse=>cases h
 rename_i e0
 split at h
 case isFalse=>cases h
 rename_i e1
 split at h
 case isFalse=>cases h
 rename_i e2
 split at h
 case isFalse=>cases h
 rename_i e3
 split at h
 case isFalse=>cases h
 rename_i e4
 subst e0 e1 e2 e3 e4
 simp only[Option.some.injEq,Prod.mk.injEq] at h
 obtain⟨h1,rfl⟩:=h
 rw[← h1] at hn
 simp only[Hn.ln,Prod.mk.injEq] at hn
 obtain⟨rfl,rfl,rfl,rfl,rfl⟩:=hn
 exact⟨rfl,rfl,rfl⟩
theorem yts{b:Nat}{H:Heap}{g1 g2:LL}{R1 R2:Rx}(h:getG b H=some ((g1,R1),g2,R2)):H=[.ob true [b+7] g1 R1,.ob true [] g2 R2]:=by
 unfold getG at h
 split at h
 case h_2=>cases h
 split at h
 case isFalse=>cases h
 rename_i hj
 subst hj
 simp only[Option.some.injEq,Prod.mk.injEq] at h
 obtain⟨⟨rfl,rfl⟩,rfl,rfl⟩:=h
 rfl
theorem zki{M:Tm}{b:Nat}{H:Heap}{n:Ln}{r:Hn}{R1 R2:Rx}(h:get8 b H=some (n,r,R1,R2))(hn:n=r.ln)(h1:R1=M.R1)(h2:R2=M.R2):H=h8 M r b:=by
 unfold get8 at h
 split at h
 case h_2=>cases h
 rename_i n0 r0 g1 T1 g2 T2 ha hb
 simp only[Option.some.injEq,Prod.mk.injEq] at h
 obtain⟨rfl,rfl,rfl,rfl⟩:=h
 obtain⟨e1, -, -⟩:=zfa ha hn
 have e2:=yts hb
 rw[← List.take_append_drop 6 H,e1,e2,h1,h2]
 rfl
theorem zmq{M:Tm}{H:Heap}{n:Ln}{r:Hn}{R1 R2:Rx}{c:Ct}{nx:Int}{X:Xx}(h:ytt H=some (n,r,R1,R2,c,nx,X))(hn:n=r.ln)(hx:M.is X R1 R2):H=zh5 M r c nx:=by
 obtain⟨rfl,h1,h2⟩:=hx
 unfold ytt at h
 split at h
 case h_2=>cases h
 split at h
 case h_2=>cases h
 rename_i ha
 simp only[Option.some.injEq,Prod.mk.injEq] at h
 obtain⟨rfl,rfl,rfl,rfl,rfl,rfl,rfl⟩:=h
 rw[zki ha hn h1 h2]
 rfl
theorem yt5{M:Tm}(hM:M.Ok Tryz.prog):zar Tryz.prog (kIA0 M) := .consK (.inr ⟨rfl,hM.fe⟩) ((zmz.append zei).append zc4)
theorem ysk{M:Tm}(hM:M.Ok Tryz.prog):DictOk Tryz.prog (FIA0 M):=zay (yt5 hM) (.consK (fun k => .inr ⟨rfl,hM.tr k⟩) .nil) .nil
theorem yfl{M:Tm}(hM:M.Ok Tryz.prog){n:Nat}{m:By}{c:Ct}{kind va:Int}{k:Cch}{g1 g2:LL}(h:OkT M n m c kind va k g1 g2):zhb (M.tr m c kind va k g1 g2).1 (M.tr m c kind va k g1 g2).2.2.1 kind=0↔(M.tr m c kind va k g1 g2).1=0:=by
 have h3:=(hM.trV h).2
 obtain⟨-, -, -, -,k0,k1, -⟩:=h
 generalize M.tr m c kind va k g1 g2=z at *
 unfold zhb
 constructor
 · intro q
   split at q
   · assumption
   split at q
   · unfold afM at q;split at q<;>(try split at q)<;>omega
   split at q
   · unfold pfM at q;split at q<;>(try split at q)<;>omega
   · exact absurd q (h3 (by omega))
 · intro q
   rw[if_pos q]
theorem yzn{M:Tm}{r:Hn}{c0:Int}{c1 c2:Bool}{c3 kind va nx:Int}{j:Nat}(h:OkT M j r.m (c0,c1,c2,c3) kind va r.k r.g1 r.g2):ybe M r c0 c1 c2 c3 kind va nx:=by
 have hk:∃j,OkT M j r.m (c0,c1,c2,c3) kind va r.k r.g1 r.g2:=⟨j,h⟩
 obtain⟨-, -, -, -,k0,k1, -⟩:=h
 refine zab (zyy M r c0 c1 c2 c3 kind va nx) ?_
 conv=>zeta
 refine⟨?_,fun q=>⟨fun z=>(by cases z),fun _ => ?_⟩,fun q=>⟨⟨k0,k1⟩,.inr ?_⟩,fun q=>⟨⟨k0,k1⟩,.inr ?_⟩,fun q => .inr ?_⟩
 all_goals generalize M.tr r.m (c0,c1,c2,c3) kind va r.k r.g1 r.g2=z at *
 · have e:z.1=0∨z.1=1∨z.1=2∨3≤z.1:=by omega
   simpa[hk] using e
 · simp[q.2.2.2]
 · have e:z.1=1:=q.2.2.2
   simp[zhb,e]
 · have e:z.1=2:=q.2.2.2
   simp[zhb,e]
 · have e:3≤z.1:=q.2.2.2
   have e0:¬ z.1=0:=by omega
   have e1:¬ z.1=1:=by omega
   have e2:¬ z.1=2:=by omega
   simp[zhb,e0,e1,e2]
theorem yrh{M:Tm}(hM:M.Ok Tryz.prog)(pan:Bool):zcp Tryz.prog (zw7 pan) 237 (plcS M pan):=by
 refine zek mixed Tryz.func237 (by kernel_rfl) pan (ysk hM) (fun args H p v H' h hp => ?_)
 unfold plcS at h
 split at h
 case h_2=>cases h
 rename_i kind va
 split at h
 case h_2=>cases h
 rename_i n r R1 R2 c nx X hg
 simp only[Option.some.injEq,Prod.mk.injEq] at h
 obtain⟨rfl,rfl,rfl⟩:=h
 obtain⟨hx,hn,⟨j,hj⟩,hc⟩:=hp
 obtain rfl:=zmq hg hn hx
 obtain⟨c0,c1,c2,c3⟩:=c
 refine⟨.none,plcO M r (c0,c1,c2,c3) kind va nx,zd5 (by kernel_rfl),yzn hj,fun o ho hout => ?_⟩
 have hne:=yfl hM hj
 simp only[plcO,List.mem_cons,List.not_mem_nil,or_false] at ho
 rcases ho with rfl|rfl
 · have e:(M.ask r (c0,c1,c2,c3) kind va).1=0:=hout
   cases pan with
   | false=>exact⟨rfl,rfl,rfl⟩
   | true=>exact absurd (hne.2 e) hc
 · have e:¬ (M.ask r (c0,c1,c2,c3) kind va).1=0:=hout
   cases pan with
   | false=>exact absurd (hne.1 hc) e
   | true=>exact⟨rfl,rfl,rfl⟩
theorem yx5:Sound Tryz.prog 175 ctxS:=by
 refine zbi mixed Tryz.func175 (by kernel_rfl) (by kernel_rfl) (zay .nil .nil .nil) (fun args H p v H' h hp => ?_)
 unfold ctxS at h
 split at h
 case h_2=>cases h
 split at h
 case h_2=>cases h
 rename_i n r hg
 simp only[Option.some.injEq,Prod.mk.injEq] at h
 obtain⟨rfl,rfl,rfl⟩:=h
 obtain⟨rfl, -, -⟩:=zfa hg hp
 refine⟨.none,zab (yc1 r) ?_⟩
 conv=>zeta
 repeat' apply And.intro
 all_goals rfl
theorem ybq:Sound Tryz.prog 219 (zai [u64,u64,i64] [bl] (fun _=>none) (fun t=>zc5 t.1 t.2.1 t.2.2)):=by
 refine zad mixed Tryz.func219 (by kernel_rfl) (by kernel_rfl) (zay .nil .nil .nil) (fun t h => ?_)
 obtain⟨op,c,mo⟩:Int × Int × Int:=t
 refine zab (zrw op c mo) ?_
 conv=>zeta
 simp only[beq_iff_eq,beq_eq_false_iff_ne,ne_eq]
 by_cases h9:op=9
 · subst h9;simp[zc5,bne]
 by_cases h10:op=10
 · subst h10;simp[zc5,bne]
 by_cases h11:op=11
 · subst h11;simp[zc5,bne]
 by_cases h12:op=12
 · subst h12;simp[zc5,bne]
 by_cases h13:op=13
 · subst h13
   have e:zc5 13 c mo=bif mo==2 then decide (c≤2) else false:=by
    simp only[zc5]
    cases hm:(mo==2)<;>simp
   simp[e]
 have e:zc5 op c mo=bif decide (op≥1) then decide (op≤14) else false:=by
  simp only[zc5,h9,h10,h11,h12,h13,or_self,if_false]
  cases hm:decide (op≥1)<;>simp_all
 simp[h9,h10,h11,h12,h13,e]
end Go.Proofs.YtfiddfbagbaofaaGreat.V
