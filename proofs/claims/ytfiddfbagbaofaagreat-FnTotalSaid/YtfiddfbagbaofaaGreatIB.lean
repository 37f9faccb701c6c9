/- The program's step: fetch, parts, load, store. Conditions: those in each statement. -/
import Derived.Test.YtfiddfbagbaofaaGreatIA
import Derived.KernelRfl
namespace Go.Proofs.YtfiddfbagbaofaaGreat.V
open Go
def paH(M:Tm)(r:Hn):Heap := .dead::h8 M r 1
def yai1(c v:Int):Value := .iface 127 (.agg #[.int .i64 c,.int .u64 v])
def kIB0(M:Tm):Known:=[(237,plcS M false)]++kN2++kB3++kA4
def yxg(M:Tm):Dict:=mkD (kIB0 M) [] [(237,(1,fun _=>plcS M true))]
def ypw(r:Hn)(pa:Int):Int:=zbq ((r.m.drop pa.toNat).take 4)
def zid(M:Tm)(r:Hn)(c:Ct):Int × Int × Hn :=
 if ¬ r.pc % 4=0 then (20,r.pc,r)
 else if ¬ (zea M r c 0 r.pc).1=0 then ((zea M r c 0 r.pc).1,r.pc,(zea M r c 0 r.pc).2.2)
 else if zgg r.m (zea M r c 0 r.pc).2.1 4=true then (0,ypw r (zea M r c 0 r.pc).2.1,(zea M r c 0 r.pc).2.2)
 else (1,r.pc,(zea M r c 0 r.pc).2.2)
def ybc(M:Tm)(r:Hn)(c0:Int)(c1 c2:Bool)(c3 nx e v:Int)(z:Hn):Prop:=zku Tryz.prog (yxg M) .none Tryz.f218 [.ptr 0 0] (zh5 M r (c0,c1,c2,c3) nx) [⟨false,.v (.int .u64 v),zh5 M z (c0,c1,c2,c3) nx,e=0⟩,⟨true,zjz e v,paH M z,¬ e=0⟩]
def FetR(M:Tm)(r:Hn)(c:Ct):Prop:=U64 r.pc∧∃j,OkT M j r.m c 0 r.pc r.k r.g1 r.g2
def fetS(M:Tm)(pan:Bool):Sum:=fun args H=>match args with
 | [.ptr 0 0]=>match ytt H with
  | some (n,r,R1,R2,c,nx,X)=>some (some (M.is X R1 R2∧n=r.ln∧FetR M r c∧(match pan with|false=>(zid M r c).1=0|true=>¬ (zid M r c).1=0)),
   (match pan with|false => .v (.int .u64 (zid M r c).2.1)|true=>zjz (zid M r c).1 (zid M r c).2.1),(match pan with|false=>zh5 M (zid M r c).2.2 c nx|true=>paH M (zid M r c).2.2))
  | none=>none
 | _=>none
def ze2(M:Tm)(c:Ct)(kind:Int):Hn→Qs→Qs→Int × Int × Hn × Qs
 | r,done,[]=>(0,0,r,done)
 | r,done,p::todo=>if (zea M r c kind p.1).1=0 then ze2 M c kind (zea M r c kind p.1).2.2 (done++[(p.1,(zea M r c kind p.1).2.1,p.2.2)]) todo
  else ((zea M r c kind p.1).1,p.1,(zea M r c kind p.1).2.2,done++p::todo)
def zq3(m:By)(kind:Int):Qs→Int × Int
 | []=>(0,0)
 | q::l=>if zgg m q.2.1 q.2.2=true then zq3 m kind l else (afM kind,q.1)
def zbe(ea w:Int):Qs:=if w>64-ea % 64 then [(ea,0,64-ea % 64),(IntKind.u64.wrap (ea+(64-ea % 64)),0,w-(64-ea % 64))] else [(ea,0,w)]
def yxs(M:Tm)(c:Ct)(kind:Int)(W:Int × Int × Hn × Qs)(i:Nat)(qs:Qs)(r:Hn):Prop:=i≤qs.length∧qs.length≤2∧zaj r.m∧U64 c.2.2.2∧0≤c.1∧c.1≤2∧0≤kind∧kind≤2∧(∀q ∈ qs,U64 q.1)∧(∃j,M.inv (j+(qs.length-i)) r.k r.g1 r.g2)∧ze2 M c kind r (qs.take i) (qs.drop i)=W
def plsL(M:Tm)(c:Ct)(kind nx:Int)(W:Int × Int × Hn × Qs):LoopS where
 α:=Nat × Qs × Hn
 I x:=yxs M c kind W x.1 x.2.1 x.2.2
 sl x:=slots 82 [(0,.ptr 0 0),(1,.v (.int .i64 kind)),(9,.sl 9 3 0 x.2.1.length),(36,.v (.int .i64 x.2.1.length)),(37,.v (.int .i64 (x.1:Int)))]
 H x:=zh5 M x.2.2 c nx++[.arr shQ x.2.1 true]
 fams:=[{ β:=Unit,out:=fun _ _=>W.1=0,ex := .ext 0,sl:=fun _=>slots 82 [(0,.ptr 0 0),(1,.v (.int .i64 kind)),(9,.sl 9 3 0 W.2.2.2.length)],H:=fun _=>zh5 M W.2.2.1 c nx++[.arr shQ W.2.2.2 true] },
  { β:=Unit,out:=fun _ _=>¬ W.1=0,ex := .pan undef,pv:=fun _=>yai1 W.1 W.2.1,sl:=fun _=>slots 82 [],H:=fun _=>paH M W.2.2.1 }]
def QsR(qs:Qs):Prop:=qs.length≤2∧∀q ∈ qs,U64 q.1∧U64 q.2.1∧1≤q.2.2∧q.2.2≤8
def hldL(M:Tm)(c:Ct)(r:Hn)(kind nx:Int)(qs:Qs)(z:Int × Int):LoopS where
 α:=Nat
 I i:=i≤qs.length∧QsR qs∧SzR r.m.length∧0≤kind∧kind≤2∧zq3 r.m kind (qs.drop i)=z
 sl i:=slots 82 [(0,.ptr 0 0),(1,.v (.int .i64 kind)),(9,.sl 9 3 0 qs.length),(53,.sl 9 3 0 qs.length),(54,.v (.int .i64 qs.length)),(55,.v (.int .i64 (i:Int)))]
 H _:=zh5 M r c nx++[.arr shQ qs true]
 fams:=[{ β:=Unit,out:=fun _ _=>z.1=0,ex := .ext 2,sl:=fun _=>slots 82 [(9,.sl 9 3 0 qs.length)],H:=fun _=>zh5 M r c nx++[.arr shQ qs true] },
  { β:=Unit,out:=fun _ _=>¬ z.1=0,ex := .pan undef,pv:=fun _=>yai1 z.1 z.2,sl:=fun _=>slots 82 [],H:=fun _=>paH M r }]
def accX(M:Tm)(c:Ct)(kind nx:Int)(W:Int × Int × Hn × Qs)(z:Int × Int):Specs := .two 6 (plsL M c kind nx W) 11 (hldL M c W.2.2.1 kind nx W.2.2.2 z)
def zn2(M:Tm)(c0:Int)(c1 c2:Bool)(c3 kind nx W1 W2:Int)(W3:Hn)(W4:Qs)(i:Nat)(qs:Qs)(r:Hn):Prop:=zam Tryz.prog (yxg M) .none 9 (zag Tryz.f221 0) (plsL M (c0,c1,c2,c3) kind nx (W1,W2,W3,W4)) (fun x:Nat × Qs × Hn=>x.2.1.length-x.1) (i,qs,r)
def zn3(M:Tm)(c0:Int)(c1 c2:Bool)(c3:Int)(r:Hn)(kind nx:Int)(qs:Qs)(z1 z2:Int)(i:Nat):Prop:=zam Tryz.prog (yxg M) .none 9 (zag Tryz.f221 1) (hldL M (c0,c1,c2,c3) r kind nx qs (z1,z2)) (fun i:Nat=>qs.length-i) i
def zc8(M:Tm)(r:Hn)(c:Ct)(kind ea w:Int):Int × Int × Hn × Qs :=
 if ¬ (ze2 M c kind r [] (zbe ea w)).1=0 then ze2 M c kind r [] (zbe ea w)
 else ((zq3 (ze2 M c kind r [] (zbe ea w)).2.2.1.m kind (ze2 M c kind r [] (zbe ea w)).2.2.2).1,(zq3 (ze2 M c kind r [] (zbe ea w)).2.2.1.m kind (ze2 M c kind r [] (zbe ea w)).2.2.2).2,(ze2 M c kind r [] (zbe ea w)).2.2.1,(ze2 M c kind r [] (zbe ea w)).2.2.2)
def ybd(M:Tm)(r:Hn)(c0:Int)(c1 c2:Bool)(c3 kind nx ea w W1 W2:Int)(W3:Hn)(W4:Qs)(z1 z2:Int)(e v:Int):Prop:=zku Tryz.prog (yxg M) (accX M (c0,c1,c2,c3) kind nx (W1,W2,W3,W4) (z1,z2)) Tryz.f221 [.ptr 0 0,.v (.int .i64 kind),.v (.int .u64 ea),.v (.int .u64 w)] (zh5 M r (c0,c1,c2,c3) nx)
 [⟨false,.sl 9 3 0 W4.length,zh5 M W3 (c0,c1,c2,c3) nx++[.arr shQ W4 true],e=0⟩,⟨true,zjz e v,paH M W3,¬ e=0⟩]
def ylz(M:Tm)(r:Hn)(c:Ct)(kind ea w:Int):Prop:=zaj r.m∧U64 c.2.2.2∧0≤c.1∧c.1≤2∧0≤kind∧kind≤2∧U64 ea∧1≤w∧w≤8∧∃j,M.inv (j+2) r.k r.g1 r.g2
def accS(M:Tm)(pan:Bool):Sum:=fun args H=>match args with
 | [.ptr 0 0,.v (.int .i64 kind),.v (.int .u64 ea),.v (.int .u64 w)]=>match ytt H with
  | some (n,r,R1,R2,c,nx,X)=>some (some (M.is X R1 R2∧n=r.ln∧ylz M r c kind ea w∧(match pan with|false=>(zc8 M r c kind ea w).1=0|true=>¬ (zc8 M r c kind ea w).1=0)),
   (match pan with|false => .sl 9 3 0 (zc8 M r c kind ea w).2.2.2.length|true=>zjz (zc8 M r c kind ea w).1 (zc8 M r c kind ea w).2.1),(match pan with|false=>zh5 M (zc8 M r c kind ea w).2.2.1 c nx++[.arr shQ (zc8 M r c kind ea w).2.2.2 true]|true=>paH M (zc8 M r c kind ea w).2.2.1))
  | none=>none
 | _=>none
def ldM(m:By):Int→Int→Qs→Int
 | x,_,[]=>x
 | x,s,q::l=>ldM m (bits .or .u64 x (IntKind.u64.wrap (zbq ((m.drop q.2.1.toNat).take q.2.2.toNat)*2 ^ s.toNat))) (s+8*q.2.2) l
def sdM:Int→Qs→Int
 | s,[]=>s
 | s,q::l=>sdM (s+8*q.2.2) l
def stM:By→Int→Qs→By × Int
 | m,x,[]=>(m,x)
 | m,x,q::l=>stM (zg0 m q.2.1.toNat (zce x q.2.2.toNat)) (x/2 ^ (8*q.2.2).toNat) l
def InQ(m:By)(qs:Qs):Prop:=QsR qs∧zaj m∧∀q ∈ qs,zsq m q.2.1 q.2.2
def ldL(M:Tm)(c:Ct)(r:Hn)(nx:Int)(qs:Qs):LoopS where
 α:=Nat
 I i:=i≤qs.length∧InQ r.m qs
 sl i:=slots 38 [(0,.ptr 0 0),(5,.v (.int .u64 (ldM r.m 0 0 (qs.take i)))),(6,.v (.int .u64 (sdM 0 (qs.take i)))),(9,.sl 9 3 0 qs.length),(10,.v (.int .i64 qs.length)),(11,.v (.int .i64 (i:Int)))]
 H _:=zh5 M r c nx++[.arr shQ qs true]
 fams:=[{ β:=Unit,out:=fun _ _=>True,ex := .ext 0,sl:=fun _=>slots 38 [(5,.v (.int .u64 (ldM r.m 0 0 qs)))],H:=fun _=>zh5 M r c nx++[.arr shQ qs true] }]
def yxh:Dict:=mkD (kB3++kA4) [] []
def zn1(M:Tm)(c0:Int)(c1 c2:Bool)(c3:Int)(r:Hn)(nx:Int)(qs:Qs)(i:Nat):Prop:=zam Tryz.prog yxh (.one 3 (ldL M (c0,c1,c2,c3) r nx qs)) 10 (zag Tryz.f220 0) (ldL M (c0,c1,c2,c3) r nx qs) (fun i:Nat=>qs.length-i) i
def ywk(M:Tm)(c0:Int)(c1 c2:Bool)(c3:Int)(r:Hn)(nx:Int)(qs:Qs):Prop:=zi1 Tryz.prog yxh (.one 3 (ldL M (c0,c1,c2,c3) r nx qs)) Tryz.f220 [.ptr 0 0,.sl 9 3 0 qs.length] (zh5 M r (c0,c1,c2,c3) nx++[.arr shQ qs true]) (.v (.int .u64 (ldM r.m 0 0 qs))) (zh5 M r (c0,c1,c2,c3) nx++[.arr shQ qs true])
def getQ(H:Heap):Option ((Ln × Hn × Rx × Rx × Ct × Int × Xx) × Qs):=match ytt (H.take 9),H.drop 9 with
 | some x,[.arr sh qs true]=>if e:sh=shQ then some (x,(e ▸ qs:List (El shQ))) else none
 | _,_=>none
def ldS(M:Tm):Sum:=fun args H=>match args with
 | [.ptr 0 0,.sl 9 3 0 l]=>match getQ H with
  | some ((n,r,R1,R2,c,nx,X),qs)=>some (some (M.is X R1 R2∧n=r.ln∧l=qs.length∧InQ r.m qs),.v (.int .u64 (ldM r.m 0 0 qs)),zh5 M r c nx++[.arr shQ qs true])
  | none=>none
 | _=>none
def stL(M:Tm)(c:Ct)(r:Hn)(nx:Int)(qs:Qs)(x:Int):LoopS where
 α:=Nat
 I i:=i≤qs.length∧InQ r.m qs∧U64 x
 sl i:=slots 33 [(0,.ptr 0 0),(2,.v (.int .u64 (stM r.m x (qs.take i)).2)),(8,.sl 9 3 0 qs.length),(9,.v (.int .i64 qs.length)),(10,.v (.int .i64 (i:Int)))]
 H i:=zh5 M { r with m:=(stM r.m x (qs.take i)).1 } c nx++[.arr shQ qs true]
 fams:=[{ β:=Unit,out:=fun _ _=>True,ex := .ext 0,sl:=fun _=>slots 33 [],H:=fun _=>zh5 M { r with m:=(stM r.m x qs).1 } c nx++[.arr shQ qs true] }]
def zkw(M:Tm)(c0:Int)(c1 c2:Bool)(c3:Int)(r:Hn)(nx:Int)(qs:Qs)(x:Int)(i:Nat):Prop:=zam Tryz.prog yxh (.one 1 (stL M (c0,c1,c2,c3) r nx qs x)) 10 (zag Tryz.f222 0) (stL M (c0,c1,c2,c3) r nx qs x) (fun i:Nat=>qs.length-i) i
def ypo(M:Tm)(c0:Int)(c1 c2:Bool)(c3:Int)(r:Hn)(nx:Int)(qs:Qs)(x:Int):Prop:=zi1 Tryz.prog yxh (.one 1 (stL M (c0,c1,c2,c3) r nx qs x)) Tryz.f222 [.ptr 0 0,.sl 9 3 0 qs.length,.v (.int .u64 x)] (zh5 M r (c0,c1,c2,c3) nx++[.arr shQ qs true]) (.tup []) (zh5 M { r with m:=(stM r.m x qs).1 } (c0,c1,c2,c3) nx++[.arr shQ qs true])
def stS(M:Tm):Sum:=fun args H=>match args with
 | [.ptr 0 0,.sl 9 3 0 l,.v (.int .u64 x)]=>match getQ H with
  | some ((n,r,R1,R2,c,nx,X),qs)=>some (some (M.is X R1 R2∧n=r.ln∧l=qs.length∧InQ r.m qs∧U64 x),.tup [],zh5 M { r with m:=(stM r.m x qs).1 } c nx++[.arr shQ qs true])
  | none=>none
 | _=>none
set_option linter.unusedVariables false
set_option maxRecDepth 10000
theorem zyb(M:Tm)(r:Hn)(c0:Int)(c1 c2:Bool)(c3 nx e v:Int)(z:Hn):ybc M r c0 c1 c2 c3 nx e v z=(
 let A0:=(zea M r (c0,c1,c2,c3) 0 r.3).2;
 let A1(a:Tl):=List.length a.2.2;
 let A2(a:Hn):=List.length a.1;
 let A3(a:Hn):=a.13.2.2;
 let A4(a:Hn):=a.13.2.1;
 let A5(a:Hn):=a.13.1;
 let A6(a:Hn):=List.length a.2;
 let A7(a b c:Prop):=a∧b∧c;
 let A8:=(0:Nat)=0;
 let A9:=A0.2;
 let Aa(a b c d e f g h i:Prop):=A7 a b (A7 c d (A7 e f (A7 g h i)));
 let Ab(a:Value):=Value.iface (127:TypeId) a;
 let Ac(a:Int):=a=0;
 let Ad(a b:Tl):=a.2.1=b.2.1;
 let Ae(a b:Tl):=a.2.2=b.2.2;
 let Af:=(A2 r,A6 r,A1 (A5 r),A1 (A4 r),A1 (A3 r));
 let Ah:=A2 A9;
 let Ai(a b:Int):=Value.agg ({ toList:=(Value.int IntKind.i64 a::Value.int IntKind.u64 b::[]) });
 let Aj:=(c0,c1,c2,c3);
 let Ak:=(zea M r Aj 0 r.3).1;
 let Al(a b c d:Prop):=a∧A7 b c d;
 let Am(a:Hn)(b:Tl):=Aa A8 (A6 z=A6 a) (z.3=a.3) (z.4=a.4) (z.5=a.5) (z.6=a.6) (z.7=a.7) (z.8=a.8) (Aa (z.9=a.9) (z.10=a.10) (z.11=a.11) (z.12=a.12) ((A5 z).1=(A5 a).1) (Ad (A5 z) (A5 a)) A8 (A1 (A5 z) =
  A1 (A5 a)) (Aa ((A4 z).1=b.1) (Ad (A4 z) b) A8 (A1 (A4 z)=A1 (A4 a)) ((A3 z).1=(A3 a).1) (Ad (A3 z) (A3 a)) A8 (A1 (A3 z)=A1 (A3 a)) (Aa (z.1=a.1) (z.2=a.2) (Ae (A5 z) (A5 a)) (Ae (A4 z) b) (Ae (A3 z) (A3 a)) (z.14 =
  a.14) (M.2=M.2) (z.15=a.15) (M.3=M.3))));
 let An(a:Int)(b:Hn):=Value.iface 127 (Ai a b.3);
 let Ao(a:Prop)(b:Value):=a→False∨Al (Ab (Ai e v)=b) A8 (A2 z=Ah) (Am A9 (A4 A9))∧¬Ac e;
 let Ap(a:Prop):=Al (A7 (M.1=M.1) (M.2=M.2) (M.3=M.3)) (Af=Af) a (¬Ac Ak);
 let Aq := !zgg A9.1 A0.1 4;
 let Ar(a:Prop):=Al (A7 (M.1=M.1) (M.2=M.2) (M.3=M.3)) (Af=Af) a (Ac Ak);
 let Au:=r.3.tmod 4 != 0;
 let Aw(a:Nat):=OkT M a r.1 Aj 0 r.3 r.13 r.14 r.15;
 A7 ((4:Int)≠0) (Au=true→False∨Al (Ab (Ai e v)=An 20 r) A8 (A2 z=A2 r) (Am r (A4 r))∧¬Ac e) (Au=false→A7 (Ar (∃(x0:Nat),Aw x0)∨Ap (∃(x0:Nat),Aw x0)) (Ar (∃(x0:Nat),Aw x0)→A7 (A7 (Ah =
  Ah) (SzR Ah) ((0:PmT [u64])≤4)) (Ao (Aq=true) (An 1 A9)) (Aq=false→(Ah=Ah∧zsq A9.1 A0.1 4)∧((v=zbq (List.take (4:Int).toNat (List.drop A0.1.toNat A9.1))∧Aa (c0=c0) (c1=c1) (c2=c2)
  (c3=c3) (M.1=M.1) (nx=nx) A8 (A2 z=Ah) (Am A9 (A4 A9)))∧Ac e∨False))) (Ao (Ap (∃(x0:Nat),Aw x0)) (Ab (Ai Ak r.3))))):=by kernel_rfl
theorem zoz(M:Tm)(c0:Int)(c1 c2:Bool)(c3 kind nx W1 W2:Int)(W3:Hn)(W4:Qs)(i:Nat)(qs:Qs)(r:Hn):zn2 M c0 c1 c2 c3 kind nx W1 W2 W3 W4 i qs r=(
 let A0:=(0:Nat)+(↑i:Int).toNat;
 let A1:=(c0,c1,c2,c3);
 let A2(a:Tl):=List.length a.2.2;
 let A3:=zea M r A1 kind (List.getD qs A0 (El.zero shQ)).1;
 let A4(a:Hn):=a.13.2.2;
 let A5(a:Nat × Qs × Hn):=a.2.2;
 let A6(a:Hn):=a.13.2.1;
 let A7(a:Hn):=List.length a.2;
 let A8(a:Hn):=List.length a.1;
 let A9(a:Hn):=a.13.1;
 let Aa(a b c:Prop):=a∧b∧c;
 let Ab(a b c d e:Prop):=Aa a b (Aa c d e);
 let Ac:=(0:Nat)=0;
 let Ad:=List.length qs;
 let Ae(a:Hn):=A2 (A9 a);
 let Af(a b c d e f g h i:Prop):=Ab a b c d (Ab e f g h i);
 let Ah(a:Hn):=A2 (A6 a);
 let Ai:=A3.2.2;
 let Aj(a:Hn):=A2 (A4 a);
 let Ak(a b c d e f g h i j k l m n o p q:Prop):=Af a b c d e f g h (Af i j k l m n o p q);
 let Al:=(↑i:Int);
 let Am:=List.getD qs A0 (El.zero shQ);
 let An(a:Hn):=(A9 a).1;
 let Ao(a b:Tl):=a.2.1=b.2.1;
 let Ap(a b:Tl):=a.2.2=b.2.2;
 let Aq:=(A8 r,A7 r,Ae r,Ah r,Aj r);
 let Ar(a:Hn):=(A6 a).1;
 let Au(a:Hn):=(A4 a).1;
 let Aw(a b:Hn)(c:Prop):=Ak (Ao (A6 a) (A6 b)) Ac (Ah a=Ah b) (Au a=Au b) (Ao (A4 a) (A4 b)) Ac (Aj a=Aj b) (a.1=b.1) (a.2=b.2) (Ap (A9 a) (A9 b)) (Ap (A6 a) (A6 b)) (Ap (A4 a) (A4 b)) (a.14=b.14) (M.2=M.2) (a.15 =
  b.15) (M.3=M.3) c;
 let Ax(a:Nat × Qs × Hn):=List.length a.2.1;
 let Ay:=W1=0;
 let Az(a:Qs):=List.length a=Ad;
 let AB(a:Bool)(b:Prop):=decide (Al<(↑Ad:Int))=a→b;
 let AC(a:Int)(b:Value):=Value.iface (127:TypeId) (Value.agg ({ toList:=(Value.int IntKind.i64 a::b::[]) }));
 let AD:=(0:Int)≤Al∧Al<(↑Ad:Int);
 let AE(a b c d e:Prop)(f g:Hn)(h:Prop):=Ab a b c (c0=c0) (Af (c1=c1) (c2=c2) (c3=c3) (M.1=M.1) (nx=nx) Ac d Ac (Ak e (f.3=g.3) (f.4=g.4) (f.5=g.5) (f.6=g.6) (f.7=g.7) (f.8=g.8) (f.9=g.9) (f.10=g.10)
  (f.11=g.11) (f.12=g.12) (An f=An g) (Ao (A9 f) (A9 g)) Ac (Ae f=Ae g) (Ar f=Ar g) h));
 let AF(a:Prop):=Aa (M.1=M.1) (M.2=M.2) (M.3=M.3)∧Aa (Aq=Aq) a (¬A3.1=0);
 let AG(a:Prop):=Aa (M.1=M.1) (M.2=M.2) (M.3=M.3)∧Aa (Aq=Aq) a (A3.1=0);
 let AH(a:Nat):=OkT M a r.1 A1 kind Am.1 r.13 r.14 r.15;
 AB true (Ab AD (A0<Ad) (AG (∃(x0:Nat),AH x0)∨AF (∃(x0:Nat),AH x0)) (AG (∃(x0:Nat),AH x0)→Aa AD (A0<Ad) (∃(x1:Nat × Qs × Hn),Ab (Aa (kind=kind) Ac (AE (Az x1.2.1) ((↑(Ax x1):Int)=(↑Ad:Int))
  ((↑x1.1:Int)=IntKind.i64.wrap (Al+1)) (A8 (A5 x1)=A8 Ai) (A7 (A5 x1)=A7 Ai) (A5 x1) Ai (Aw (A5 x1) Ai (x1.2.1=List.set qs A0 (Am.1,A3.2.1,Am.2.2))))) (yxs M A1 kind (W1,W2,W3,W4) x1.1
  x1.2.1 (A5 x1)) (Ax x1-x1.1<Ad-i) (∀(x2:Unit),Ay→Ay) (∀(x3:Unit),¬Ay→¬Ay))) (AF (∃(x0:Nat),AH x0)→∃(x4:Unit),Aa (Aa Ac (A8 W3=A8 Ai) (Ak Ac (A7 W3=A7 Ai) (W3.3=Ai.3) (W3.4=Ai.4) (W3.5 =
  Ai.5) (W3.6=Ai.6) (W3.7=Ai.7) (W3.8=Ai.8) (W3.9=Ai.9) (W3.10=Ai.10) (W3.11=Ai.11) (W3.12=Ai.12) (An W3=An Ai) (Ao (A9 W3) (A9 Ai)) Ac (Ae W3=Ae Ai) (Ak (Ar W3=Ar Ai) (Ao (A6 W3) (A6 Ai)) Ac (Ah W3=Ah Ai) (Au W3=Au
  Ai) (Ao (A4 W3) (A4 Ai)) Ac (Aj W3=Aj Ai) (W3.1=Ai.1) (W3.2=Ai.2) (Ap (A9 W3) (A9 Ai)) (Ap (A6 W3) (A6 Ai)) (Ap (A4 W3) (A4 Ai)) (W3.14=Ai.14) (M.2=M.2) (W3.15=Ai.15) (M.3=M.3)))) (AC W1 (Value.int IntKind.u64 W2)=AC A3.1
  (Value.int IntKind.u64 Am.1)) (¬Ay)))∧AB false (∃(x5:Unit),AE (kind=kind) Ac (Az W4) (A8 W3=A8 r) (A7 W3=A7 r) W3 r (Aw W3 r (W4=qs))∧Ay)):=by kernel_rfl
theorem zo0(M:Tm)(c0:Int)(c1 c2:Bool)(c3:Int)(r:Hn)(kind nx:Int)(qs:Qs)(z1 z2:Int)(i:Nat):zn3 M c0 c1 c2 c3 r kind nx qs z1 z2 i=(
 let A0:=List.length qs;
 let A1(a b c:Prop):=a∧b∧c;
 let A2(a:Tl):=List.length a.2.2;
 let A3(a b c d e:Prop):=A1 a b (A1 c d e);
 let A4:=(0:Nat)=0;
 let A5(a b c d e f g h i:Prop):=A3 a b c d (A3 e f g h i);
 let A6:=List.length r.2;
 let A7(a b c d e f g h i j k l m n o p q:Prop):=A5 a b c d e f g h (A5 i j k l m n o p q);
 let A8:=r.13.2.1;
 let A9:=r.13.1;
 let Aa:=(0:Nat)+(↑i:Int).toNat;
 let Ab:=r.13.2.2.1;
 let Ac(a:Tl):=A2 a=A2 a;
 let Ad(a:Tl):=a.2.1=a.2.1;
 let Ae(a:Tl):=a.2.2=a.2.2;
 let Af:=r.13.2.2;
 let Ah:=(↑i:Int);
 let Ai:=List.getD qs Aa (El.zero shQ);
 let Aj:=A9.1;
 let Ak:=z1=0;
 let Al:=(0:Int)≤kind;
 let Am:=kind≤2;
 let An:=decide (Ah<(↑A0:Int));
 let Ao:=List.length r.1;
 let Ap(a:Int)(b:Value):=Value.agg ({ toList:=(Value.int IntKind.i64 a::b::[]) });
 let Aq:=A7 (A6=A6) (r.3=r.3) (r.4=r.4) (r.5=r.5) (r.6=r.6) (r.7=r.7) (r.8=r.8) (r.9=r.9) (r.10=r.10) (r.11=r.11) (r.12=r.12) (Aj=Aj) (Ad A9) A4 (Ac A9) (A8.1=A8.1) (A7 (Ad A8) A4 (Ac A8) (Ab=Ab) (Ad Af) A4
  (Ac Af) (r.1=r.1) (r.2=r.2) (Ae A9) (Ae A8) (Ae Af) (r.14=r.14) (M.2=M.2) (r.15=r.15) (M.3=M.3) (qs=qs));
 let Ar := !zgg r.1 Ai.2.1 Ai.2.2;
 let Au:=SzR (List.length r.1);
 (An=true→A3 ((0:Int)≤Ah∧Ah<(↑A0:Int)) (Aa<A0) (A1 (Ao=Ao) Au ((0:PmT [u64])≤Ai.2.2)) (Ar=true→(Al∧Am)∧∃(x0:Unit),A1 (A1 A4 (Ao=Ao) (A7 A4 (A6=A6) (r.3=r.3) (r.4=r.4) (r.5=r.5) (r.6=r.6)
  (r.7=r.7) (r.8=r.8) (r.9=r.9) (r.10=r.10) (r.11=r.11) (r.12=r.12) (Aj=Aj) (Ad A9) A4 (Ac A9) (A7 (A8.1=A8.1) (Ad A8) A4 (Ac A8) (Ab=Ab) (Ad Af) A4 (Ac Af) (r.1=r.1) (r.2=r.2) (Ae A9) (Ae A8) (Ae Af) (r.14=r.14)
  (M.2=M.2) (r.15=r.15) (M.3=M.3)))) (Value.iface (127:TypeId) (Ap z1 (Value.int IntKind.u64 z2))=Value.iface 127 (Ap (afM kind) (Value.int IntKind.u64 Ai.1))) (¬Ak)) (Ar=false→∃(x1:Nat),A3 (A7 (kind=kind) A4
  (A0=A0) A4 (A0=A0) ((↑A0:Int)=(↑A0:Int)) ((↑x1:Int)=IntKind.i64.wrap (Ah+1)) (c0=c0) (c1=c1) (c2=c2) (c3=c3) (M.1=M.1) (nx=nx) A4 (Ao=Ao) A4 Aq) (x1≤A0∧A3 (QsR qs) Au Al Am (zq3 r.1 kind
  (List.drop x1 qs)=(z1,z2))) (A0-x1<A0-i) (∀(x2:Unit),Ak→Ak) (∀(x3:Unit),¬Ak→¬Ak)))∧(An=false→∃(x4:Unit),(A4∧A1 (A0=A0) (c0=c0) (A5 (c1=c1) (c2=c2) (c3=c3) (M.1=M.1) (nx=nx) A4 (Ao=Ao) A4
  Aq))∧Ak)):=by kernel_rfl
theorem zyw(M:Tm)(r:Hn)(c0:Int)(c1 c2:Bool)(c3 kind nx ea w W1 W2:Int)(W3:Hn)(W4:Qs)(z1 z2:Int)(e v:Int):ybd M r c0 c1 c2 c3 kind nx ea w W1 W2 W3 W4 z1 z2 e v=(
 let A0(a:Hn):=a.13.2.2;
 let A1(a b c:Prop):=a∧b∧c;
 let A2(a:Hn):=a.13.1;
 let A3(a:Tl):=List.length a.2.2;
 let A4(a:Nat × Qs × Hn):=a.2.2;
 let A5(a b c d e:Prop):=A1 a b (A1 c d e);
 let A6:=(0:Nat)=0;
 let A7(a:Hn):=a.13.2.1;
 let A8(a:Tl):=a.2.2;
 let A9(a b c d e f g h i:Prop):=A5 a b c d (A5 e f g h i);
 let Aa(a:Hn):=List.length a.1;
 let Ab(a:Hn):=List.length a.2;
 let Ac(a b c d e f g h i j k l m n o p q:Prop):=A9 a b c d e f g h (A9 i j k l m n o p q);
 let Ad:=A7 W3;
 let Ae:=List.length W4;
 let Af(a:Value):=Value.iface (127:TypeId) a;
 let Ah(a:List Value):=Value.agg ({ toList:=a });
 let Ai(a:Int):=a=0;
 let Aj:=A2 W3;
 let Ak:=A0 W3;
 let Al(a b:Tl):=a.2.1=b.2.1;
 let Am(a b:Tl):=A3 a=A3 b;
 let An(a b:Tl):=a.1=b.1;
 let Ao(a:Int)(b:List Value):=Value.int IntKind.i64 a::b;
 let Ap(a:Int):=IntKind.u64.wrap a;
 let Aq(a:Int):=Value.int IntKind.u64 a::[];
 let Ar(a b c d e f:Prop)(g h:Hn)(i j k l m n:Prop)(o p:Tl)(q r s:Prop)(t u:Tl)(v w x:Prop):=Ac a b c d e f (g.8=h.8) (g.9=h.9) (g.10=h.10) (g.11=h.11) (g.12=h.12) i j A6 k l (Ac m A6 n (An o p) (Al o p) A6
  (Am o p) q r s (A8 t=A8 u) (A8 o=A8 p) v (M.2=M.2) w (M.3=M.3) x);
 let Au:=Aa W3;
 let Aw(a b:Int):=¬Ai a→False∨(Af (Ah (Ao e (Aq v)))=Af (Ah (Ao a (Aq b)))∧A1 A6 (Au=Au) (Ac A6 (Ab W3=Ab W3) (W3.3=W3.3) (W3.4=W3.4) (W3.5=W3.5) (W3.6=W3.6) (W3.7=W3.7) (W3.8=W3.8) (W3.9=W3.9) (W3.10=W3.10)
  (W3.11=W3.11) (W3.12=W3.12) (An Aj Aj) (Al Aj Aj) A6 (Am Aj Aj) (Ac (An Ad Ad) (Al Ad Ad) A6 (Am Ad Ad) (An Ak Ak) (Al Ak Ak) A6 (Am Ak Ak) (W3.1=W3.1) (W3.2=W3.2) (A8 Aj=A8 Aj) (A8 Ad=A8 Ad) (A8 Ak=A8 Ak) (W3.14=W3.14) (M.2
  = M.2) (W3.15=W3.15) (M.3=M.3))))∧¬Ai e;
 let Ax(a:Nat × Qs × Hn):=A2 (A4 a);
 let Ay(a:Nat × Qs × Hn):=a.2.1;
 let Az:=Ar (Ab W3=Ab W3) (W3.3=W3.3) (W3.4=W3.4) (W3.5=W3.5) (W3.6=W3.6) (W3.7=W3.7) W3 W3 (An Aj Aj) (Al Aj Aj) (Am Aj Aj) (An Ad Ad) (Al Ad Ad) (Am Ad Ad) Ak Ak (W3.1=W3.1) (W3.2=W3.2) (A8 Aj=A8 Aj) Ad Ad (W3.14 =
  W3.14) (W3.15=W3.15) (W4=W4);
 let AB(a:Nat × Qs × Hn)(b:Nat)(c:Int)(d:List (El [Ty.i IntKind.u64,Ty.i IntKind.u64,Ty.i IntKind.u64]))(e f:Prop):=A1 (kind=kind) A6 (A5 (List.length (Ay a)=b) ((↑(List.length (Ay a)):Int)=(↑b:Int)) (Ai (↑a.1
  : Int)) (c0=c0) (A9 (c1=c1) (c2=c2) (c3=c3) (M.1=M.1) (nx=nx) A6 (Aa (A4 a)=Aa r) A6 (Ar (Ab (A4 a)=Ab r) ((A4 a).3=r.3) ((A4 a).4=r.4) ((A4 a).5=r.5) ((A4 a).6=r.6) ((A4 a).7=r.7) (A4 a) r (An (Ax a) (A2 r)) (Al
  (Ax a) (A2 r)) (Am (Ax a) (A2 r)) (An (A7 (A4 a)) (A7 r)) (Al (A7 (A4 a)) (A7 r)) (Am (A7 (A4 a)) (A7 r)) (A0 (A4 a)) (A0 r) ((A4 a).1=r.1) ((A4 a).2=r.2) (A8 (Ax a)=A8 (A2 r)) (A7 (A4 a)) (A7 r) ((A4 a).14=r.14) ((A4 a).15=r.15)
  (Ay a=(ea,0,c)::d))))∧A1 e f (∀(x5:Unit),Aw W1 W2);
 let AC:=(64:Int)-ea.tmod 64;
 let AD(a:Bool)(b:Prop):=decide (w>(Ap AC))=a→b;
 let AE(a:Nat × Qs × Hn):=yxs M (c0,c1,c2,c3) kind (W1,W2,W3,W4) a.1 (Ay a) (A4 a);
 let AF(a:Nat):=Ac (kind=kind) A6 (Ae=Ae) A6 (Ae=Ae) ((↑Ae:Int)=(↑Ae:Int)) (Ai (↑a:Int)) (c0=c0) (c1=c1) (c2=c2) (c3=c3) (M.1=M.1) (nx=nx) A6 (Au=Au) A6 Az∧A1 (a≤Ae∧A5 (QsR W4) (SzR Au) ((0:Int) ≤
  kind) (kind≤2) (zq3 W3.1 kind (List.drop a W4)=(z1,z2))) (∀(x3:Unit),Ai z1→(A6∧A1 (Ae=Ae) (c0=c0) (A9 (c1=c1) (c2=c2) (c3=c3) (M.1=M.1) (nx=nx) A6 (Au=Au) A6 Az))∧Ai e∨False) (∀(x4:Unit),Aw z1
  z2);
 A1 ((64:Int)≠0) (AD true (∃(x0:Nat × Qs × Hn),AB x0 2 (Ap AC) ((Ap (ea+Ap AC),0,Ap (w-Ap AC))::[]) (AE x0) (∀(x1:Unit),Ai W1→∃(x2:Nat),AF x2))) (AD false (∃(x6:Nat × Qs × Hn),AB
  x6 1 w [] (AE x6) (∀(x1:Unit),Ai W1→∃(x2:Nat),AF x2)))):=by kernel_rfl
theorem zvi(M:Tm)(c0:Int)(c1 c2:Bool)(c3:Int)(r:Hn)(nx:Int)(qs:Qs)(i:Nat):zn1 M c0 c1 c2 c3 r nx qs i=(
 let A0:=List.length qs;
 let A1(a b c:Prop):=a∧b∧c;
 let A2:=(↑i:Int);
 let A3(a:Tl):=List.length a.2.2;
 let A4:=List.length r.1;
 let A5(a b c d e:Prop):=A1 a b (A1 c d e);
 let A6:=(0:Nat)=0;
 let A7(a:Tl):=a.2.2;
 let A8(a b c d e f g h i:Prop):=A5 a b c d (A5 e f g h i);
 let A9(a:Tl):=a.2.1;
 let Aa:=r.13.2.1;
 let Ab(a:Int):=IntKind.u64.wrap a;
 let Ac:=r.13.1;
 let Ad:=r.13.2.2;
 let Ae:=(List.getD qs ((0:Nat)+A2.toNat) (El.zero shQ)).2;
 let Af(a:Nat):=sdM 0 (List.take a qs);
 let Ah(a:Nat):=ldM r.1 0 0 (List.take a qs);
 let Ai(a:Bool)(b:Prop):=decide (A2<(↑A0:Int))=a→b;
 let Aj:=A8 (c1=c1) (c2=c2) (c3=c3) (M.1=M.1) (nx=nx) A6 (A4=A4) A6 (A8 (List.length r.2=List.length r.2) (r.3=r.3) (r.4=r.4) (r.5=r.5) (r.6=r.6) (r.7=r.7) (r.8=r.8) (r.9=r.9) (A8 (r.10=r.10) (r.11=r.11)
  (r.12=r.12) (Ac.1=Ac.1) (A9 Ac=A9 Ac) A6 (A3 Ac=A3 Ac) (Aa.1=Aa.1) (A8 (A9 Aa=A9 Aa) A6 (A3 Aa=A3 Aa) (Ad.1=Ad.1) (A9 Ad=A9 Ad) A6 (A3 Ad=A3 Ad) (r.1=r.1) (A8 (r.2=r.2) (A7 Ac=A7 Ac) (A7 Aa=A7 Aa) (A7
  Ad=A7 Ad) (r.14=r.14) (M.2=M.2) (r.15=r.15) (M.3=M.3) (qs=qs)))));
 Ai true (A5 ((0:Int)≤A2∧A2<(↑A0:Int)) ((0:Nat)+A2.toNat<A0) (A4=A4∧zsq r.1 Ae.1 Ae.2) ((0:Int)≤Af i) (∃(x0:Nat),(Ah x0=bits BinOp.or IntKind.u64 (Ah i) (Ab (zbq (List.take (Int.toNat Ae.2) (List.drop
  (Int.toNat Ae.1) r.1))*2 ^ (min (Af i).toNat 64)))∧A1 (Af x0=Ab (Af i+Ab ((8:Int)*Ae.2))) A6 (A5 (A0=A0) ((↑A0:Int)=(↑A0:Int)) ((↑x0:Int)=IntKind.i64.wrap (A2+1)) (c0=c0) Aj))∧A1
  (x0≤A0∧A1 (QsR qs) (zaj r.1) (∀(x1:Int × Int × Int),List.Mem x1 qs→zsq r.1 x1.2.1 x1.2.2)) (A0-x0<A0-i) (∀(x2:Unit),True→True)))∧Ai false (∃(x3:Unit),A1 (ldM r.1 0 0 qs=Ah i)
  (c0=c0) Aj∧True)):=by kernel_rfl
theorem ydn(M:Tm)(c0:Int)(c1 c2:Bool)(c3:Int)(r:Hn)(nx:Int)(qs:Qs):ywk M c0 c1 c2 c3 r nx qs=(
 ∃(x:Nat),(ldM r.1 0 0 (List.take x qs)=0∧sdM 0 (List.take x qs)=0∧(0:Nat)=0∧List.length qs=List.length qs∧(↑(List.length qs):Int)=(↑(List.length qs):Int)∧(↑x :
 Int)=0∧c0=c0∧c1=c1∧c2=c2∧c3=c3∧M.1=M.1∧nx=nx∧(0:Nat)=0∧List.length r.1=List.length r.1∧(0:Nat)=0∧List.length r.2=List.length r.2∧r.3=r.3∧r.4=r.4∧r.5=r.5∧r.6
 = r.6∧r.7=r.7∧r.8=r.8∧r.9=r.9∧r.10=r.10∧r.11=r.11∧r.12=r.12∧r.13.1.1=r.13.1.1∧r.13.1.2.1=r.13.1.2.1∧(0:Nat)=0∧List.length r.13.1.2.2=List.length r.13.1.2.2 ∧
 r.13.2.1.1=r.13.2.1.1∧r.13.2.1.2.1=r.13.2.1.2.1∧(0:Nat)=0∧List.length r.13.2.1.2.2=List.length r.13.2.1.2.2∧r.13.2.2.1=r.13.2.2.1∧r.13.2.2.2.1 =
 r.13.2.2.2.1∧(0:Nat)=0∧List.length r.13.2.2.2.2=List.length r.13.2.2.2.2∧r.1=r.1∧r.2=r.2∧r.13.1.2.2=r.13.1.2.2∧r.13.2.1.2.2=r.13.2.1.2.2 ∧
 r.13.2.2.2.2=r.13.2.2.2.2∧r.14=r.14∧M.2=M.2∧r.15=r.15∧M.3=M.3∧qs=qs)∧(x≤List.length qs∧QsR qs∧zaj r.1∧∀(q:Int × Int × Int),List.Mem q qs→zsq r.1 q.2.1 q.2.2)∧∀(z:Unit),
 True→ldM r.1 0 0 qs=ldM r.1 0 0 qs∧c0=c0∧c1=c1∧c2=c2∧c3=c3∧M.1=M.1∧nx=nx∧(0:Nat)=0∧List.length r.1=List.length r.1∧(0:Nat)=0∧List.length r.2 =
 List.length r.2∧r.3=r.3∧r.4=r.4∧r.5=r.5∧r.6=r.6∧r.7=r.7∧r.8=r.8∧r.9=r.9∧r.10=r.10∧r.11=r.11∧r.12=r.12∧r.13.1.1=r.13.1.1∧r.13.1.2.1=r.13.1.2.1∧(0:Nat)=0 ∧
 List.length r.13.1.2.2=List.length r.13.1.2.2∧r.13.2.1.1=r.13.2.1.1∧r.13.2.1.2.1=r.13.2.1.2.1∧(0:Nat)=0∧List.length r.13.2.1.2.2=List.length r.13.2.1.2.2 ∧
 r.13.2.2.1=r.13.2.2.1∧r.13.2.2.2.1=r.13.2.2.2.1∧(0:Nat)=0∧List.length r.13.2.2.2.2=List.length r.13.2.2.2.2∧r.1=r.1∧r.2=r.2∧r.13.1.2.2=r.13.1.2.2 ∧
 r.13.2.1.2.2=r.13.2.1.2.2∧r.13.2.2.2.2=r.13.2.2.2.2∧r.14=r.14∧M.2=M.2∧r.15=r.15∧M.3=M.3∧qs=qs):=by kernel_rfl
theorem zsj(M:Tm)(c0:Int)(c1 c2:Bool)(c3:Int)(r:Hn)(nx:Int)(qs:Qs)(x:Int)(i:Nat):zkw M c0 c1 c2 c3 r nx qs x i=(
 let A0:=List.length qs;
 let A1(a b c:Prop):=a∧b∧c;
 let A2(a:By × Int):=List.length a.1;
 let A3(a b c d e:Prop):=A1 a b (A1 c d e);
 let A4:=(0:Nat)=0;
 let A5(a:Tl):=List.length a.2.2;
 let A6(a b c d e f g h i:Prop):=A3 a b c d (A3 e f g h i);
 let A7(a:Tl):=a.2.2;
 let A8(a:Tl):=a.2.1;
 let A9:=(0:Nat)+(↑i:Int).toNat;
 let Aa:=r.13.2.1;
 let Ab:=r.13.1;
 let Ac:=(↑i:Int);
 let Ad(a:Nat):=stM r.1 x (List.take a qs);
 let Ae:=r.13.2.2;
 let Af:=(List.getD qs A9 (El.zero shQ)).2;
 let Ah:=(Ad i).1;
 let Ai(a:Bool)(b:Prop):=decide (Ac<(↑A0:Int))=a→b;
 let Aj:=IntKind.u64.wrap ((8:Int)*Af.2);
 let Ak(a:By × Int)(b:By):=A6 (c1=c1) (c2=c2) (c3=c3) (M.1=M.1) (nx=nx) A4 (A2 a=A2 (Ad i)) A4 (A6 (List.length r.2=List.length r.2) (r.3=r.3) (r.4=r.4) (r.5=r.5) (r.6=r.6) (r.7=r.7) (r.8=r.8) (r.9=r.9)
  (A6 (r.10=r.10) (r.11=r.11) (r.12=r.12) (Ab.1=Ab.1) (A8 Ab=A8 Ab) A4 (A5 Ab=A5 Ab) (Aa.1=Aa.1) (A6 (A8 Aa=A8 Aa) A4 (A5 Aa=A5 Aa) (Ae.1=Ae.1) (A8 Ae=A8 Ae) A4 (A5 Ae=A5 Ae) (a.1=b) (A6 (r.2=r.2) (A7
  Ab=A7 Ab) (A7 Aa=A7 Aa) (A7 Ae=A7 Ae) (r.14=r.14) (M.2=M.2) (r.15=r.15) (M.3=M.3) (qs=qs)))));
 let Al:=(Ad i).2;
 Ai true (A3 ((0:Int)≤Ac∧Ac<(↑A0:Int)) (A9<A0) (A1 (A2 (Ad i)=A2 (Ad i)) (zsq Ah Af.1 Af.2) (U64 Al)) ((0:Int)≤Aj) (∃(x0:Nat),A1 ((Ad x0).2=Al/2 ^ (min Aj.toNat 64)) A4 (A3 (A0=A0) ((↑A0 :
  Int)=(↑A0:Int)) ((↑x0:Int)=IntKind.i64.wrap (Ac+1)) (c0=c0) (Ak (Ad x0) (zg0 Ah (Int.toNat Af.1) (zce Al (Int.toNat Af.2)))))∧A1 (A1 (x0≤A0) (A1 (QsR qs) (zaj r.1) (∀(x1:Int × Int × Int),List.Mem x1
  qs→zsq r.1 x1.2.1 x1.2.2)) (U64 x)) (A0-x0<A0-i) (∀(x2:Unit),True→True)))∧Ai false (∃(x3:Unit),(c0=c0∧Ak (stM r.1 x qs) Ah)∧True)):=by kernel_rfl
theorem zzj(M:Tm)(c0:Int)(c1 c2:Bool)(c3:Int)(r:Hn)(nx:Int)(qs:Qs)(x:Int):ypo M c0 c1 c2 c3 r nx qs x=(
 ∃(x_1:Nat),((stM r.1 x (List.take x_1 qs)).2=x∧(0:Nat)=0∧List.length qs=List.length qs∧(↑(List.length qs):Int)=(↑(List.length qs):Int)∧(↑x_1:Int)=0∧c0=c0∧c1=c1∧c2=c2∧c3=c3
 ∧ M.1=M.1∧nx=nx∧(0:Nat)=0∧List.length (stM r.1 x (List.take x_1 qs)).1=List.length r.1∧(0:Nat)=0∧List.length r.2=List.length r.2∧r.3=r.3∧r.4=r.4∧r.5=r.5∧r.6=r.6∧r.7=r.7 ∧
 r.8=r.8∧r.9=r.9∧r.10=r.10∧r.11=r.11∧r.12=r.12∧r.13.1.1=r.13.1.1∧r.13.1.2.1=r.13.1.2.1∧(0:Nat)=0∧List.length r.13.1.2.2=List.length r.13.1.2.2∧r.13.2.1.1 =
 r.13.2.1.1∧r.13.2.1.2.1=r.13.2.1.2.1∧(0:Nat)=0∧List.length r.13.2.1.2.2=List.length r.13.2.1.2.2∧r.13.2.2.1=r.13.2.2.1∧r.13.2.2.2.1=r.13.2.2.2.1
 ∧ (0:Nat)=0∧List.length r.13.2.2.2.2=List.length r.13.2.2.2.2∧(stM r.1 x (List.take x_1 qs)).1=r.1∧r.2=r.2∧r.13.1.2.2=r.13.1.2.2∧r.13.2.1.2.2=r.13.2.1.2.2 ∧
 r.13.2.2.2.2=r.13.2.2.2.2∧r.14=r.14∧M.2=M.2∧r.15=r.15∧M.3=M.3∧qs=qs)∧(x_1≤List.length qs∧(QsR qs∧zaj r.1∧∀(q:Int × Int × Int),List.Mem q qs→zsq r.1 q.2.1 q.2.2)∧U64 x)∧∀
 (z:Unit),True→c0=c0∧c1=c1∧c2=c2∧c3=c3∧M.1=M.1∧nx=nx∧(0:Nat)=0∧List.length (stM r.1 x qs).1=List.length (stM r.1 x qs).1∧(0:Nat)=0∧List.length r.2=List.length r.2
 ∧ r.3=r.3∧r.4=r.4∧r.5=r.5∧r.6=r.6∧r.7=r.7∧r.8=r.8∧r.9=r.9∧r.10=r.10∧r.11=r.11∧r.12=r.12∧r.13.1.1=r.13.1.1∧r.13.1.2.1=r.13.1.2.1∧(0:Nat)=0∧List.length
 r.13.1.2.2=List.length r.13.1.2.2∧r.13.2.1.1=r.13.2.1.1∧r.13.2.1.2.1=r.13.2.1.2.1∧(0:Nat)=0∧List.length r.13.2.1.2.2=List.length r.13.2.1.2.2 ∧
 r.13.2.2.1=r.13.2.2.1∧r.13.2.2.2.1=r.13.2.2.2.1∧(0:Nat)=0∧List.length r.13.2.2.2.2=List.length r.13.2.2.2.2∧(stM r.1 x qs).1=(stM r.1 x qs).1∧r.2=r.2
 ∧ r.13.1.2.2=r.13.1.2.2∧r.13.2.1.2.2=r.13.2.1.2.2∧r.13.2.2.2.2=r.13.2.2.2.2∧r.14=r.14∧M.2=M.2∧r.15=r.15∧M.3=M.3∧qs=qs):=by kernel_rfl
set_option linter.unusedSimpArgs false
set_option linter.unusedVariables false
theorem yt6{M:Tm}(hM:M.Ok Tryz.prog):zar Tryz.prog (kIB0 M) := .cons (by kernel_rfl) (yrh hM false) ((zmz.append zei).append zc4)
theorem zqa{M:Tm}(hM:M.Ok Tryz.prog):DictOk Tryz.prog (yxg M):=zay (yt6 hM) .nil (.cons (by kernel_rfl) (fun _=>yrh hM true) .nil)
theorem yg1{m:By}{a w:Int}(hm:zaj m)(h:zgg m a w=true)(h0:0≤a)(w0:0≤w)(w8:w≤8):zsq m a w:=by
 simp only[zgg,Bool.and_eq_true,decide_eq_true_eq] at h
 exact⟨hm,h0,w0,w8,by omega⟩
theorem yzm{M:Tm}(hM:M.Ok Tryz.prog){r:Hn}{c:Ct}{kind va:Int}{j:Nat}(h:OkT M j r.m c kind va r.k r.g1 r.g2):U64 (zea M r c kind va).2.1:=(hM.trV h).1
theorem yyo{M:Tm}(hM:M.Ok Tryz.prog){r:Hn}{c0:Int}{c1 c2:Bool}{c3 nx e v:Int}{z:Hn}(h:FetR M r (c0,c1,c2,c3))(hw:zid M r (c0,c1,c2,c3)=(e,v,z)):ybc M r c0 c1 c2 c3 nx e v z:=by
 obtain⟨hpc,j,hj⟩:=h
 have hk:∃j,OkT M j r.m (c0,c1,c2,c3) 0 r.pc r.k r.g1 r.g2:=⟨j,hj⟩
 have hpa:=yzm hM hj
 have hm:zaj r.m:=hj.1
 have em:(zea M r (c0,c1,c2,c3) 0 r.pc).2.2.m=r.m:=rfl
 have ep:(zea M r (c0,c1,c2,c3) 0 r.pc).2.2.pc=r.pc:=rfl
 have et:r.pc.tmod 4=r.pc % 4:=zb1 hpc.1
 have fin:∀{p:Prop}{A:Prop},(A∧p)→(A∧p):=fun h=>h
 unfold zid at hw
 refine zab (zyb M r c0 c1 c2 c3 nx e v z) ?_
 conv=>zeta
 refine⟨by decide,fun q => .inr ?_,fun q=>⟨?_,fun q1=>⟨⟨rfl,hm.1,by decide⟩,fun q2 => .inr ?_,fun q2=>⟨⟨rfl, ?_⟩,.inl ?_⟩⟩,fun q1 => .inr ?_⟩⟩
 · have q:¬ r.pc % 4=0:=by rw[et] at q;simpa using q
   rw[if_pos q] at hw
   cases hw
   refine⟨?_,by decide⟩
   repeat' apply And.intro
   all_goals rfl
 · have e:(zea M r (c0,c1,c2,c3) 0 r.pc).1=0∨¬ (zea M r (c0,c1,c2,c3) 0 r.pc).1=0:=by omega
   refine e.imp (fun e => ?_) (fun e => ?_)
   all_goals exact⟨⟨rfl,rfl,rfl⟩,rfl,hk,e⟩
 · have q:¬ ¬ r.pc % 4=0:=by rw[et] at q;simpa using q
   have q1:=q1.2.2.2
   have q2:¬ zgg r.m (zea M r (c0,c1,c2,c3) 0 r.pc).2.1 4=true:=by rw[em] at q2;simpa using q2
   rw[if_neg q,if_neg (fun n=>n q1),if_neg q2] at hw
   cases hw
   refine⟨?_,by decide⟩
   repeat' apply And.intro
   all_goals rfl
 · have q2:zgg r.m (zea M r (c0,c1,c2,c3) 0 r.pc).2.1 4=true:=by rw[em] at q2;simpa using q2
   exact yg1 hm q2 hpa.1 (by decide) (by decide)
 · have q:¬ ¬ r.pc % 4=0:=by rw[et] at q;simpa using q
   have q1:=q1.2.2.2
   have q2:zgg r.m (zea M r (c0,c1,c2,c3) 0 r.pc).2.1 4=true:=by rw[em] at q2;simpa using q2
   rw[if_neg q,if_neg (fun n=>n q1),if_pos q2] at hw
   cases hw
   refine⟨?_,by decide⟩
   repeat' apply And.intro
   all_goals rfl
 · have q:¬ ¬ r.pc % 4=0:=by rw[et] at q;simpa using q
   have q1:=q1.2.2.2
   rw[if_neg q,if_pos q1] at hw
   cases hw
   refine⟨?_,q1⟩
   repeat' apply And.intro
   all_goals rfl
theorem yqm{M:Tm}(hM:M.Ok Tryz.prog)(pan:Bool):zcp Tryz.prog (zw7 pan) 218 (fetS M pan):=by
 refine zek mixed Tryz.func218 (by kernel_rfl) pan (zqa hM) (fun args H p v H' h hp => ?_)
 unfold fetS at h
 split at h
 case h_2=>cases h
 split at h
 case h_2=>cases h
 rename_i n r R1 R2 c nx X hg
 simp only[Option.some.injEq,Prod.mk.injEq] at h
 obtain⟨rfl,rfl,rfl⟩:=h
 obtain⟨hx,hn,hf,hc⟩:=hp
 obtain rfl:=zmq hg hn hx
 obtain⟨c0,c1,c2,c3⟩:=c
 refine⟨.none,[⟨false,.v (.int .u64 (zid M r (c0,c1,c2,c3)).2.1),zh5 M (zid M r (c0,c1,c2,c3)).2.2 (c0,c1,c2,c3) nx,(zid M r (c0,c1,c2,c3)).1=0⟩,⟨true,zjz (zid M r (c0,c1,c2,c3)).1 (zid M r (c0,c1,c2,c3)).2.1,paH M (zid M r (c0,c1,c2,c3)).2.2,¬ (zid M r (c0,c1,c2,c3)).1=0⟩],zd5 (by kernel_rfl),yyo hM hf rfl,fun o ho hout => ?_⟩
 simp only[List.mem_cons,List.not_mem_nil,or_false] at ho
 rcases ho with rfl|rfl
 · cases pan with
   | false=>exact⟨rfl,rfl,rfl⟩
   | true=>exact absurd hout hc
 · cases pan with
   | false=>exact absurd hc hout
   | true=>exact⟨rfl,rfl,rfl⟩
theorem zpb{α:Type}{l:List α}{i:Nat}(h:i<l.length)(d:α):l.drop i=l.getD i d::l.drop (i+1):=by
 rw[List.getD_eq_getElem?_getD,List.getElem?_eq_getElem h]
 exact List.drop_eq_getElem_cons h
theorem yjn{α:Type}{l:List α}{i:Nat}(h:i<l.length)(d:α):l.take (i+1)=l.take i++[l.getD i d]:=by
 rw[List.getD_eq_getElem?_getD,List.getElem?_eq_getElem h]
 exact List.take_succ_eq_append_getElem h
theorem yod{α:Type}{l:List α}{i:Nat}(h:i<l.length)(x:α):(l.set i x).take (i+1)=l.take i++[x]:=by
 apply List.ext_getElem?
 intro j
 rw[List.getElem?_take,List.getElem?_set]
 rcases Nat.lt_trichotomy j i with q|q|q
 · rw[List.getElem?_append_left (by simp;omega),List.getElem?_take]
   simp[q,show j<i+1 by omega,show i≠j by omega]
 · subst q
   rw[List.getElem?_append_right (by simp;omega)]
   simp[h,show min j l.length=j by omega]
 · rw[List.getElem?_append_right (by simp;omega)]
   simp[show ¬ j<i+1 by omega,show min i l.length=i by omega,show ¬ j-i=0 by omega]
theorem yoc{α:Type}(l:List α)(i:Nat)(x:α):(l.set i x).drop (i+1)=l.drop (i+1):=by
 rw[List.drop_set];simp
theorem zlo{α:Type}{l:List α}{k:Nat}(h:k<l.length)(d:α):l.getD k d ∈ l:=by
 rw[List.getD_eq_getElem?_getD,List.getElem?_eq_getElem h]
 exact List.getElem_mem h
theorem yii{M:Tm}(hM:M.Ok Tryz.prog){c0:Int}{c1 c2:Bool}{c3 kind nx W1 W2:Int}{W3:Hn}{W4:Qs}{i:Nat}{qs:Qs}{r:Hn}(h:yxs M (c0,c1,c2,c3) kind (W1,W2,W3,W4) i qs r):zn2 M c0 c1 c2 c3 kind nx W1 W2 W3 W4 i qs r:=by
 obtain⟨h1,h2,h3,h4,h5,h6,h7,h8,h9,⟨j,h10⟩,h11⟩:=h
 have ei:0+(i:Int).toNat=i:=by omega
 refine zab (zoz M c0 c1 c2 c3 kind nx W1 W2 W3 W4 i qs r) ?_
 conv=>zeta
 refine⟨fun q => ?_,fun q => ?_⟩
 · have q:(i:Int)<qs.length:=of_decide_eq_true q
   have hlt:i<qs.length:=by omega
   have hp:=h9 _ (zlo hlt (El.zero shQ))
   have ed:=zpb hlt (El.zero shQ)
   rw[ei]
   rw[ed] at h11
   generalize qs.getD i (El.zero shQ)=p at *
   obtain⟨va,pa0,n⟩:Int × Int × Int:=p
   simp only at hp
   have hok:OkT M (j+(qs.length-(i+1))) r.m (c0,c1,c2,c3) kind va r.k r.g1 r.g2:=⟨h3,h4,h5,h6,h7,h8,hp,by rw[show j+(qs.length-(i+1))+1=j+(qs.length-i) by omega];exact h10⟩
   have hk:∃j,OkT M j r.m (c0,c1,c2,c3) kind va r.k r.g1 r.g2:=⟨_,hok⟩
   have hI:=hM.trI hok
   refine⟨⟨by omega,q⟩,hlt, ?_,fun q1=>⟨⟨by omega,q⟩,hlt,(i+1,qs.set i (va,(zea M r (c0,c1,c2,c3) kind va).2.1,n),(zea M r (c0,c1,c2,c3) kind va).2.2), ?_, ?_, ?_,fun _ h=>h,fun _ h=>h⟩,fun q1=>⟨(), ?_, ?_, ?_⟩⟩
   · have e:(zea M r (c0,c1,c2,c3) kind va).1=0∨¬ (zea M r (c0,c1,c2,c3) kind va).1=0:=by omega
     refine e.imp (fun e => ?_) (fun e => ?_)
     all_goals exact⟨⟨rfl,rfl,rfl⟩,rfl,hk,e⟩
   · have el:(qs.set i (va,(zea M r (c0,c1,c2,c3) kind va).2.1,n)).length=qs.length:=List.length_set
     have ew:IntKind.i64.wrap ((i:Int)+1)=((i+1:Nat):Int):=by rw[zaa (by omega) (by omega)];omega
     rw[ew]
     repeat' apply And.intro
     all_goals first|rfl|exact el|(show (_:Int)=_;rw[el])
   · have q1:=q1.2.2.2
     refine⟨by simp;omega,by simpa using h2,h3,h4,h5,h6,h7,h8,fun w hw => ?_,⟨j, ?_⟩, ?_⟩
     · rcases List.mem_or_eq_of_mem_set hw with hw|rfl
       · exact h9 w hw
       · exact hp
     · rw[List.length_set]
       exact hI
     · rw[yod hlt,yoc]
       rw[← h11]
       show _=ze2 M (c0,c1,c2,c3) kind r (qs.take i) ((va,pa0,n)::qs.drop (i+1))
       conv=>rhs;unfold ze2
       rw[if_pos q1]
   · simp;omega
   all_goals
    have q1:=q1.2.2.2
    have e:ze2 M (c0,c1,c2,c3) kind r (qs.take i) ((va,pa0,n)::qs.drop (i+1))=((zea M r (c0,c1,c2,c3) kind va).1,va,(zea M r (c0,c1,c2,c3) kind va).2.2,qs.take i++(va,pa0,n)::qs.drop (i+1)):=by
     conv=>lhs;unfold ze2
     rw[if_neg q1]
    rw[e] at h11
    simp only[Prod.mk.injEq] at h11
    obtain⟨rfl,rfl,rfl,rfl⟩:=h11
   · repeat' apply And.intro
     all_goals rfl
   · rfl
   · exact q1
 · have q:¬ (i:Int)<qs.length:=of_decide_eq_false q
   have e:i=qs.length:=by omega
   subst e
   rw[List.drop_length,List.take_length] at h11
   have e:ze2 M (c0,c1,c2,c3) kind r qs []=(0,0,r,qs):=by unfold ze2;rfl
   rw[e] at h11
   simp only[Prod.mk.injEq] at h11
   obtain⟨rfl,rfl,rfl,rfl⟩:=h11
   refine⟨(), ?_,rfl⟩
   repeat' apply And.intro
   all_goals rfl
theorem ygx{M:Tm}{c0:Int}{c1 c2:Bool}{c3:Int}{r:Hn}{kind nx:Int}{qs:Qs}{z1 z2:Int}{i:Nat}(h1:i≤qs.length)(h2:QsR qs)(h3:SzR r.m.length)(h4:0≤kind)(h5:kind≤2)(h6:zq3 r.m kind (qs.drop i)=(z1,z2)):zn3 M c0 c1 c2 c3 r kind nx qs z1 z2 i:=by
 have ei:0+(i:Int).toNat=i:=by omega
 have hl:=h2.1
 refine zab (zo0 M c0 c1 c2 c3 r kind nx qs z1 z2 i) ?_
 conv=>zeta
 refine⟨fun q => ?_,fun q => ?_⟩
 · have q:(i:Int)<qs.length:=of_decide_eq_true q
   have hlt:i<qs.length:=by omega
   have hp:=h2.2 _ (zlo hlt (El.zero shQ))
   rw[zpb hlt (El.zero shQ)] at h6
   rw[ei]
   generalize qs.getD i (El.zero shQ)=p at *
   obtain⟨va,pa,n⟩:Int × Int × Int:=p
   simp only at hp
   unfold zq3 at h6
   refine⟨⟨by omega,q⟩,hlt,⟨rfl,h3,by show (0:Int)≤n;omega⟩,fun q1=>⟨⟨h4,h5⟩,(), ?_, ?_, ?_⟩,fun q1=>⟨i+1, ?_,⟨by omega,h2,h3,h4,h5, ?_⟩,by omega,fun _ h=>h,fun _ h=>h⟩⟩
   · repeat' apply And.intro
     all_goals rfl
   · have q1:¬ zgg r.m pa n=true:=by simpa using q1
     rw[if_neg q1] at h6
     cases h6
     rfl
   · have q1:¬ zgg r.m pa n=true:=by simpa using q1
     rw[if_neg q1] at h6
     cases h6
     unfold afM;split<;>(try split)<;>decide
   · have ew:IntKind.i64.wrap ((i:Int)+1)=((i+1:Nat):Int):=by rw[zaa (by omega) (by omega)];omega
     rw[ew]
     repeat' apply And.intro
     all_goals rfl
   · have q1:zgg r.m pa n=true:=by simpa using q1
     rw[if_pos q1] at h6
     exact h6
 · have q:¬ (i:Int)<qs.length:=of_decide_eq_false q
   have e:i=qs.length:=by omega
   subst e
   rw[List.drop_length] at h6
   cases h6
   refine⟨(), ?_,rfl⟩
   repeat' apply And.intro
   all_goals rfl
theorem ya5{ea w:Int}(he:U64 ea)(w1:1≤w)(w8:w≤8):QsR (zbe ea w):=by
 obtain⟨e0,e1⟩:=he
 have m0:0≤ea % 64:=Int.emod_nonneg _ (by decide)
 have m1:ea % 64<64:=Int.emod_lt_of_pos _ (by decide)
 have hz:U64 0:=⟨by decide,by decide⟩
 unfold zbe
 split
 · refine⟨by simp,fun q hq => ?_⟩
   simp only[List.mem_cons,List.not_mem_nil,or_false] at hq
   rcases hq with rfl|rfl
   · exact⟨⟨e0,e1⟩,hz,by show 1≤64-ea % 64;omega,by show 64-ea % 64≤8;omega⟩
   · refine⟨?_,hz,by show 1≤w-(64-ea % 64);omega,by show w-(64-ea % 64)≤8;omega⟩
     show U64 (IntKind.u64.wrap _)
     rw[IntKind.wrap_u64]
     exact⟨Int.emod_nonneg _ (by decide),Int.emod_lt_of_pos _ (by decide)⟩
 · refine⟨by simp,fun q hq => ?_⟩
   simp only[List.mem_cons,List.not_mem_nil,or_false] at hq
   subst hq
   exact⟨⟨e0,e1⟩,hz,w1,w8⟩
theorem zxx{M:Tm}(hM:M.Ok Tryz.prog){c:Ct}{kind:Int}(h4:U64 c.2.2.2)(h5:0≤c.1)(h6:c.1≤2)(h7:0≤kind)(h8:kind≤2):∀(todo:Qs)(r:Hn)(done:Qs)(n:Nat),zaj r.m→(∀q ∈ todo,U64 q.1)→M.inv (n+todo.length) r.k r.g1 r.g2 →
 (ze2 M c kind r done todo).2.2.1=r.upd ((ze2 M c kind r done todo).2.2.1.k,(ze2 M c kind r done todo).2.2.1.g1,(ze2 M c kind r done todo).2.2.1.g2)∧M.inv n (ze2 M c kind r done todo).2.2.1.k (ze2 M c kind r done todo).2.2.1.g1 (ze2 M c kind r done todo).2.2.1.g2 ∧
 ((ze2 M c kind r done todo).1=0→∃zs:List Int,zs.length=todo.length∧(∀a ∈ zs,U64 a)∧(ze2 M c kind r done todo).2.2.2=done++List.zipWith (fun  (q:Qt) a=>(q.1,a,q.2.2)) todo zs)
 | [],r,done,n,_,_,hi=>⟨rfl,hi,fun _=>⟨[],rfl,(fun a ha=>(by cases ha)),(by simp[ze2])⟩⟩
 | p::todo,r,done,n,hm,hq,hi=>by
  have hp:=hq p (by simp)
  have hok:OkT M (n+todo.length) r.m c kind p.1 r.k r.g1 r.g2:=⟨hm,h4,h5,h6,h7,h8,hp,by rw[Nat.add_assoc];exact hi⟩
  have hI:=hM.trI hok
  have hV:=hM.trV hok
  unfold ze2
  split
  · obtain⟨a1,a2,a3⟩:=zxx hM h4 h5 h6 h7 h8 todo (zea M r c kind p.1).2.2 (done++[(p.1,(zea M r c kind p.1).2.1,p.2.2)]) n hm (fun q hq'=>hq q (by simp[hq'])) hI
    refine⟨a1,a2,fun h0 => ?_⟩
    obtain⟨zs,b1,b2,b3⟩:=a3 h0
    refine⟨(zea M r c kind p.1).2.1::zs,by simp[b1],fun a ha => ?_, ?_⟩
    · rcases List.mem_cons.1 ha with rfl|ha
      · exact hV.1
      · exact b2 a ha
    · rw[b3];simp
  · rename_i hne
    exact⟨rfl,hM.le hI (Nat.le_add_right _ _),fun h0=>absurd h0 hne⟩
theorem ysd{todo:Qs}{zs:List Int}(h:QsR todo)(hl:zs.length=todo.length)(ha:∀a ∈ zs,U64 a):QsR (List.zipWith (fun  (q:Qt) a=>(q.1,a,q.2.2)) todo zs):=by
 refine⟨by simp[hl];exact h.1,fun q hq => ?_⟩
 obtain⟨k,hk,e⟩:=List.mem_iff_getElem.1 hq
 rw[List.getElem_zipWith] at e
 simp only[List.length_zipWith] at hk
 obtain⟨g1,g2,g3,g4⟩:=h.2 _ (List.getElem_mem (by omega:k<todo.length))
 subst e
 exact⟨g1,ha _ (List.getElem_mem (by omega)),g3,g4⟩
theorem yxx{M:Tm}(hM:M.Ok Tryz.prog){r:Hn}{c0:Int}{c1 c2:Bool}{c3 kind nx ea w W1 W2:Int}{W3:Hn}{W4:Qs}{z1 z2 e v:Int}(h:ylz M r (c0,c1,c2,c3) kind ea w)(hW:ze2 M (c0,c1,c2,c3) kind r [] (zbe ea w)=(W1,W2,W3,W4))(hz:zq3 W3.m kind W4=(z1,z2))(he:(if ¬ W1=0 then (W1,W2) else (z1,z2))=(e,v)):ybd M r c0 c1 c2 c3 kind nx ea w W1 W2 W3 W4 z1 z2 e v:=by
 obtain⟨h1,h2,h3,h4,h5,h6,h7,h8,h9,j,h10⟩:=h
 have h10:M.inv (j+2) r.k r.g1 r.g2:=h10
 have m0:0≤ea % 64:=Int.emod_nonneg _ (by decide)
 have m1:ea % 64<64:=Int.emod_lt_of_pos _ (by decide)
 have et:ea.tmod 64=ea % 64:=zb1 h7.1
 have ew:IntKind.u64.wrap (64-ea % 64)=64-ea % 64:=zah (by omega) (by omega)
 have hs:=ya5 h7 h8 h9
 have hl:(zbe ea w).length≤2:=hs.1
 obtain⟨o1, -,o3⟩:=zxx hM h2 h3 h4 h5 h6 (zbe ea w) r [] (j+(2-(zbe ea w).length)) h1 (fun q hq=>(hs.2 q hq).1) (by rw[show j+(2-(zbe ea w).length)+(zbe ea w).length=j+2 by omega];exact h10)
 rw[hW] at o1 o3
 have em:W3.m=r.m:=by
  have:=congrArg Hn.m o1
  exact this
 have hP:∀qs:Qs,qs=zbe ea w→yxs M (c0,c1,c2,c3) kind (W1,W2,W3,W4) 0 qs r:=fun qs e=>by
  subst e
  exact⟨Nat.zero_le _,hl,h1,h2,h3,h4,h5,h6,fun q hq=>(hs.2 q hq).1,⟨j,hM.le h10 (by omega)⟩,hW⟩
 have tail:W1=0→QsR W4:=fun q=>by
  obtain⟨zs,b1,b2,b3⟩:=o3 q
  have b3:W4=_:=b3
  rw[b3]
  exact ysd hs b1 b2
 refine zab (zyw M r c0 c1 c2 c3 kind nx ea w W1 W2 W3 W4 z1 z2 e v) ?_
 conv=>zeta
 rw[et,ew]
 refine⟨by decide,fun q=>⟨(0,[(ea,0,64-ea % 64),(IntKind.u64.wrap (ea+(64-ea % 64)),0,w-(64-ea % 64))],r), ?_,hP _ ?_,fun _ q1=>⟨0, ?_,⟨Nat.zero_le _,tail q1,by rw[em];exact h1.1,h5,h6,hz⟩,fun _ q2 => .inl ?_,fun _ q2 => .inr ?_⟩,fun _ q1 => .inr ?_⟩,fun q=>⟨(0,[(ea,0,w)],r), ?_,hP _ ?_,fun _ q1=>⟨0, ?_,⟨Nat.zero_le _,tail q1,by rw[em];exact h1.1,h5,h6,hz⟩,fun _ q2 => .inl ?_,fun _ q2 => .inr ?_⟩,fun _ q1 => .inr ?_⟩⟩
 · have q:w>64-ea % 64:=of_decide_eq_true q
   have e3:IntKind.u64.wrap (w-(64-ea % 64))=w-(64-ea % 64):=zah (by omega) (by omega)
   rw[e3]
   repeat' apply And.intro
   all_goals rfl
 · have q:w>64-ea % 64:=of_decide_eq_true q
   unfold zbe
   rw[if_pos q]
 · repeat' apply And.intro
   all_goals rfl
 · rw[if_neg (fun n=>n q1)] at he
   cases he
   refine⟨?_,q2⟩
   repeat' apply And.intro
   all_goals rfl
 · rw[if_neg (fun n=>n q1)] at he
   cases he
   refine⟨?_,q2⟩
   repeat' apply And.intro
   all_goals rfl
 · rw[if_pos q1] at he
   cases he
   refine⟨?_,q1⟩
   repeat' apply And.intro
   all_goals rfl
 · repeat' apply And.intro
   all_goals rfl
 · have q:¬ w>64-ea % 64:=of_decide_eq_false q
   unfold zbe
   rw[if_neg q]
 · repeat' apply And.intro
   all_goals rfl
 · rw[if_neg (fun n=>n q1)] at he
   cases he
   refine⟨?_,q2⟩
   repeat' apply And.intro
   all_goals rfl
 · rw[if_neg (fun n=>n q1)] at he
   cases he
   refine⟨?_,q2⟩
   repeat' apply And.intro
   all_goals rfl
 · rw[if_pos q1] at he
   cases he
   refine⟨?_,q1⟩
   repeat' apply And.intro
   all_goals rfl
theorem ysx(M:Tm)(r:Hn)(c:Ct)(kind ea w:Int):zc8 M r c kind ea w=((if ¬ (ze2 M c kind r [] (zbe ea w)).1=0 then ((ze2 M c kind r [] (zbe ea w)).1,(ze2 M c kind r [] (zbe ea w)).2.1) else zq3 (ze2 M c kind r [] (zbe ea w)).2.2.1.m kind (ze2 M c kind r [] (zbe ea w)).2.2.2).1,
 (if ¬ (ze2 M c kind r [] (zbe ea w)).1=0 then ((ze2 M c kind r [] (zbe ea w)).1,(ze2 M c kind r [] (zbe ea w)).2.1) else zq3 (ze2 M c kind r [] (zbe ea w)).2.2.1.m kind (ze2 M c kind r [] (zbe ea w)).2.2.2).2,(ze2 M c kind r [] (zbe ea w)).2.2.1,(ze2 M c kind r [] (zbe ea w)).2.2.2):=by
 unfold zc8
 split<;>rfl
theorem yqc{M:Tm}(hM:M.Ok Tryz.prog)(pan:Bool):zcp Tryz.prog (zw7 pan) 221 (accS M pan):=by
 refine zek mixed Tryz.func221 (by kernel_rfl) pan (zqa hM) (fun args H p v H' h hp => ?_)
 unfold accS at h
 split at h
 case h_2=>cases h
 rename_i kind ea w
 split at h
 case h_2=>cases h
 rename_i n r R1 R2 c nx X hg
 simp only[Option.some.injEq,Prod.mk.injEq] at h
 obtain⟨rfl,rfl,rfl⟩:=h
 obtain⟨hx,hn,hf,hc⟩:=hp
 obtain rfl:=zmq hg hn hx
 obtain⟨c0,c1,c2,c3⟩:=c
 rw[ysx] at hc ⊢
 generalize hW:ze2 M (c0,c1,c2,c3) kind r [] (zbe ea w)=W at hc ⊢
 obtain⟨W1,W2,W3,W4⟩:=W
 simp only at hc ⊢
 generalize hz:zq3 W3.m kind W4=z at hc ⊢
 obtain⟨z1,z2⟩:=z
 generalize he:(if ¬ W1=0 then (W1,W2) else (z1,z2))=ev at hc ⊢
 obtain⟨e,v⟩:=ev
 simp only at hc ⊢
 refine⟨accX M (c0,c1,c2,c3) kind nx (W1,W2,W3,W4) (z1,z2),[⟨false,.sl 9 3 0 W4.length,zh5 M W3 (c0,c1,c2,c3) nx++[Blk.arr shQ W4 true],e=0⟩,⟨true,zjz e v,paH M W3,¬ e=0⟩], ?_,yxx (nx:=nx) hM hf hW hz he,fun o ho hout => ?_⟩
 · have hl:zap (zau Tryz.f221)=[zag Tryz.f221 0,zag Tryz.f221 1]:=by kernel_rfl
   intro b hb k L hk hL
   rw[hl] at hb
   rcases List.mem_cons.1 hb with rfl|hb
   · have ek:zbj (zag Tryz.f221 0)=some 6:=by kernel_rfl
     rw[ek] at hk
     cases hk
     have e1:(accX M (c0,c1,c2,c3) kind nx (W1,W2,W3,W4) (z1,z2)).loop 6=some (plsL M (c0,c1,c2,c3) kind nx (W1,W2,W3,W4)):=znv _ _ _ _
     rw[e1] at hL
     cases hL
     refine zda mixed (zqa hM) (by kernel_rfl) (fun x:Nat × Qs × Hn=>x.2.1.length-x.1) (fun y hy=>⟨.none, ?_⟩)
     obtain⟨i,qs,r'⟩:Nat × Qs × Hn:=y
     exact yii hM hy
   · rw[List.mem_singleton] at hb
     subst hb
     have ek:zbj (zag Tryz.f221 1)=some 11:=by kernel_rfl
     rw[ek] at hk
     cases hk
     have e1:(accX M (c0,c1,c2,c3) kind nx (W1,W2,W3,W4) (z1,z2)).loop 11=some (hldL M (c0,c1,c2,c3) W3 kind nx W4 (z1,z2)):=znw _ _ _ _ (by decide)
     rw[e1] at hL
     cases hL
     refine zda mixed (zqa hM) (by kernel_rfl) (fun i:Nat=>W4.length-i) (fun y hy=>⟨.none, ?_⟩)
     obtain⟨g1,g2,g3,g4,g5,g6⟩:=hy
     exact ygx g1 g2 g3 g4 g5 g6
 · simp only[List.mem_cons,List.not_mem_nil,or_false] at ho
   rcases ho with rfl|rfl
   · cases pan with
     | false=>exact⟨rfl,rfl,rfl⟩
     | true=>exact absurd hout hc
   · cases pan with
     | false=>exact absurd hc hout
     | true=>exact⟨rfl,rfl,rfl⟩
theorem yek:DictOk Tryz.prog yxh:=zay (zei.append zc4) .nil .nil
theorem yai(m:By)(q:Qt):∀(a:Qs)(x s:Int),ldM m x s (a++[q])=bits .or .u64 (ldM m x s a) (IntKind.u64.wrap (zbq ((m.drop q.2.1.toNat).take q.2.2.toNat)*2 ^ (sdM s a).toNat))
 | [],x,s=>rfl
 | p::a,x,s=>by simp only[List.cons_append,ldM,sdM];rw[yai m q a]
theorem ya4(q:Qt):∀(a:Qs)(s:Int),sdM s (a++[q])=sdM s a+8*q.2.2
 | [],s=>rfl
 | p::a,s=>by simp only[List.cons_append,sdM];rw[ya4 q a]
theorem yzz:∀(a:Qs)(s:Int),(∀q ∈ a,1≤q.2.2∧q.2.2≤8)→s≤sdM s a∧sdM s a≤s+64*a.length
 | [],s,_=>⟨Int.le_refl _,by simp[sdM]⟩
 | p::a,s,h=>by
  obtain⟨h1,h2⟩:=h p (by simp)
  obtain⟨g1,g2⟩:=yzz a (s+8*p.2.2) (fun q hq=>h q (by simp[hq]))
  simp only[sdM,List.length_cons]
  omega
theorem ya7(q:Qt):∀(a:Qs)(m:By)(x:Int),stM m x (a++[q])=(zg0 (stM m x a).1 q.2.1.toNat (zce (stM m x a).2 q.2.2.toNat),(stM m x a).2/2 ^ (8*q.2.2).toNat)
 | [],m,x=>rfl
 | p::a,m,x=>by simp only[List.cons_append,stM];rw[ya7 q a]
theorem yin{m b:By}{a:Nat}(hm:zaj m)(hb:∀x ∈ b,0≤x∧x<256)(h:a+b.length≤m.length):zaj (zg0 m a b)∧(zg0 m a b).length=m.length:=by
 have hl:=ziu h
 refine⟨⟨by rw[hl];exact hm.1,fun x hx => ?_⟩,hl⟩
 unfold zg0 at hx
 rcases List.mem_append.1 hx with hx|hx
 · rcases List.mem_append.1 hx with hx|hx
   · exact hm.2 x (List.mem_of_mem_take hx)
   · exact hb x hx
 · exact hm.2 x (List.mem_of_mem_drop hx)
theorem yol:∀(a:Qs)(m:By)(x:Int),zaj m→U64 x→(∀q ∈ a,0≤q.2.1∧0≤q.2.2∧q.2.2≤8∧q.2.1+q.2.2≤m.length)→zaj (stM m x a).1∧(stM m x a).1.length=m.length∧U64 (stM m x a).2
 | [],m,x,hm,hx,_=>⟨hm,rfl,hx⟩
 | p::a,m,x,hm,hx,h=>by
  obtain⟨h1,h2,h3,h4⟩:=h p (by simp)
  obtain⟨b1,b2⟩:=yin (a:=p.2.1.toNat) (b:=zce x p.2.2.toNat) hm (zww x _) (by rw[zde];omega)
  obtain⟨d0,d1⟩:=zs4 (8*p.2.2).toNat hx.1
  have hx':U64 (x/2 ^ (8*p.2.2).toNat):=⟨d0,Int.lt_of_le_of_lt d1 hx.2⟩
  obtain⟨g1,g2,g3⟩:=yol a _ _ b1 hx' (fun q hq=>by rw[b2];exact h q (by simp[hq]))
  exact⟨g1,g2.trans b2,g3⟩
theorem zxj{m:By}{qs:Qs}(h:InQ m qs):∀q ∈ qs,0≤q.2.1∧0≤q.2.2∧q.2.2≤8∧q.2.1+q.2.2≤m.length:=fun q hq=>by
 obtain⟨_,a,b,c,d⟩:=h.2.2 q hq
 exact⟨a,b,c,d⟩
theorem yni{M:Tm}{c0:Int}{c1 c2:Bool}{c3:Int}{r:Hn}{nx:Int}{qs:Qs}{i:Nat}(hi:i≤qs.length)(h:InQ r.m qs):zn1 M c0 c1 c2 c3 r nx qs i:=by
 have ei:0+(i:Int).toNat=i:=by omega
 have hl:=h.1.1
 refine zab (zvi M c0 c1 c2 c3 r nx qs i) ?_
 conv=>zeta
 refine⟨fun q => ?_,fun q => ?_⟩
 · have q:(i:Int)<qs.length:=of_decide_eq_true q
   have hlt:i<qs.length:=by omega
   have hmem:=zlo hlt (El.zero shQ)
   have hf:=h.2.2 _ hmem
   have hb:=(h.1.2 _ hmem).2.2
   have et:=yjn hlt (El.zero shQ)
   obtain⟨s0,s1⟩:=yzz (qs.take i) 0 (fun q hq=>(h.1.2 q (List.mem_of_mem_take hq)).2.2)
   have hti:(qs.take i).length≤1:=by simp;omega
   rw[ei]
   generalize qs.getD i (El.zero shQ)=p at *
   obtain⟨va,pa,n⟩:Int × Int × Int:=p
   simp only at hb hf
   have ew:IntKind.i64.wrap ((i:Int)+1)=((i+1:Nat):Int):=by rw[zaa (by omega) (by omega)];omega
   have e8:IntKind.u64.wrap (8*n)=8*n:=zah (by omega) (by omega)
   have es:IntKind.u64.wrap (sdM 0 (qs.take i)+8*n)=sdM 0 (qs.take i)+8*n:=zah (by omega) (by omega)
   have em:min (sdM 0 (qs.take i)).toNat 64=(sdM 0 (qs.take i)).toNat:=by omega
   refine⟨⟨by omega,q⟩,hlt,⟨rfl,hf⟩,s0,i+1, ?_,⟨by omega,h⟩,by omega,fun _ _=>trivial⟩
   rw[ew,e8,es,em,et,yai,ya4]
   repeat' apply And.intro
   all_goals rfl
 · have q:¬ (i:Int)<qs.length:=of_decide_eq_false q
   have e:i=qs.length:=by omega
   subst e
   rw[List.take_length]
   refine⟨(), ?_,trivial⟩
   repeat' apply And.intro
   all_goals rfl
theorem yge{M:Tm}{H:Heap}{n:Ln}{r:Hn}{R1 R2:Rx}{c:Ct}{nx:Int}{X:Xx}{qs:Qs}(h:getQ H=some ((n,r,R1,R2,c,nx,X),qs))(hn:n=r.ln)(hx:M.is X R1 R2):H=zh5 M r c nx++[.arr shQ qs true]:=by
 unfold getQ at h
 split at h
 case h_2=>cases h
 rename_i x sh qs0 ha hb
 split at h
 case isFalse=>cases h
 rename_i e
 subst e
 simp only[Option.some.injEq,Prod.mk.injEq] at h
 obtain⟨rfl,rfl⟩:=h
 have e1:=zmq ha hn hx
 rw[← List.take_append_drop 9 H,e1,hb]
theorem ld_ok{M:Tm}:Sound Tryz.prog 220 (ldS M):=by
 refine zdk mixed Tryz.func220 (by kernel_rfl) (b:=zag Tryz.f220 0) (k:=3) (by kernel_rfl) (by kernel_rfl) (by kernel_rfl) yek (fun args H p v H' h hp => ?_)
 unfold ldS at h
 split at h
 case h_2=>cases h
 rename_i l
 split at h
 case h_2=>cases h
 rename_i n r R1 R2 c nx X qs hg
 simp only[Option.some.injEq,Prod.mk.injEq] at h
 obtain⟨rfl,rfl,rfl⟩:=h
 obtain⟨hx,hn,rfl,hq⟩:=hp
 obtain rfl:=yge hg hn hx
 obtain⟨c0,c1,c2,c3⟩:=c
 refine⟨_,ldL M (c0,c1,c2,c3) r nx qs,fun i:Nat=>qs.length-i,za3 _ _,fun  (i:Nat) hi=>(show zn1 M c0 c1 c2 c3 r nx qs i from yni hi.1 hi.2),zab (ydn M c0 c1 c2 c3 r nx qs) ⟨0, ?_,⟨Nat.zero_le _,hq⟩,fun _ _ => ?_⟩⟩
 all_goals repeat' apply And.intro
 all_goals rfl
theorem yom{M:Tm}{c0:Int}{c1 c2:Bool}{c3:Int}{r:Hn}{nx:Int}{qs:Qs}{x:Int}{i:Nat}(hi:i≤qs.length)(h:InQ r.m qs)(hx:U64 x):zkw M c0 c1 c2 c3 r nx qs x i:=by
 have ei:0+(i:Int).toNat=i:=by omega
 have hl:=h.1.1
 have hI:=zxj h
 obtain⟨t1,t2,t3⟩:=yol (qs.take i) r.m x h.2.1 hx (fun q hq=>hI q (List.mem_of_mem_take hq))
 refine zab (zsj M c0 c1 c2 c3 r nx qs x i) ?_
 conv=>zeta
 refine⟨fun q => ?_,fun q => ?_⟩
 · have q:(i:Int)<qs.length:=of_decide_eq_true q
   have hlt:i<qs.length:=by omega
   have hmem:=zlo hlt (El.zero shQ)
   have hf:=hI _ hmem
   have hb:=(h.1.2 _ hmem).2.2
   have et:=yjn hlt (El.zero shQ)
   rw[ei]
   generalize qs.getD i (El.zero shQ)=p at *
   obtain⟨va,pa,n⟩:Int × Int × Int:=p
   simp only at hb hf
   have ew:IntKind.i64.wrap ((i:Int)+1)=((i+1:Nat):Int):=by rw[zaa (by omega) (by omega)];omega
   have e8:IntKind.u64.wrap (8*n)=8*n:=zah (by omega) (by omega)
   have em:min (8*n).toNat 64=(8*n).toNat:=by omega
   have hput:(zg0 (stM r.m x (qs.take i)).1 pa.toNat (zce (stM r.m x (qs.take i)).2 n.toNat)).length=(stM r.m x (qs.take i)).1.length:=ziu (by rw[zde,t2];omega)
   rw[e8,em]
   refine⟨⟨by omega,q⟩,hlt,⟨rfl,⟨t1,hf.1,hf.2.1,hf.2.2.1,by rw[t2];exact hf.2.2.2⟩,t3⟩,by omega,i+1, ?_,⟨by omega,h,hx⟩,by omega,fun _ _=>trivial⟩
   rw[ew,et,ya7]
   repeat' apply And.intro
   all_goals first|rfl|exact hput
 · have q:¬ (i:Int)<qs.length:=of_decide_eq_false q
   have e:i=qs.length:=by omega
   subst e
   rw[List.take_length]
   refine⟨(), ?_,trivial⟩
   repeat' apply And.intro
   all_goals rfl
theorem st_ok{M:Tm}:Sound Tryz.prog 222 (stS M):=by
 refine zdk mixed Tryz.func222 (by kernel_rfl) (b:=zag Tryz.f222 0) (k:=1) (by kernel_rfl) (by kernel_rfl) (by kernel_rfl) yek (fun args H p v H' h hp => ?_)
 unfold stS at h
 split at h
 case h_2=>cases h
 rename_i l x
 split at h
 case h_2=>cases h
 rename_i n r R1 R2 c nx X qs hg
 simp only[Option.some.injEq,Prod.mk.injEq] at h
 obtain⟨rfl,rfl,rfl⟩:=h
 obtain⟨hx,hn,rfl,hq,hu⟩:=hp
 obtain rfl:=yge hg hn hx
 obtain⟨c0,c1,c2,c3⟩:=c
 refine⟨_,stL M (c0,c1,c2,c3) r nx qs x,fun i:Nat=>qs.length-i,za3 _ _,fun  (i:Nat) hi=>(show zkw M c0 c1 c2 c3 r nx qs x i from yom hi.1 hi.2.1 hi.2.2),zab (zzj M c0 c1 c2 c3 r nx qs x) ⟨0, ?_,⟨Nat.zero_le _,hq,hu⟩,fun _ _ => ?_⟩⟩
 all_goals repeat' apply And.intro
 all_goals rfl
end Go.Proofs.YtfiddfbagbaofaaGreat.V
