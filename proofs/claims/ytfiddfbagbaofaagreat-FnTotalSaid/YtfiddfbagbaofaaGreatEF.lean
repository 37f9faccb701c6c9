/- The reference's step: accesses. Conditions: those in each statement. -/
import Derived.Test.YtfiddfbagbaofaaGreatEE
import Derived.KernelRfl
namespace Go.Proofs.YtfiddfbagbaofaaGreat.V
open Go
abbrev Pt:=Int × Int × Int
abbrev Ps:=List Pt
abbrev shP:List Ty:=[.i .u64,.i .i64,.i .u64]
abbrev psP:Pm := .one (.sl shP)
def zeo(m:By):Ps→By
 | []=>[]
 | p::ps=>((m.drop p.2.2.toNat).take p.2.1.toNat)++zeo m ps
def zii(m:By):Ps→By→By
 | [],_=>m
 | p::ps,b=>zii (zg0 m p.2.2.toNat (b.take p.2.1.toNat)) ps (b.drop p.2.1.toNat)
def zd9:Ps→Nat
 | []=>0
 | p::ps=>p.2.1.toNat+zd9 ps
def PsR(n:Nat)(ps:Ps):Prop:=n≤2097152∧ps.length≤2∧zd9 ps≤8∧∀p ∈ ps,0≤p.2.1∧p.2.1≤8∧0≤p.2.2∧p.2.2+p.2.1≤n
def ym3(m:By)(ps:Ps):LoopS where
 α:=Nat
 I k:=k≤ps.length∧PsR m.length ps
 sl k:=slots 35 [(0,.sl 0 1 0 m.length),(1,.sl 1 3 0 ps.length),(5,.sl 2 1 0 (zeo m (ps.take k)).length),(6,.v (.int .i64 (k:Int)))]
 H k:=[.arr [.i .u8] m false,.arr shP ps false,.arr [.i .u8] (zeo m (ps.take k)) true]
 fams:=[{ β:=Unit,out:=fun _ _=>True,ex := .ext 0,sl:=fun _=>slots 35 [(5,.sl 2 1 0 (zeo m ps).length)],H:=fun _=>[.arr [.i .u8] m false,.arr shP ps false,.arr [.i .u8] (zeo m ps) true] }]
def kEF0:Known:=kB3++kA4
def FEF0:Dict:=mkD kEF0 [] []
def ydh(m:By)(ps:Ps)(k:Nat):Prop:=zam Tryz.prog FEF0 (.one 3 (ym3 m ps)) 2 (zag Tryz.f234 0) (ym3 m ps) (fun k:Nat=>ps.length-k) k
def yo6(m:By)(ps:Ps):Prop:=zal Tryz.prog FEF0 (.one 3 (ym3 m ps)) Tryz.f234 [byP,psP] [u64] (m,ps) (zbq (zeo m ps))
def kEF1:Known:=[(189,zai [byP,i64,bsP] [byP] (fun t=>some (SzR t.1.length∧0≤t.2.1∧t.2.1+t.2.2.length≤t.1.length)) (fun t=>zg0 t.1 t.2.1.toNat t.2.2))]
def FEF1:Dict:=mkD (kEF1++kEF0) [] []
def yob(m:By)(ps:Ps)(w x:Int):LoopS where
 α:=Nat
 I k:=k≤ps.length∧PsR m.length ps∧zd9 ps=w.toNat∧0≤w
 sl k:=slots 43 [(0,.sl 2 1 0 m.length),(1,.sl 1 3 0 ps.length),(9,.sl 3 1 (zd9 (ps.take k)) (w.toNat-zd9 (ps.take k))),(10,.v (.int .i64 (k:Int)))]
 H k:=[.dead,.arr shP ps true,.arr [.i .u8] (zii m (ps.take k) (zce x w.toNat)) true,.arr [.i .u8] (zce x w.toNat) true]
 fams:=[{ β:=Unit,out:=fun _ _=>True,ex := .ext 0,sl:=fun _=>slots 43 [(0,.sl 2 1 0 m.length)],H:=fun _=>[.dead,.dead,.arr [.i .u8] (zii m ps (zce x w.toNat)) true] }]
def ydj(m:By)(ps:Ps)(w x:Int)(k:Nat):Prop:=zam Tryz.prog FEF1 (.one 3 (yob m ps w x)) 2 (zag Tryz.f235 0) (yob m ps w x) (fun k:Nat=>ps.length-k) k
def yo7(m:By)(ps:Ps)(w x:Int):Prop:=zi2 Tryz.prog FEF1 (.one 3 (yob m ps w x)) Tryz.f235 [byP,psP,i64,u64] [byP] (m,ps,w,x) (zii m ps (zce x w.toNat))
def zaz(kind:Int):Rn→Ps→Ps→Rn × Ps × Bool
 | r,done,[]=>(r,done,false)
 | r,done,p::todo =>
  if (zao r kind p.1).2.1=0 then zaz kind (zao r kind p.1).1 (done++[(p.1,p.2.1,(zao r kind p.1).2.2)]) todo
  else (zd1 (zao r kind p.1).1 (zao r kind p.1).2.1 p.1,done++p::todo,true)
def zbt(kind:Int)(r:Rn):Ps→Rn
 | []=>r
 | p::ps=>if zgg r.m p.2.2 p.2.1=true then zbt kind r ps else zd1 r (afM kind) p.1
def zaq(va w:Int):Ps:=if w>64-va % 64 then [(va,64-va % 64,0),(IntKind.u64.wrap (va+(64-va % 64)),w-(64-va % 64),0)] else [(va,w,0)]
def zas(r:Rn)(kind va w:Int):Rn × Ps :=
 if (zaz kind r [] (zaq va w)).2.2=true then ((zaz kind r [] (zaq va w)).1,(zaz kind r [] (zaq va w)).2.1)
 else (zbt kind (zaz kind r [] (zaq va w)).1 (zaz kind r [] (zaq va w)).2.1,(zaz kind r [] (zaq va w)).2.1)
def ysg:Dict:=mkD (kEE2++kB3++kA4) [] []
def dead6:Heap:=[.dead,.dead,.dead,.dead,.dead,.dead]
def zss(kind:Int)(R:Rn × Ps × Bool)(r:Rn)(ps:Ps)(i:Nat):Prop:=RnR r∧i≤ps.length∧ps.length≤2∧r.ks.length+ps.length≤2097152+i∧(∀p ∈ ps,U64 p.1)∧zaz kind r (ps.take i) (ps.drop i)=R
def zri(kind:Int)(R:Rn × Ps × Bool):LoopS where
 α:=Rn × Ps × Nat
 I x:=zss kind R x.1 x.2.1 x.2.2
 sl x:=slots 108 [(1,.v (.int .i64 kind)),(4,.ptr 6 0),(8,.ptr 7 0),(11,.sl 8 3 0 x.2.1.length),(12,.v (.int .i64 (x.2.2:Int)))]
 H x:=dead6++[.fix (zwb x.1 9) true (some 110),.fix yl4 true (some 110),.arr shP x.2.1 true]++yec x.1
 fams:=[{ β:=Unit,out:=fun _ _=>R.2.2=false,ex := .ext 0,sl:=fun _=>slots 108 [(1,.v (.int .i64 kind)),(4,.ptr 6 0),(8,.ptr 7 0),(11,.sl 8 3 0 R.2.1.length)],H:=fun _=>dead6++[.fix (zwb R.1 9) true (some 110),.fix yl4 true (some 110),.arr shP R.2.1 true]++yec R.1 },
  { β:=Unit,out:=fun _ _=>R.2.2=true,ex := .ret,sl:=fun _=>slots 108 [(8,.ptr 7 0),(9,.sl 8 3 0 R.2.1.length)],H:=fun _=>dead6++[.dead,.fix (zwb R.1 9) true (some 110),.arr shP R.2.1 true]++yec R.1 }]
def zrj(kind:Int)(r:Rn)(ps:Ps)(z:Rn):LoopS where
 α:=Nat
 I i:=i≤ps.length∧ps.length≤2∧SzR r.m.length∧zbt kind r (ps.drop i)=z∧∀p ∈ ps,0≤p.2.1∧0≤p.2.2
 sl i:=slots 108 [(1,.v (.int .i64 kind)),(4,.ptr 6 0),(8,.ptr 7 0),(11,.sl 8 3 0 ps.length),(14,.v (.int .i64 (i:Int)))]
 H _:=dead6++[.fix (zwb r 9) true (some 110),.fix yl4 true (some 110),.arr shP ps true]++yec r
 fams:=[{ β:=Unit,out:=fun _ _=>r=z,ex := .ext 2,sl:=fun _=>slots 108 [(4,.ptr 6 0),(8,.ptr 7 0),(11,.sl 8 3 0 ps.length)],H:=fun _=>dead6++[.fix (zwb r 9) true (some 110),.fix yl4 true (some 110),.arr shP ps true]++yec r },
  { β:=Unit,out:=fun _ _=>True,ex := .ret,sl:=fun _=>slots 108 [(8,.ptr 7 0),(9,.sl 8 3 0 ps.length)],H:=fun _=>dead6++[.dead,.fix (zwb z 9) true (some 110),.arr shP ps true]++yec z }]
def zt3(kind:Int)(R:Rn × Ps × Bool)(z:Rn):Specs := .two 6 (zri kind R) 14 (zrj kind R.1 R.2.1 z)
def zr5(kind:Int)(R:Rn)(S:Ps)(f:Bool)(r:Rn)(ps:Ps)(i:Nat):Prop:=zam Tryz.prog ysg .none 6 (zag Tryz.f233 0) (zri kind (R,S,f)) (fun x:Rn × Ps × Nat=>x.2.1.length-x.2.2) (r,ps,i)
def zr6(kind:Int)(r:Rn)(ps:Ps)(z:Rn)(i:Nat):Prop:=zam Tryz.prog ysg .none 6 (zag Tryz.f233 1) (zrj kind r ps z) (fun i:Nat=>ps.length-i) i
def ydi(r:Rn)(kind va w:Int)(R:Rn)(S:Ps)(f:Bool)(z:Rn)(y:Rn)(T:Ps):Prop:=zi2 Tryz.prog ysg (zt3 kind (R,S,f) z) Tryz.f233 [ruP,i64,u64,i64] [ruP,psP] (r.t,kind,va,w) (y.t,T)
set_option linter.unusedVariables false
theorem zr3(m:By)(ps:Ps)(k:Nat):ydh m ps k=(
 let A0(a:Nat):=(0:Nat)+a;
 let A1:=A0 (↑k:Int).toNat;
 let A2:=(List.getD ps A1 (El.zero shP)).2;
 let A3(a:Nat):=zeo m (List.take a ps);
 let A4:=List.length ps;
 let A5(a:Int):=IntKind.i64.wrap a;
 let A6:=IntKind.i64.wrap A2.2;
 let A7:=(↑k:Int);
 let A8:=List.length m;
 let A9:=(0:Nat)=0;
 let Aa(a b c:Prop):=a∧b∧c;
 let Ab:=A6.toNat;
 let Ac(a b c d e:Prop):=Aa a b (Aa c d e);
 let Ad:=A6+A2.1;
 let Ae(a:Nat):=List.length (A3 a);
 let Af:=A7<(↑A4:Int);
 let Ah(a:Bool)(b:Prop):=decide (A7<(↑A4:Int))=a→b;
 let Ai:=(A5 Ad).toNat-Ab;
 let Aj(a b c:Prop):=Ac a b (m=m) (ps=ps) c;
 let Ak:=Ae k+(List.take ((A5 Ad).toNat-Ab) (List.drop (A0 Ab) m)).length;
 Ah true (Aa ((0:Int)≤A7∧Af) (A1<A4) (Ac ((0:Int)≤A7∧Af) (A1<A4) (Aa ((0:Int)≤A6) (A6≤A5 Ad) (A5 Ad≤(↑A8:Int))) (Aa (A0 Ab+Ai≤A8) (Ae k≤Ae k) (Ak≤1073741824)) (∃(x0:Nat),(A9∧Ac (A8=A8) A9
  (A4=A4) A9 (Aj (Ae x0=Ak) ((↑x0:Int)=A5 (A7+1)) (A3 x0=List.take (Ae k) (A3 k)++List.take Ai (List.drop (A0 Ab) m))))∧Aa (x0≤A4∧PsR A8 ps) (A4-x0<A4-k) (∀(x1:Unit),True→True))))∧Ah false (∃
  (x2:Unit),Aj A9 (List.length (zeo m ps)=Ae k) (zeo m ps=A3 k)∧True)):=by kernel_rfl
theorem zyo(m:By)(ps:Ps):yo6 m ps=(
 ∃(x:Nat),((0:Nat)=0∧List.length m=List.length m∧(0:Nat)=0∧List.length ps=List.length ps∧(0:Nat)=0∧List.length (zeo m (List.take x ps))=0∧(↑x:Int)=0∧m=m∧ps
 = ps∧zeo m (List.take x ps)=[])∧(x≤List.length ps∧PsR (List.length m) ps)∧∀(z:Unit),True→((0:Nat)+List.length (zeo m ps)≤List.length (zeo m ps)∧zaj (List.take (List.length (zeo m ps)) (List.drop 0
 (zeo m ps)))∧(List.take (List.length (zeo m ps)) (List.drop 0 (zeo m ps))).length≤8)∧zbq (zeo m ps)=zbq (List.take (List.length (zeo m ps)) (List.drop 0 (zeo m ps)))∧m=m∧ps=ps):=by kernel_rfl
theorem zr7(m:By)(ps:Ps)(w x:Int)(k:Nat):ydj m ps w x k=(
 let A0:=List.length ps;
 let A1:=zce x w.toNat;
 let A2:=(0:Nat)+(↑k:Int).toNat;
 let A3:=(0:Int).toNat;
 let A4(a:Nat):=zd9 (List.take a ps);
 let A5:=(↑k:Int);
 let A6:=List.length m;
 let A7:=(List.getD ps A2 (El.zero shP)).2;
 let A8(a:Nat):=zii m (List.take a ps) A1;
 let A9(a:Int):=(0:Int)≤a;
 let Aa(a b c:Prop):=a∧b∧c;
 let Ab(a b c d e:Prop):=Aa a b (Aa c d e);
 let Ac:=(↑A0:Int);
 let Ad:=(0:Nat)=0;
 let Ae:=IntKind.i64.wrap A7.2;
 let Af:=(↑(w.toNat-A4 k):Int);
 let Ah(a:By):=A6=List.length a;
 let Ai:=Int.toNat A7.1;
 let Aj(a:Bool)(b:Prop):=decide (A5<(↑A0:Int))=a→b;
 let Ak:=(0:Int)≤A7.1;
 let Al:=List.length (A8 k);
 let Am:=zg0 (A8 k) Ae.toNat (List.take (Ai-A3) (List.drop (A4 k+A3) A1));
 let An:=A2<A0;
 Aj true ((A9 A5∧A5<Ac)∧Ab An (A9 A5∧A5<Ac) An (Aa (A9 0) Ak (A7.1≤Af)) (Ab (Ab (Ah (A8 k)) (A4 k+A3+(Ai-A3)≤List.length A1) (SzR Al) ((0:i64.T)≤Ae) (Ae+(↑(List.take (Ai-A3) (List.drop (A4 k+A3)
  A1)).length:i64.T)≤(↑Al:i64.T))) (A9 A5∧A5<Ac) An (Aa Ak (A7.1≤Af) (Af≤Af)) (∃(x0:Nat),(Ad∧Ab (Ah Am) Ad (A0=A0) (A4 x0=A4 k+Ai) (Ab (w.toNat-A4 x0=(↑(w.toNat-A4 k):Int).toNat-Ai) ((↑x0:Int) =
  IntKind.i64.wrap (A5+1)) (ps=ps) (A8 x0=Am) (A1=A1)))∧Aa (x0≤A0∧Aa (PsR A6 ps) (zd9 ps=w.toNat) (A9 w)) (A0-x0<A0-k) (∀(x1:Unit),True→True))))∧Aj false (∃(x2:Unit),Aa Ad (A6=A6) (zii m ps
  A1=A8 k)∧True)):=by kernel_rfl
theorem zyr(m:By)(ps:Ps)(w x:Int):yo7 m ps w x=(
 (U64 x∧(0:PmT [i64])≤w∧w≤(8:PmT [i64]))∧∃(x_1:Nat),((0:Nat)=0∧List.length m=List.length m∧(0:Nat)=0∧List.length ps=List.length ps∧zd9 (List.take x_1 ps)=0∧w.toNat-zd9
 (List.take x_1 ps)=List.length (zce x w.toNat)∧(↑x_1:Int)=0∧ps=ps∧zii m (List.take x_1 ps) (zce x w.toNat)=m∧zce x w.toNat=zce x w.toNat)∧(x_1≤List.length ps∧PsR (List.length m) ps∧zd9 ps=w.toNat
 ∧ 0≤w)∧∀(z:Unit),True→(0:Nat)=0∧List.length (zii m ps (zce x w.toNat))=List.length m∧zii m ps (zce x w.toNat)=zii m ps (zce x w.toNat)):=by kernel_rfl
theorem zlf(kind:Int)(R:Rn)(S:Ps)(f:Bool)(r:Rn)(ps:Ps)(i:Nat):zr5 kind R S f r ps i=(
 let A0:=(0:Nat)+(↑i:Int).toNat;
 let A1:=zao r kind (List.getD ps A0 (El.zero shP)).1;
 let A2:=(0:Int)=0;
 let A3(a b c:Prop):=a∧b∧c;
 let A4(a b c d e:Prop):=A3 a b (A3 c d e);
 let A5(a b:Es):=List.length a=List.length b;
 let A6(a b c d e f g h i:Prop):=A4 a b c d (A4 e f g h i);
 let A7:=List.length ps;
 let A8(a:Rn):=List.length a.26;
 let A9:=Value.slice none 0 0;
 let Aa(a:Rn):=List.length a.2;
 let Ab:=(0:Nat)=0;
 let Ac:=A1.1;
 let Ad:=(↑i:Int);
 let Ae(a b c d e f g h i j k l m n o p q r s t u v w x y z B C D E F G H:Prop):=A6 a b c d e f g h (A6 i j k l m n o p (A6 q r s t u v w x (A6 y z B C D E F G H)));
 let Af:=false=false;
 let Ah(a b c d e f g h i j k l m n o p q r s t u v w x:Prop)(y:Rn):=Ae a b c d e f g h i j k l m f n o p q r f s t u v w x (S=ps) (R.1=y.1) (R.2=y.2) (R.15=y.15) (R.18=y.18) (R.21=y.21) (R.26=y.26);
 let Ai(a b c d e f:Prop)(g h:Rn)(i j:Prop):=Ae a b c d e f Ab (A5 g.15 h.15) i (g.17=h.17) Ab (A5 g.18 h.18) (g.19=h.19) (g.20=h.20) Ab (A5 g.21 h.21) (g.22=h.22) (g.23=h.23) (g.24=h.24) (g.25=h.25) Ab (A8 g=A8 h)
  (g.27=h.27) (g.28=h.28) (g.29=h.29) (g.30=h.30) (g.31=h.31) (A9=A9) (A9=A9) A2 A2 Af j;
 let Aj:=(↑A7:Int);
 let Ak(a:Rn × Ps × Nat):=List.length a.2.1;
 let Al:=List.getD ps A0 (El.zero shP);
 let Am:=Aa Ac;
 let An:=A9=A9;
 let Ao(a b:Rn):=List.length a.1=List.length b.1;
 let Ap(a b:Prop)(c d:Rn)(e:Nat)(f:Prop):=A4 a b Ab (Ao c d) (A6 Ab (Aa c=e) (c.3=d.3) (c.4=d.4) (c.5=d.5) (c.6=d.6) (c.7=d.7) (c.8=d.8) f);
 let Aq:=decide (Ad<(↑A7:Int));
 let Ar:=(0:Int)≤Ad;
 let Au:=List.length S=A7;
 let Aw:=A1.2.1 != 0;
 let Ax(a:Bool)(b:Prop):=a=true→b;
 let Ay(a:Bool)(b:Prop):=a=false→b;
 Ax Aq (A4 (Ar∧Ad<Aj) (A0<A7) (Ao r r∧A3 (Aa r=Aa r) (A5 r.15 r.15) (A4 (A5 r.18 r.18) (A5 r.21 r.21) (A8 r=A8 r) (RnR r) (U64 Al.1))) (Ax Aw ((Ar∧Ad<Aj)∧A3 (A0<A7) (Ao Ac Ac∧A4 (Am=Am) (A5 Ac.15 Ac.15) (A5 Ac.18
  Ac.18) (A5 Ac.21 Ac.21) (A8 Ac=A8 Ac)) (∃(x0:Unit),(Ab∧A4 Au Ab (Ao R Ac) Ab (A6 (Aa R=Am) (R.3=Ac.3) (R.4=Ac.4) (R.5=Ac.5) (R.6=Ac.6) (R.7=Ac.7) (R.8=Ac.8) (R.9=Ac.9) (Ah (R.10=Ac.10) (R.11=Ac.11) (R.12 =
  Ac.12) (R.13=Ac.13) (R.14=Ac.14) Ab (A5 R.15 Ac.15) (R.16=Ac.16) (R.17=Ac.17) Ab (A5 R.18 Ac.18) (R.19=Ac.19) (R.20=Ac.20) (A5 R.21 Ac.21) (R.22=Ac.22) (R.23=Ac.23) (R.24=A1.2.1) (R.25=Al.1) (A8 R=A8 Ac) (R.27 =
  Ac.27) (R.28=Ac.28) (R.29=Ac.29) (R.30=Ac.30) (R.31=Ac.31) Ac)))∧f=true))) (Ay Aw (A3 (Ar∧Ad<Aj) (A0<A7) (∃(x1:Rn × Ps × Nat),A4 (A3 (kind=kind) Ab (Ap (Ak x1=A7) ((↑x1.2.2:Int)=IntKind.i64.wrap (Ad+(1
  : Int))) x1.1 Ac Am (Ai (x1.1.9=Ac.9) (x1.1.10=Ac.10) (x1.1.11=Ac.11) (x1.1.12=Ac.12) (x1.1.13=Ac.13) (x1.1.14=Ac.14) x1.1 Ac (x1.1.16=Ac.16) (Ae Af A2 A2 A2 A2 A2 A2 A2 A2 An A2 A2 An A2 A2 An Af A2
  A2 A2 An Af Af A2 Af A2 (x1.2.1=List.set ps A0 (Al.1,Al.2.1,A1.2.2)) (x1.1.1=Ac.1) (x1.1.2=Ac.2) (x1.1.15=Ac.15) (x1.1.18=Ac.18) (x1.1.21=Ac.21) (x1.1.26=Ac.26))))) (zss kind (R,S,f)
  x1.1 x1.2.1 x1.2.2) (Ak x1-x1.2.2<A7-i) (∀(x2:Unit),Ay f (f=false)) (∀(x3:Unit),Ax f (f=true))))))∧Ay Aq (∃(x4:Unit),(kind=kind∧Ap Ab Au R r (Aa r) (Ai (R.9=r.9) (R.10=r.10) (R.11 =
  r.11) (R.12=r.12) (R.13=r.13) (R.14=r.14) R r (R.16=r.16) (Ah Af A2 A2 A2 A2 A2 A2 A2 A2 An A2 A2 An A2 An Af A2 A2 An Af Af A2 Af A2 r)))∧f=false)):=by kernel_rfl
theorem zlg(kind:Int)(r:Rn)(ps:Ps)(z:Rn)(i:Nat):zr6 kind r ps z i=(
 let A0:=(0:Int)=0;
 let A1(a b c:Prop):=a∧b∧c;
 let A2:=List.length ps;
 let A3(a:Rn):=List.length a.1;
 let A4(a b c d e:Prop):=A1 a b (A1 c d e);
 let A5:=(0:Nat)=0;
 let A6(a b c d e f g h i:Prop):=A4 a b c d (A4 e f g h i);
 let A7:=(↑i:Int);
 let A8:=Value.slice none 0 0;
 let A9(a:Rn):=List.length a.26;
 let Aa(a:Rn):=List.length a.2;
 let Ab(a b:Es):=List.length a=List.length b;
 let Ac(a b c d e f g h i j k l m n o p q r s t u v w x y z B C D E F G H:Prop):=A6 a b c d e f g h (A6 i j k l m n o p (A6 q r s t u v w x (A6 y z B C D E F G H)));
 let Ad:=false=false;
 let Ae:=(0:Nat)+A7.toNat;
 let Af:=(List.getD ps Ae (El.zero shP)).2;
 let Ah:=decide (A7<(↑A2:Int));
 let Ai := !zgg r.1 Af.2 Af.1;
 let Aj:=(0:Int)≤A7∧A7<(↑A2:Int);
 let Ak(a b:Prop):=A4 a b A5 (A3 r=A3 r) (A6 A5 (Aa r=Aa r) (r.3=r.3) (r.4=r.4) (r.5=r.5) (r.6=r.6) (r.7=r.7) (r.8=r.8) (Ac (r.9=r.9) (r.10=r.10) (r.11=r.11) (r.12=r.12) (r.13=r.13) (r.14=r.14) A5 (Ab r.15
  r.15) (r.16=r.16) (r.17=r.17) A5 (Ab r.18 r.18) (r.19=r.19) (r.20=r.20) A5 (Ab r.21 r.21) (r.22=r.22) (r.23=r.23) (r.24=r.24) (r.25=r.25) A5 (A9 r=A9 r) (r.27=r.27) (r.28=r.28) (r.29=r.29) (r.30=r.30) (r.31=r.31)
  (A8=A8) (A8=A8) A0 A0 Ad (Ac Ad A0 A0 A0 A0 A0 A0 A0 A0 (A8=A8) A0 A0 (A8=A8) A0 A0 (A8=A8) Ad A0 A0 A0 (A8=A8) Ad Ad A0 Ad A0 (ps=ps) (r.1=r.1) (r.2=r.2) (r.15=r.15) (r.18=r.18) (r.21=r.21) (r.26=r.26))));
 (Ah=true→A1 Aj (Ae<A2) (A4 Aj (Ae<A2) (A1 (A3 r=A3 r) (SzR (A3 r)) ((0:PmT [i64])≤Af.1)) (Ai=true→Aj∧A1 (Ae<A2) (A3 r=A3 r∧A4 (Aa r=Aa r) (Ab r.15 r.15) (Ab r.18 r.18) (Ab r.21 r.21) (A9 r=A9 r)) (∃(x0 :
  Unit),(A5∧A4 (A2=A2) A5 (A3 z=A3 r) A5 (A6 (Aa z=Aa r) (z.3=r.3) (z.4=r.4) (z.5=r.5) (z.6=r.6) (z.7=r.7) (z.8=r.8) (z.9=r.9) (Ac (z.10=r.10) (z.11=r.11) (z.12=r.12) (z.13=r.13) (z.14=r.14) A5 (Ab z.15 r.15)
  (z.16=r.16) (z.17=r.17) A5 (Ab z.18 r.18) (z.19=r.19) (z.20=r.20) A5 (Ab z.21 r.21) (z.22=r.22) (z.23=r.23) (z.24=afM kind) (z.25=(List.getD ps Ae (El.zero shP)).1) A5 (A9 z=A9 r) (z.27=r.27) (z.28=r.28) (z.29 =
  r.29) (z.30=r.30) (z.31=r.31) (ps=ps) (z.1=r.1) (z.2=r.2) (z.15=r.15) (z.18=r.18) (z.21=r.21) (z.26=r.26))))∧True)) (Ai=false→∃(x1:Nat),A4 (A1 (kind=kind) A5 (Ak (A2=A2) ((↑x1:Int)=IntKind.i64.wrap (A7
  + 1)))) (A4 (x1≤A2) (A2≤2) (SzR (A3 r)) (zbt kind r (List.drop x1 ps)=z) (∀(x2:Int × Int × Int),List.Mem x2 ps→0≤x2.2.1∧0≤x2.2.2)) (A2-x1<A2-i) (∀(x3:Unit),r =
  z→r=z) (∀(x4:Unit),True→True))))∧(Ah=false→∃(x5:Unit),Ak A5 (A2=A2)∧r=z)):=by kernel_rfl
theorem zr4(r:Rn)(kind va w:Int)(R:Rn)(S:Ps)(f:Bool)(z:Rn)(y:Rn)(T:Ps):ydi r kind va w R S f z y T=(
 let A0(a b c:Prop):=a∧b∧c;
 let A1(a b c d e:Prop):=A0 a b (A0 c d e);
 let A2:=(0:Int)=0;
 let A3:=(0:Nat)=0;
 let A4(a b c d e f g h i:Prop):=A1 a b c d (A1 e f g h i);
 let A5(a b:Es):=List.length a=List.length b;
 let A6(a:Rn):=List.length a.1;
 let A7(a:Rn):=List.length a.26;
 let A8:=Value.slice none 0 0;
 let A9:=List.length S;
 let Aa(a:Int):=IntKind.i64.wrap a;
 let Ab:=false=false;
 let Ac(a b c d e f:Prop)(g h:Rn)(i j k l m n o p q r s t u v:Prop):=A4 a b c d e f A3 (A5 g.15 h.15) (A4 i j A3 (A5 g.18 h.18) k l A3 (A5 g.21 h.21) (A4 m n o p A3 q (g.27=h.27) r (A4 s t u (A8=A8) (A8=A8) A2 A2 Ab v)));
 let Ad(a:Rn):=A4 (y.12=a.12) (y.13=a.13) (y.14=a.14) A3 (A5 y.15 a.15) (y.16=a.16) (y.17=a.17) A3 (A4 (A5 y.18 a.18) (y.19=a.19) (y.20=a.20) A3 (A5 y.21 a.21) (y.22=a.22) (y.23=a.23) (y.24=a.24) (A4 (y.25=a.25) A3
  (A7 y=A7 a) (y.27=a.27) (y.28=a.28) (y.29=a.29) (y.30=a.30) (y.31=a.31) (A4 A3 (List.length T=A9) (y.1=a.1) (y.2=a.2) (y.15=a.15) (y.18=a.18) (y.21=a.21) (y.26=a.26) (T=S))));
 let Ae(a b:Rn):=List.length a.2=List.length b.2;
 let Af(a:Nat):=(↑a:Int)=0;
 let Ah(a:Prop)(b:Rn)(c:Prop):=a→A3∧A1 (A6 y=A6 b) A3 (Ae y b) (y.3=b.3) (A4 (y.4=b.4) (y.5=b.5) (y.6=b.6) (y.7=b.7) (y.8=b.8) (y.9=b.9) (y.10=b.10) (y.11=b.11) c);
 let Ai:=(64:Int)-Aa (va.tmod 64);
 let Aj(a:Rn × Ps × Nat)(b:Int)(c:List (El [Ty.i IntKind.u64,Ty.i IntKind.i64,Ty.i IntKind.u64])):=A4 Ab A2 A2 A2 A2 A2 A2 A2 (A4 A2 (A8=A8) A2 A2 (A8=A8) A2 A2 (A8=A8) (A4 Ab A2 A2 A2 (A8=A8) Ab (false=false) A2 (A4
  Ab A2 (a.2.1=(va,b,0)::c) (a.1.1=r.1) (a.1.2=r.2) (a.1.15=r.15) (a.1.18=r.18) (a.1.21=r.21) (a.1.26=r.26))));
 let Ak:=decide (w>(Aa Ai));
 let Al(a:Int × Int × Int):=List.Mem a S→0≤a.2.1∧0≤a.2.2;
 let Am(a:Rn × Ps × Nat)(b:Nat)(c d:Prop):=A0 (kind=kind) A3 (A1 (List.length a.2.1=b) (Af a.2.2) A3 (A6 a.1=A6 r) (A4 A3 (Ae a.1 r) (a.1.3=r.3) (a.1.4=r.4) (a.1.5=r.5) (a.1.6=r.6) (a.1.7=r.7)
  (a.1.8=r.8) (Ac (a.1.9=r.9) (a.1.10=r.10) (a.1.11=r.11) (a.1.12=r.12) (a.1.13=r.13) (a.1.14=r.14) a.1 r (a.1.16=r.16) (a.1.17=r.17) (a.1.19=r.19) (a.1.20=r.20) (a.1.22=r.22) (a.1.23 =
  r.23) (a.1.24=r.24) (a.1.25=r.25) (A7 a.1=A7 r) (a.1.28=r.28) (a.1.29=r.29) (a.1.30=r.30) (a.1.31=r.31) c)))∧A0 (zss kind (R,S,f) a.1 a.2.1 a.2.2) d (∀(x6:Unit),Ah (f=true) R (Ad R));
 let An(a:Nat)(b:Prop):=A0 (kind=kind) A3 (A1 (A9=A9) (Af a) A3 (A6 R=A6 R) (A4 A3 (Ae R R) (R.3=R.3) (R.4=R.4) (R.5=R.5) (R.6=R.6) (R.7=R.7) (R.8=R.8) (Ac (R.9=R.9) (R.10=R.10) (R.11=R.11) (R.12=R.12) (R.13
  = R.13) (R.14=R.14) R R (R.16=R.16) (R.17=R.17) (R.19=R.19) (R.20=R.20) (R.22=R.22) (R.23=R.23) (R.24=R.24) (R.25=R.25) (A7 R=A7 R) (R.28=R.28) (R.29=R.29) (R.30=R.30) (R.31=R.31) (A4 Ab A2 A2 A2 A2 A2 A2 A2 (A4
  A2 (A8=A8) A2 A2 (A8=A8) A2 A2 (A8=A8) (A4 Ab A2 A2 A2 (A8=A8) Ab (false=false) A2 (A4 Ab A2 (S=S) (R.1=R.1) (R.2=R.2) (R.15=R.15) (R.18=R.18) (R.21=R.21) (R.26=R.26))))))))∧A0 (A1 (a≤A9) (A9≤2) (SzR
  (A6 R)) (zbt kind R (List.drop a S)=z) b) (∀(x4:Unit),Ah (R=z) R (Ad R)) (∀(x5:Unit),Ah True z (Ad z));
 A0 ((64:Int)≠0) (Ak=true→∃(x0:Rn × Ps × Nat),Am x0 2 (Aj x0 (Aa Ai) ((IntKind.u64.wrap (va+IntKind.u64.wrap (Aa Ai)),Aa (w-Aa Ai),0)::[])) (∀(x1:Unit),f=false→∃(x2:Nat),An x2 (∀
  (x3:Int × Int × Int),Al x3))) (Ak=false→∃(x7:Rn × Ps × Nat),Am x7 1 (Aj x7 w []) (∀(x1:Unit),f=false→∃(x2:Nat),An x2 (∀(x3:Int × Int × Int),Al x3)))):=by kernel_rfl
set_option linter.unusedSimpArgs false
set_option linter.unusedVariables false
theorem zmc(m:By):∀a b:Ps,zeo m (a++b)=zeo m a++zeo m b
 | [],b=>rfl
 | p::a,b=>by simp only[List.cons_append,zeo];rw[zmc m a b,List.append_assoc]
theorem zis:∀a b:Ps,zd9 (a++b)=zd9 a+zd9 b
 | [],b=>by simp[zd9]
 | p::a,b=>by simp only[List.cons_append,zd9];rw[zis a b];omega
theorem znq(p:Pt):∀(a:Ps)(m b:By),zii m (a++[p]) b=zg0 (zii m a b) p.2.2.toNat ((b.drop (zd9 a)).take p.2.1.toNat)
 | [],m,b=>by simp[zii,zd9]
 | q::a,m,b=>by
  simp only[List.cons_append,zii,zd9]
  rw[znq p a,List.drop_drop]
theorem zxz{m b:By}{a:Nat}(h:a+b.length≤m.length):(zg0 m a b).length=m.length:=by simp[zg0];omega
theorem ziy:∀(ps:Ps)(m b:By),(∀p ∈ ps,0≤p.2.1∧0≤p.2.2∧p.2.2+p.2.1≤m.length)→(zii m ps b).length=m.length
 | [],m,b,_=>rfl
 | p::ps,m,b,h=>by
  simp only[zii]
  obtain⟨h1,h2,h3⟩:=h p (by simp)
  have e:(zg0 m p.2.2.toNat (b.take p.2.1.toNat)).length=m.length:=zxz (by simp;omega)
  rw[ziy ps _ _ (fun q hq=>by rw[e];exact h q (by simp[hq])),e]
theorem zre{ps:Ps}{k:Nat}:zd9 (ps.take k)≤zd9 ps:=by
 have:=zis (ps.take k) (ps.drop k)
 rw[List.take_append_drop] at this
 omega
theorem zj9{m:By}(hm:zaj m):∀{ps:Ps},∀b ∈ zeo m ps,0≤b∧b<256
 | [],b,h=>by cases h
 | p::ps,b,h=>by
  simp only[zeo] at h
  rcases List.mem_append.1 h with h|h
  · exact hm.2 b (List.mem_of_mem_drop (List.mem_of_mem_take h))
  · exact zj9 hm b h
theorem ze7{m:By}:∀{ps:Ps},(zeo m ps).length≤zd9 ps
 | []=>Nat.le_refl _
 | p::ps=>by
  simp only[zeo,zd9,List.length_append]
  have:=ze7 (m:=m) (ps:=ps)
  simp
  omega
theorem zhf{α:Type}{l:List α}{k:Nat}(h:k<l.length)(d:α):l.getD k d ∈ l:=by
 rw[List.getD_eq_getElem?_getD,List.getElem?_eq_getElem h]
 exact List.getElem_mem h
theorem ysf:DictOk Tryz.prog FEF0:=zay (zei.append zc4) .nil .nil
theorem yng:Sound Tryz.prog 234 (zai [byP,psP] [u64] (fun t=>some (zaj t.1∧PsR t.1.length t.2)) (fun t=>zbq (zeo t.1 t.2))):=by
 refine zbl mixed Tryz.func234 (by kernel_rfl) (b:=zag Tryz.f234 0) (k:=3) (by kernel_rfl) (by kernel_rfl) (by kernel_rfl) ysf (fun t h => ?_)
 obtain⟨m,ps⟩:By × Ps:=t
 obtain⟨hm,hp⟩:zaj m∧PsR m.length ps:=h
 obtain⟨p1,p2,p3,p4⟩:=id hp
 refine⟨_,ym3 m ps,fun k:Nat=>ps.length-k,za3 _ _,fun  (k:Nat) hk => ?_,zab (zyo m ps) ⟨0,by simp[zeo],⟨Nat.zero_le _,hp⟩,fun _ _=>⟨⟨by omega, ?_, ?_⟩, ?_⟩⟩⟩
 · obtain⟨k1,_⟩:k≤ps.length∧PsR m.length ps:=hk
   refine zab (zr3 m ps k) ?_
   conv=>zeta
   refine⟨fun q => ?_,fun q => ?_⟩
   · have q:(k:Int)<ps.length:=of_decide_eq_true q
     have hlt:k<ps.length:=by omega
     have e2:IntKind.i64.wrap ((k:Int)+1)=((k+1:Nat):Int):=by rw[zaa (by omega) (by omega)];omega
     have e3:0+(k:Int).toNat=k:=by omega
     have et:=zhp hlt (El.zero shP)
     have hmem:=zhf hlt (El.zero shP)
     have hoff:=zre (ps:=ps) (k:=k+1)
     rw[e3,e2]
     have ec:zeo m (ps.take (k+1))=zeo m (ps.take k)++((m.drop (ps.getD k (El.zero shP)).2.2.toNat).take (ps.getD k (El.zero shP)).2.1.toNat):=by
      rw[et,zmc];simp[zeo]
     have hc:=ze7 (m:=m) (ps:=ps.take k)
     have ho:=zre (ps:=ps) (k:=k)
     generalize ps.getD k (El.zero shP)=p at *
     obtain⟨a,n,pa⟩:Int × Int × Int:=p
     obtain⟨b1,b2,b3,b4⟩:0≤n∧n≤8∧0≤pa∧pa+n≤m.length:=p4 _ hmem
     simp only at ec ⊢
     have w1:IntKind.i64.wrap pa=pa:=zaa (by omega) (by omega)
     have w2:IntKind.i64.wrap (pa+n)=pa+n:=zaa (by omega) (by omega)
     have w3:(pa+n).toNat-pa.toNat=n.toNat:=by omega
     have w4:(List.take n.toNat (List.drop (0+pa.toNat) m)).length=n.toNat:=by simp;omega
     rw[w1,w2,w3,w4]
     refine⟨⟨by omega,by omega⟩,hlt,⟨by omega,by omega⟩,hlt,⟨b3,by omega,b4⟩,⟨by omega,Nat.le_refl _,by omega⟩,k+1, ?_,⟨by omega,hp⟩,by omega,fun _ _=>trivial⟩
     have g1:(zeo m (ps.take (k+1))).length=(zeo m (ps.take k)).length+n.toNat:=by rw[ec,List.length_append];rw[Nat.zero_add] at w4;rw[w4]
     have g2:zeo m (ps.take (k+1))=List.take (zeo m (ps.take k)).length (zeo m (ps.take k))++List.take n.toNat (List.drop (0+pa.toNat) m):=by rw[ec,List.take_length,Nat.zero_add]
     repeat' apply And.intro
     all_goals first|exact trivial|rfl|exact g1|exact g2
   · have q:¬ (k:Int)<ps.length:=of_decide_eq_false q
     have ek:k=ps.length:=by omega
     subst ek
     exact⟨(),by simp,trivial⟩
 · rw[List.drop_zero,List.take_length]
   have:=ze7 (m:=m) (ps:=ps)
   exact⟨by show _≤_;omega,zj9 hm⟩
 · rw[List.drop_zero,List.take_length]
   have:=ze7 (m:=m) (ps:=ps)
   omega
 · rw[List.drop_zero,List.take_length]
   repeat' apply And.intro
   all_goals rfl
theorem ycx{P:Program}{D:Dict}{Ξ:Specs}{fn:Func}{R:List Pm}(t:PmT [byP,i64,byP])(y:PmT R):zal P D Ξ fn [byP,i64,bsP] R t y=zal P D Ξ fn [byP,i64,byP] R t y:=by
 unfold zal
 rfl
theorem yhe:Sound Tryz.prog 189 (zai [byP,i64,bsP] [byP] (fun t=>some (SzR t.1.length∧0≤t.2.1∧t.2.1+t.2.2.length≤t.1.length)) (fun t=>zg0 t.1 t.2.1.toNat t.2.2)):=by
 refine zad mixed Tryz.func189 (by kernel_rfl) (by kernel_rfl) zdc (fun t h => ?_)
 rw[ycx]
 obtain⟨m,a,b⟩:By × Int × By:=t
 obtain⟨h1,h2,h3⟩:SzR m.length∧0≤a∧a+b.length≤m.length:=h
 unfold SzR at h1
 refine zab (znz m a b) ?_
 conv=>zeta
 have e:IntKind.i64.wrap (a+(b.length:Int))=a+b.length:=zaa (by omega) (by omega)
 have e2:(a+(b.length:Int)).toNat=a.toNat+b.length:=by omega
 have e3:List.take (List.length b) (List.drop 0 b)=b:=by simp
 have e4:List.take (a.toNat-Int.toNat 0) (List.drop (0+Int.toNat 0) m)=List.take a.toNat m:=rfl
 have e5:List.take ((m.length:Int).toNat-(a.toNat+b.length)) (List.drop (0+(a.toNat+b.length)) m)=List.drop (a.toNat+b.length) m:=by
  rw[Nat.zero_add];exact List.take_of_length_le (by simp<;>omega)
 have e6:(List.take a.toNat m).length=a.toNat:=by simp;omega
 rw[e,e2,e3,e4,e5]
 simp only[List.length_append,e6,List.nil_append,List.length_drop,Nat.zero_add]
 have e7:List.take a.toNat (List.take a.toNat m)=List.take a.toNat m:=by rw[List.take_take,Nat.min_self]
 have e8:List.take (a.toNat+b.length) (List.take a.toNat m++b)=List.take a.toNat m++b:=List.take_of_length_le (by rw[List.length_append,e6];exact Nat.le_refl _)
 rw[e7,e8]
 refine⟨⟨by omega,by omega,by omega⟩,⟨by omega,by omega,by omega⟩,⟨by omega,by omega,by omega⟩,⟨by omega,by omega,by omega⟩,⟨by omega, ?_,by omega⟩, ?_, ?_, ?_, ?_, ?_⟩
 · simp[e6]
 all_goals first|trivial|rfl|omega
theorem yt2:zar Tryz.prog kEF1 := .cons (by kernel_rfl) yhe .nil
theorem yej:DictOk Tryz.prog FEF1:=zay (yt2.append (zei.append zc4)) .nil .nil
theorem ynh:Sound Tryz.prog 235 (ztv [byP,psP,i64,u64] [byP] (fun t=>some (PsR t.1.length t.2.1∧(zd9 t.2.1:Int)=t.2.2.1∧U64 t.2.2.2)) (fun t=>zii t.1 t.2.1 (zce t.2.2.2 t.2.2.1.toNat))):=by
 refine yh4 mixed Tryz.func235 (by kernel_rfl) yej (fun t h => ?_)
 obtain⟨m,ps,w,x⟩:By × Ps × Int × Int:=t
 obtain⟨hp,hw,hx⟩:PsR m.length ps∧(zd9 ps:Int)=w∧U64 x:=h
 obtain⟨p1,p2,p3,p4⟩:=id hp
 have hw0:0≤w:=by omega
 have hwn:zd9 ps=w.toNat:=by omega
 refine⟨.one 3 (yob m ps w x),yht mixed yej (b:=zag Tryz.f235 0) (k:=3) (by kernel_rfl) (by kernel_rfl) (by kernel_rfl) (za3 _ _) (μ:=fun k:Nat=>ps.length-k) (fun  (k:Nat) hk => ?_),zab (zyr m ps w x) ⟨⟨hx,hw0,by omega⟩,0,by simp[zii,zd9,zde],⟨Nat.zero_le _,hp,hwn,hw0⟩,fun _ _ => ?_⟩⟩
 · obtain⟨k1,_⟩:k≤ps.length∧PsR m.length ps∧zd9 ps=w.toNat∧0≤w:=hk
   refine zab (zr7 m ps w x k) ?_
   conv=>zeta
   refine⟨fun q => ?_,fun q => ?_⟩
   · have q:(k:Int)<ps.length:=of_decide_eq_true q
     have hlt:k<ps.length:=by omega
     have e2:IntKind.i64.wrap ((k:Int)+1)=((k+1:Nat):Int):=by rw[zaa (by omega) (by omega)];omega
     have e3:0+(k:Int).toNat=k:=by omega
     have et:=zhp hlt (El.zero shP)
     have hmem:=zhf hlt (El.zero shP)
     have ho:=zre (ps:=ps) (k:=k)
     have ho1:=zre (ps:=ps) (k:=k+1)
     have hl:=ziy (ps.take k) m (zce x w.toNat) (fun p hp=>by obtain⟨a,b,c,d⟩:=p4 p (List.mem_of_mem_take hp);exact⟨a,c,d⟩)
     have es:zii m (ps.take (k+1)) (zce x w.toNat)=zg0 (zii m (ps.take k) (zce x w.toNat)) (ps.getD k (El.zero shP)).2.2.toNat (((zce x w.toNat).drop (zd9 (ps.take k))).take (ps.getD k (El.zero shP)).2.1.toNat):=by rw[et,znq]
     have eo:zd9 (ps.take (k+1))=zd9 (ps.take k)+(ps.getD k (El.zero shP)).2.1.toNat:=by rw[et,zis];simp[zd9]
     have hbl:=zde x w.toNat
     rw[e3,e2]
     generalize ps.getD k (El.zero shP)=p at *
     obtain⟨a,n,pa⟩:Int × Int × Int:=p
     obtain⟨b1,b2,b3,b4⟩:0≤n∧n≤8∧0≤pa∧pa+n≤m.length:=p4 _ hmem
     simp only at es eo ⊢
     have w1:IntKind.i64.wrap pa=pa:=zaa (by omega) (by omega)
     have w4:(List.take n.toNat (List.drop (zd9 (ps.take k)) (zce x w.toNat))).length=n.toNat:=by simp[hbl];omega
     rw[w1]
     simp only[Int.toNat_zero,Nat.sub_zero,Nat.add_zero,w4,hl,hbl]
     have hput:(zg0 (zii m (ps.take k) (zce x w.toNat)) pa.toNat (List.take n.toNat (List.drop (zd9 (ps.take k)) (zce x w.toNat)))).length=m.length:=by rw[zxz (by rw[w4,hl];omega),hl]
     refine⟨⟨by omega,by omega⟩,hlt,⟨by omega,by omega⟩,hlt,⟨by omega,b1,by omega⟩,⟨trivial,by omega,p1,b3,(by show pa+(n.toNat:Int)≤(m.length:Int);omega)⟩,⟨by omega,by omega⟩,hlt,⟨b1,by omega,Int.le_refl _⟩,k+1, ?_,⟨by omega,hp,hwn,hw0⟩,by omega,fun _ _=>trivial⟩
     have g3:w.toNat-zd9 (ps.take (k+1))=((w.toNat-zd9 (ps.take k):Nat):Int).toNat-n.toNat:=by omega
     repeat' apply And.intro
     all_goals first|exact trivial|rfl|exact hput.symm|exact eo|exact g3|exact es
   · have q:¬ (k:Int)<ps.length:=of_decide_eq_false q
     have ek:k=ps.length:=by omega
     subst ek
     exact⟨(),by simp,trivial⟩
 · have hl:=ziy ps m (zce x w.toNat) (fun p hp=>by obtain⟨a,b,c,d⟩:=p4 p hp;exact⟨a,c,d⟩)
   simp[hl]
theorem zh7(r:Rn)(kind va:Int):(zao r kind va).1.ks=r.ks++[(kind,va)]:=by
 unfold zao
 split<;>rfl
theorem zmh{α:Type}{m:List α}{i:Nat}(h:i<m.length)(d:α):m.drop i=m.getD i d::m.drop (i+1):=by
 rw[List.getD_eq_getElem?_getD,List.getElem?_eq_getElem h]
 exact List.drop_eq_getElem_cons h
theorem take_set{α:Type}{m:List α}{i:Nat}(h:i<m.length)(x:α):(m.set i x).take (i+1)=m.take i++[x]:=by
 have h':i<(m.set i x).length:=by simpa using h
 rw[zhp h' x]
 rw[List.take_set,List.set_eq_of_length_le (by rw[List.length_take];omega),List.getD_eq_getElem?_getD,List.getElem?_set_self h]
 rfl
theorem yfu{α:Type}{m:List α}{i:Nat}(x:α):(m.set i x).drop (i+1)=m.drop (i+1):=by
 rw[List.drop_set,if_pos (by omega)]
theorem zwg:DictOk Tryz.prog ysg:=zay (yg7.append (zei.append zc4)) .nil .nil
theorem znj(kind:Int):∀(todo:Ps)(r:Rn)(done:Ps),RnR r→r.ks.length+todo.length≤2097152→(∀p ∈ todo,U64 p.1) →
 RnR (zaz kind r done todo).1∧(zaz kind r done todo).1.ks.length≤r.ks.length+todo.length∧∃qs:List Int,(zaz kind r done todo).2.1=done++List.zipWith (fun  (p:Pt) q=>(p.1,p.2.1,q)) todo qs∧qs.length=todo.length∧((∀p ∈ todo,U64 p.2.2)→∀q ∈ qs,U64 q)
 | [],r,done,h,_,_=>⟨h,Nat.le_refl _,[],by simp[zaz],rfl,fun _ q hq=>(by cases hq)⟩
 | p::todo,r,done,h,hk,hv=>by
  have hk:r.ks.length+(todo.length+1)≤2097152:=hk
  obtain⟨t1,t2⟩:=zgw h (kind:=kind) (hv p (by simp)) (show r.ks.length+1≤2097152 by omega)
  have tk:=zh7 r kind p.1
  unfold zaz
  split
  · obtain⟨a,b,qs,c,d,e⟩:=znj kind todo (zao r kind p.1).1 (done++[(p.1,p.2.1,(zao r kind p.1).2.2)]) t1 (by rw[tk];simp;omega) (fun q hq=>hv q (by simp[hq]))
    refine⟨a,by rw[tk,List.length_append] at b;simp only[List.length_cons,List.length_nil] at b ⊢;omega,(zao r kind p.1).2.2::qs,by rw[c];simp,by simp[d],fun hu q hq => ?_⟩
    rcases List.mem_cons.1 hq with rfl|hq
    · exact t2
    · exact e (fun q hq=>hu q (by simp[hq])) q hq
  · refine⟨⟨t1.1,t1.2.1,t1.2.2⟩, ?_,p.2.2::todo.map (·.2.2), ?_,by simp,fun hu q hq => ?_⟩
    · show (zao r kind p.1).1.ks.length≤_
      rw[tk,List.length_append,List.length_cons,List.length_nil,List.length_cons];omega
    · have:∀l:Ps,List.zipWith (fun  (p:Pt)(q:Int)=>((p.1,p.2.1,q):Pt)) l (l.map (·.2.2))=l:=by
       intro l
       induction l with
       | nil=>rfl
       | cons a l ih=>simp only[List.map_cons,List.zipWith_cons_cons,ih]
      simp only[List.zipWith_cons_cons,this]
    · rcases List.mem_cons.1 hq with rfl|hq
      · exact hu p (by simp)
      · obtain⟨x,hx,rfl⟩:=List.mem_map.1 hq
        exact hu x (by simp[hx])
theorem ynw{kind:Int}{R:Rn}{S:Ps}{f:Bool}{r:Rn}{ps:Ps}{i:Nat}(h:zss kind (R,S,f) r ps i):zam Tryz.prog ysg .none 6 (zag Tryz.f233 0) (zri kind (R,S,f)) (fun x:Rn × Ps × Nat=>x.2.1.length-x.2.2) (r,ps,i):=by
 obtain⟨h1,h2,h3,h4,h5,h6⟩:=h
 refine zab (zlf kind R S f r ps i) ?_
 conv=>zeta
 refine⟨fun q => ?_,fun q => ?_⟩
 · have q:(i:Int)<ps.length:=of_decide_eq_true q
   have hlt:i<ps.length:=by omega
   have e2:IntKind.i64.wrap ((i:Int)+1)=((i+1:Nat):Int):=by rw[zaa (by omega) (by omega)];omega
   have e3:0+(i:Int).toNat=i:=by omega
   have hmem:=zhf hlt (El.zero shP)
   rw[zmh hlt (El.zero shP)] at h6
   rw[e3,e2]
   have hp1:=h5 _ hmem
   have hfull:ps.take i++ps.getD i (El.zero shP)::ps.drop (i+1)=ps:=by rw[← zmh hlt,List.take_append_drop]
   generalize ps.getD i (El.zero shP)=p at *
   have ht:=zgw h1 (kind:=kind) hp1 (show r.ks.length+1≤2097152 by omega)
   have tk:=zh7 r kind p.1
   unfold zaz at h6
   by_cases hc:(zao r kind p.1).2.1=0
   · rw[if_pos hc] at h6
     refine⟨⟨by omega,by omega⟩,hlt,⟨rfl,rfl,rfl,rfl,rfl,rfl,h1,hp1⟩,fun g=>absurd hc (by simpa using g),fun _=>⟨⟨by omega,by omega⟩,hlt,((zao r kind p.1).1,ps.set i (p.1,p.2.1,(zao r kind p.1).2.2),i+1), ?_,⟨ht.1, ?_, ?_, ?_, ?_, ?_⟩, ?_,fun _ g=>g,fun _ g=>g⟩⟩
     · have el:(ps.set i (p.1,p.2.1,(zao r kind p.1).2.2)).length=ps.length:=List.length_set
       repeat' apply And.intro
       all_goals first|exact trivial|rfl|exact el
     · simp;omega
     · simp;omega
     · rw[tk];simp;omega
     · intro x hx
       rcases List.mem_or_eq_of_mem_set hx with hx|rfl
       · exact h5 x hx
       · exact hp1
     · rw[take_set hlt,yfu]
       exact h6
     · simp;omega
   · rw[if_neg hc] at h6
     have g1:zd1 (zao r kind p.1).1 (zao r kind p.1).2.1 p.1=R:=congrArg Prod.fst h6
     have g2:ps.take i++p::ps.drop (i+1)=S:=congrArg (fun x=>x.2.1) h6
     have g3:true=f:=congrArg (fun x=>x.2.2) h6
     rw[hfull] at g2
     subst g1 g2 g3
     refine⟨⟨by omega,by omega⟩,hlt,⟨rfl,rfl,rfl,rfl,rfl,rfl,h1,hp1⟩,fun _=>⟨⟨by omega,by omega⟩,hlt,(by (repeat' apply And.intro)<;>rfl),(), ?_,rfl⟩,fun g=>absurd (by simpa using g) hc⟩
     repeat' apply And.intro
     all_goals rfl
 · have q:¬ (i:Int)<ps.length:=of_decide_eq_false q
   have ei:i=ps.length:=by omega
   subst ei
   simp only[List.take_length,List.drop_length,zaz] at h6
   have g1:r=R:=congrArg Prod.fst h6
   have g2:ps=S:=congrArg (fun x=>x.2.1) h6
   have g3:false=f:=congrArg (fun x=>x.2.2) h6
   subst g1 g2 g3
   refine⟨(), ?_,rfl⟩
   repeat' apply And.intro
   all_goals first|exact trivial|rfl
theorem ynx{kind:Int}{r:Rn}{ps:Ps}{z:Rn}{i:Nat}(h:i≤ps.length∧ps.length≤2∧SzR r.m.length∧zbt kind r (ps.drop i)=z∧∀p ∈ ps,0≤p.2.1∧0≤p.2.2):zam Tryz.prog ysg .none 6 (zag Tryz.f233 1) (zrj kind r ps z) (fun i:Nat=>ps.length-i) i:=by
 obtain⟨h1,h2,h3,h4,h5⟩:=h
 refine zab (zlg kind r ps z i) ?_
 conv=>zeta
 refine⟨fun q => ?_,fun q => ?_⟩
 · have q:(i:Int)<ps.length:=of_decide_eq_true q
   have hlt:i<ps.length:=by omega
   have e2:IntKind.i64.wrap ((i:Int)+1)=((i+1:Nat):Int):=by rw[zaa (by omega) (by omega)];omega
   have e3:0+(i:Int).toNat=i:=by omega
   have hmem:=zhf hlt (El.zero shP)
   rw[zmh hlt (El.zero shP)] at h4
   rw[e3,e2]
   obtain⟨b1,b2⟩:=h5 _ hmem
   generalize ps.getD i (El.zero shP)=p at *
   unfold zbt at h4
   by_cases hc:zgg r.m p.2.2 p.2.1=true
   · rw[if_pos hc] at h4
     refine⟨⟨by omega,by omega⟩,hlt,⟨by omega,by omega⟩,hlt,⟨rfl,h3,b1⟩,fun g=>absurd hc (by simpa using g),fun _=>⟨i+1, ?_,⟨by omega,h2,h3,h4,h5⟩,by omega,fun _ g=>g,fun _ _=>trivial⟩⟩
     repeat' apply And.intro
     all_goals first|exact trivial|rfl
   · rw[if_neg hc] at h4
     subst h4
     refine⟨⟨by omega,by omega⟩,hlt,⟨by omega,by omega⟩,hlt,⟨rfl,h3,b1⟩,fun _=>⟨⟨by omega,by omega⟩,hlt,(by (repeat' apply And.intro)<;>rfl),(), ?_,trivial⟩,fun g=>absurd (by simpa using g) hc⟩
     repeat' apply And.intro
     all_goals rfl
 · have q:¬ (i:Int)<ps.length:=of_decide_eq_false q
   have ei:i=ps.length:=by omega
   subst ei
   simp only[List.drop_length,zbt] at h4
   refine⟨(), ?_,h4⟩
   repeat' apply And.intro
   all_goals first|exact trivial|rfl
end Go.Proofs.YtfiddfbagbaofaaGreat.V
