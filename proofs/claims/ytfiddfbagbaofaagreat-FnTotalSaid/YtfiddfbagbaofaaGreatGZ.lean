/- The reference's translation with caches answers as the program's; the law returns true. Conditions: those in each statement. -/
import Derived.Test.YtfiddfbagbaofaaGreatGY
import Derived.KernelRfl
namespace Go.Proofs.YtfiddfbagbaofaaGreat.V
open Go
def kZ0:Known:=kI2++kH++kK2++kY1++kN2++kO1++kM
def FZ0:Dict:=mkD kZ0 [] []
abbrev Ans:=Int × Int
def spH(box isI:Bool)(m:By)(c:Ct)(k:Cch)(P2:Es):Heap:=[.arr [.i .u8] m false,.arr shE k.1.2.2 false,.arr shE k.2.1.2.2 false,.arr shE k.2.2.2.2 false,
 .fix [.v (.int .i64 c.1),.v (.bool c.2.1),.v (.bool c.2.2.1),.v (.int .u64 c.2.2.2)] true (some 65),
 cond box (.fix (tlA k.1.1 k.1.2.1 1 k.1.2.2.length++(tlA k.2.1.1 k.2.1.2.1 2 k.2.1.2.2.length++tlA k.2.2.1 k.2.2.2.1 3 k.2.2.2.2.length)) true (some 39)) .dead,
 .fix [.v (.int .i64 0),.v (.int .u64 0),.v (.int .i64 0),.v (.int .i64 0),.v (.slice none 0 0),.v (.int .i64 0),.v (.int .i64 0),.v (.slice none 0 0),.v (.int .i64 0),.v (.int .i64 0),.v (.slice none 0 0)] true (some 69),
 .fix ([.v (.int .i64 0),.v (.int .u64 0)]++(tlA k.1.1 k.1.2.1 8 k.1.2.2.length++(tlA k.2.1.1 k.2.1.2.1 9 k.2.1.2.2.length++tlA k.2.2.1 k.2.2.2.1 10 P2.length))) true (some 69),
 .arr shE k.1.2.2 true,.arr shE k.2.1.2.2 true,.arr shE P2 true,
 .fix (cond isI (tlA k.1.1 k.1.2.1 1 k.1.2.2.length) (tlA k.2.1.1 k.2.1.2.1 2 k.2.1.2.2.length)) true (some 37)]
def yz7(kind va pick:Int)(l:List (Nat × Av)):List Av:=slots 197 ([(3,.v (.int .i64 kind)),(4,.v (.int .u64 va)),(5,.v (.int .i64 pick)),(7,.ptr 4 0),(12,.ptr 6 0),(13,.ptr 7 0),(14,.ptr 11 0)]++l)
def wkA(W:Wr)(id:Nat):List Av:=[.v (.int .i64 W.1),.v (.int .i64 W.2.1),.v (.int .u64 W.2.2.1),.sl id 3 0 W.2.2.2.length]
def yd9(c:Ct)(k:Cch)(va pick:Int)(rs:Rs):Prop:=U64 c.2.2.2∧U64 va∧0≤pick∧pick≤255∧zat true k.2.2=true∧TlR k.2.2∧rs.length≤3∧∀r ∈ rs,LvR r.1∧U64 r.2.2
def spL(isI:Bool)(m:By)(c:Ct)(k:Cch)(kind va pick:Int)(W:Wr):LoopS where
 α:=Nat
 I i:=i≤W.2.2.2.length∧yd9 c k va pick W.2.2.2
 sl i:=yz7 kind va pick [(17,.ptr 12 0),(19,.v (.int .i64 (i:Int)))]
 H i:=spH false isI m c k (zae va c.2.2.2 pick k.2.2 (W.2.2.2.take i)).2.2++[.fix (wkA W 13) true (some 183),.arr shR W.2.2.2 true]
 fams:=[{ β:=Unit,out:=fun _ _=>True,ex := .ext 0,sl:=fun _=>yz7 kind va pick [(17,.ptr 12 0)],H:=fun _=>spH false isI m c k (zae va c.2.2.2 pick k.2.2 W.2.2.2).2.2++[.fix (wkA W 13) true (some 183),.arr shR W.2.2.2 true] }]
def spX(isI:Bool)(m:By)(c:Ct)(k:Cch)(kind va pick:Int)(W:Wr):Specs:={ Specs.one 24 (spL isI m c k kind va pick W) with pick:=fun r=>if r=12 then some isI else none,cut:=fun r=>if r=14 then some (CutS.mk Hi (fun _=>yz7 kind va pick [(0,.sl 0 1 0 m.length),(8,.ptr 5 0),(15,.ptr 12 0)]) (fun z=>spH true isI m c k k.2.2.2.2++[.fix (yae z) true (some 52)])) else if r=21 then some (CutS.mk (Wr × Hi) (fun _=>yz7 kind va pick [(0,.sl 0 1 0 m.length),(17,.ptr 12 0),(18,.ptr 14 0)]) (fun z=>spH false isI m c k k.2.2.2.2++[.fix (wkA z.1 13) true (some 183),.arr shR z.1.2.2.2 true,.fix (yae z.2) true (some 52)])) else if r=29 then some (CutS.mk Ans (fun _=>yz7 kind va pick [(17,.ptr 12 0),(20,.ptr 14 0)]) (fun z=>spH false isI m c k (zae va c.2.2.2 pick k.2.2 W.2.2.2).2.2++[.fix (wkA W 13) true (some 183),.arr shR W.2.2.2 true,.fix [.v (.int .i64 z.1),.v (.int .u64 z.2)] true (some 77)])) else none }
def ypl(m:By)(c0:Int)(c1 c2:Bool)(c3:Int)(s1 w1:Int)(m1:Es)(s2 w2:Int)(m2:Es)(s3 w3:Int)(m3:Es)(kind va pick:Int)(q0 q1 q2:Int)(rs:Rs)(i:Nat):Prop:=zam Tryz.prog FZ0 (spX true m (c0,c1,c2,c3) ((s1,w1,m1),(s2,w2,m2),(s3,w3,m3)) kind va pick (q0,q1,q2,rs)) 4 (zag Tryz.f38 0) (spL true m (c0,c1,c2,c3) ((s1,w1,m1),(s2,w2,m2),(s3,w3,m3)) kind va pick (q0,q1,q2,rs)) (fun i:Nat=>rs.length-i) i
def yr7(m:By)(c0:Int)(c1 c2:Bool)(c3:Int)(s1 w1:Int)(m1:Es)(s2 w2:Int)(m2:Es)(s3 w3:Int)(m3:Es)(kind va pick:Int)(q0 q1 q2:Int)(rs:Rs)(e pa:Int)(t1 u1:Int)(n1:Es)(t2 u2:Int)(n2:Es)(t3 u3:Int)(n3:Es):Prop:=zal Tryz.prog FZ0 (spX true m (c0,c1,c2,c3) ((s1,w1,m1),(s2,w2,m2),(s3,w3,m3)) kind va pick (q0,q1,q2,rs)) Tryz.f38 [byP,zg4,chP,i64,u64,i64] [ttP] (m,(c0,c1,c2,c3),(s1,w1,m1,s2,w2,m2,s3,w3,m3),kind,va,pick) (e,pa,t1,u1,n1,t2,u2,n2,t3,u3,n3)
def ypk(m:By)(c0:Int)(c1 c2:Bool)(c3:Int)(s1 w1:Int)(m1:Es)(s2 w2:Int)(m2:Es)(s3 w3:Int)(m3:Es)(kind va pick:Int)(q0 q1 q2:Int)(rs:Rs)(i:Nat):Prop:=zam Tryz.prog FZ0 (spX false m (c0,c1,c2,c3) ((s1,w1,m1),(s2,w2,m2),(s3,w3,m3)) kind va pick (q0,q1,q2,rs)) 4 (zag Tryz.f38 0) (spL false m (c0,c1,c2,c3) ((s1,w1,m1),(s2,w2,m2),(s3,w3,m3)) kind va pick (q0,q1,q2,rs)) (fun i:Nat=>rs.length-i) i
def yr6(m:By)(c0:Int)(c1 c2:Bool)(c3:Int)(s1 w1:Int)(m1:Es)(s2 w2:Int)(m2:Es)(s3 w3:Int)(m3:Es)(kind va pick:Int)(q0 q1 q2:Int)(rs:Rs)(e pa:Int)(t1 u1:Int)(n1:Es)(t2 u2:Int)(n2:Es)(t3 u3:Int)(n3:Es):Prop:=zal Tryz.prog FZ0 (spX false m (c0,c1,c2,c3) ((s1,w1,m1),(s2,w2,m2),(s3,w3,m3)) kind va pick (q0,q1,q2,rs)) Tryz.f38 [byP,zg4,chP,i64,u64,i64] [ttP] (m,(c0,c1,c2,c3),(s1,w1,m1,s2,w2,m2,s3,w3,m3),kind,va,pick) (e,pa,t1,u1,n1,t2,u2,n2,t3,u3,n3)
def yl0(m:By)(c:Ct)(x:Cf)(va:Int):Prop:=zaj m∧U64 c.2.2.2∧ChR (toC x)∧U64 va
def kZ1:Known:=[
 (38,zai [byP,zg4,chP,i64,u64,i64] [ttP] (fun t=>some (yl0 t.1 t.2.1 t.2.2.1 t.2.2.2.2.1)) (fun t=>zom t.1 t.2.1 t.2.2.1 t.2.2.2.1 t.2.2.2.2.1 t.2.2.2.2.2))]
set_option linter.unusedVariables false
theorem zzf(m:By)(c0:Int)(c1 c2:Bool)(c3:Int)(s1 w1:Int)(m1:Es)(s2 w2:Int)(m2:Es)(s3 w3:Int)(m3:Es)(kind va pick:Int)(q0 q1 q2:Int)(rs:Rs)(i:Nat):ypl m c0 c1 c2 c3 s1 w1 m1 s2 w2 m2 s3 w3 m3 kind va pick q0 q1 q2 rs i=(
 let A0:=(0:Nat)+(↑i:Int).toNat;
 let A1:=List.getD rs A0 (El.zero shR);
 let A2:=List.length rs;
 let A3(a b c:Prop):=a∧b∧c;
 let A4:=(0:Int)=0;
 let A5(a b c d e:Prop):=A3 a b (A3 c d e);
 let A6(a b:Es):=List.length a=List.length b;
 let A7:=zbs A1.1 va c3 A1.2.2;
 let A8:=(0:Nat)=0;
 let A9:=Value.slice none 0 0;
 let Aa(a b:Int)(c:Es):=(a,b,c);
 let Ab:=(↑i:Int);
 let Ac(a b c d e f g h i j k l m n o p q:Prop):=A5 a b c d (A5 e f g h (A5 i j k l (A5 m n o p q)));
 let Ad:=(↑A2:Int);
 let Ae(a:Nat):=(zae va c3 pick (Aa s3 w3 m3) (List.take a rs)).2.2;
 let Af:=A7.2.2.2.2;
 let Ah:=(s3,w3,Ae i);
 let Ai:=(A7.1,A7.2.1,A7.2.2.1,A7.2.2.2.1,Af.1,Af.2);
 let Aj(a:Bool)(b:Prop):=decide (Ab<Ad)=a→b;
 let Ak(a:Nat)(b:Prop):=(kind=kind∧Ac (va=va) (pick=pick) ((↑a:Int)=IntKind.i64.wrap (Ab+1)) (m=m) (m1=m1) (m2=m2) (m3=m3) (c0=c0) (c1=c1) (c2=c2) (c3=c3) A4 A4 A4 A4 (A9=A9) b)∧A3 (a≤A2 ∧
  yd9 (c0,c1,c2,c3) (Aa s1 w1 m1,Aa s2 w2 m2,Aa s3 w3 m3) va pick rs) (A2-a<A2-i) (∀(x1:Unit),True→True);
 let Al(a b c:Prop):=A3 ((0:Int)≤Ab∧Ab<Ad) (A0<A2) (A5 ((0:Int)≤Ab∧Ab<Ad) (A0<A2) a b c);
 let Am(a:Es):=Ac A4 A4 (A9=A9) A4 A4 (A9=A9) A4 A4 (s1=s1) (w1=w1) A8 (A6 m1 m1) (s2=s2) (w2=w2) A8 (A6 m2 m2) (Ac (s3=s3) (w3=w3) A8 (A6 a (Ae i)) (m1=m1) (m2=m2) (a=Ae i) (s1=s1) (w1=w1) A8 (A6 m1 m1) (q0 =
  q0) (q1=q1) (q2=q2) A8 (A2=A2) (rs=rs));
 let An:=zbh Ah Ai pick;
 let Ao:=U64 A1.2.2;
 let Ap(a:Bool)(b:Prop):=(za7 A1.2.2 A1.1==1)=a→b;
 let Aq:=(zbh Ah Ai pick).2.2;
 Aj true (Al Ao (Ap true (Al (LvR A1.1∧A3 (U64 va) (U64 c3) Ao) (A3 (A6 (Ae i) (Ae i)) (TlR Ah) (EnR Ai)) (∃(x0:Nat),Ak x0 (Ac A4 A4 (A9=A9) A4 A4 (A9=A9) A4 A4 (s1=s1) (w1=w1) A8 (A6 m1 m1) (s2=s2) (w2=w2) A8 (A6 m2
  m2) (Ac (s3=An.1) (w3=An.2.1) A8 (List.length (Ae x0)=List.length Aq) (m1=m1) (m2=m2) (Ae x0=Aq) (s1=s1) (w1=w1) A8 (A6 m1 m1) (q0=q0) (q1=q1) (q2=q2) A8 (A2=A2) (rs=rs)))))) (Ap false (∃(x2:Nat),Ak
  x2 (Am (Ae x2)))))∧Aj false (∃(x3:Unit),Ac (kind=kind) (va=va) (pick=pick) (m=m) (m1=m1) (m2=m2) (m3=m3) (c0=c0) (c1=c1) (c2=c2) (c3=c3) A4 A4 A4 A4 (A9=A9) (Am (zae va c3 pick (Aa s3 w3 m3) rs).2.2)
  ∧ True)):=by kernel_rfl
theorem zvw(m:By)(c0:Int)(c1 c2:Bool)(c3:Int)(s1 w1:Int)(m1:Es)(s2 w2:Int)(m2:Es)(s3 w3:Int)(m3:Es)(kind va pick:Int)(q0 q1 q2:Int)(rs:Rs)(e pa:Int)(t1 u1:Int)(n1:Es)(t2 u2:Int)(n2:Es)(t3 u3:Int)(n3:Es):yr7 m c0 c1 c2 c3 s1 w1 m1 s2 w2 m2 s3 w3 m3 kind va pick q0 q1 q2 rs e pa t1 u1 n1 t2 u2 n2 t3 u3 n3=(
 let A0(a:Es)(b:Nat):=List.length a=b;
 let A1(a:Int):=a=0;
 let A2(a b c:Prop):=a∧b∧c;
 let A3(a b:Es):=A0 a (List.length b);
 let A4(a b c d e:Prop):=A2 a b (A2 c d e);
 let A5:=A1 0;
 let A6:=(0:Nat)=0;
 let A7(a b c d e f g h i:Prop):=A4 a b c d (A4 e f g h i);
 let A8(a b c d e f g h i j k l m n o p q:Prop):=A7 a b c d e f g h (A7 i j k l m n o p q);
 let A9:=Value.slice none 0 0;
 let Aa(a b:Int)(c:Es):=(a,b,c);
 let Ab:=List.length rs;
 let Ac(a b:Int)(c:Es):=(a,b,c);
 let Ad(a b c d e f g h i j k l m n o p q r s t u v w x y z B C D E F G:Prop):=A8 a b c a d e f g h i j k l m n o (A8 p q r s t u v w x y z B C D E F G);
 let Ae:=(zae va c3 pick (Aa s3 w3 m3) rs).2.2;
 let Af(a:Wr × Hi):=a.2.2.2;
 let Ah(a:Es):=A3 a m1;
 let Ai(a:Int):=a==0;
 let Aj:=(zbs q1 va c3 q2).2.2.2.2;
 let Ak:=List.length m;
 let Al:=((zbs q1 va c3 q2).1,(zbs q1 va c3 q2).2.1,(zbs q1 va c3 q2).2.2.1,(zbs q1 va c3 q2).2.2.2.1,Aj.1,Aj.2);
 let Am:=zbh (Ac s1 w1 m1) Al pick;
 let An(a b c d e f g h:Prop)(i:Es)(j k:Prop):=A4 a b c d (A8 A6 e f g A6 h (t3=s3) (u3=w3) A6 (A3 n3 i) (m=m) (m1=m1) (m2=m2) (m3=m3) j k (n3=i));
 let Ao(a:(Cs.i IntKind.i64).T × CsT [Cs.i IntKind.i64,Cs.sl shE]):=zia a va (zba c3);
 let Ap(a:Bool)(b c:Int):=bif a then true else decide (b>c);
 let Aq:=Am.2.2;
 let Ar:=Ah m1;
 let Au(a b c d e f g h i j k l m n o:Prop)(p:Int)(q r s t u v w x y:Prop)(z:Bool)(B:Hi)(C:Int × Int × Int)(D E:Int)(F:Es)(G:Int × Int):=Ad A5 (A9=A9) A5 a b c d e f g h i j k l m n o (p=p) q r s t u v w x y
  (z=B.1) (C.1=(Ao (Ac D E F)).2.1) (G.1=(Ao (Ac D E F)).2.2.1) (G.2=(Ao (Ac D E F)).2.2.2);
 let Aw(a:Bool × Int × Int × Int):=a.2.2;
 let Ax(a b:Prop)(c:Int):=A2 a b (U64 c);
 let Ay(a:Int)(b:Bool)(c:Int × Int)(d f g h i j k l:Prop):=Ai a=b→An (e=c.1) (pa=c.2) d f g h i j Ae k l;
 let Az(a:Wr × Hi):=a.1.2.2;
 let AB(a:Wr × Hi):=(Af a).1-1;
 let AC(a:Bool)(b:Int):=bif a then true else decide (b<0);
 let AD(a:Es):=SzR (List.length a);
 let AE(a:Wr × Hi):=za6 m va ((IntKind.i64.wrap (AB a)).toNat+1) (zcl (Af a).2);
 let AF(a:Es):=A0 a 0;
 let AG(a:Wr × Hi):=List.length (Az a).2;
 let AH(a:Wr):=List.length a.2.2.2;
 let AI(a b:Prop)(c d:Int)(e:Es)(f:Prop):=a∧A2 (U64 c3) (Ax b (TlR (Ac c d e)) va) f;
 let AJ(a:Prop)(b:Bool)(c d:Prop):=A2 a (b=true→c) (b=false→d);
 let AK(a b c:Prop):=Ar∧A4 (A3 m2 m2) (A3 m3 m3) a b c;
 let AL(a b:Int)(c:Es):=TlR (Aa a b c);
 let AM:=A3 m3 m3;
 let AN(a:Bool × Int × Int × Int):=zcc (Aw a).2 (Aw a).1 (c0,c1,c2,c3) kind va;
 let AO(a:Prop):=True→Ax (Ab=Ab) (q0≠(2:(Cs.i IntKind.i64).T)→q0≠(3:(Cs.i IntKind.i64).T)→U64 q2) va∧a;
 let AP(a:Nat)(b c d:Prop)(e:Nat)(f g:Prop):=A2 (kind=kind∧A8 (va=va) (pick=pick) (A1 (↑a:Int)) (m=m) (m1=m1) (m2=m2) (m3=m3) (c0=c0) (c1=c1) (c2=c2) (c3=c3) A5 A5 A5 A5 (A9=A9) (Ad A5 A5 (A9=A9)
  A5 (A9=A9) A5 A5 (s1=s1) (w1=w1) A6 Ar (s2=s2) (w2=w2) A6 (A3 m2 m2) (s3=s3) (w3=w3) A6 (A3 (zae va c3 pick (Aa s3 w3 m3) (List.take a rs)).2.2 m3) (m1=m1) (m2=m2) ((zae va c3 pick (Aa s3 w3 m3) (List.take a
  rs)).2.2=m3) (s1=s1) (w1=w1) A6 Ar b c d A6 (Ab=e) f)) (a≤Ab∧yd9 (c0,c1,c2,c3) (Aa s1 w1 m1,Aa s2 w2 m2,Aa s3 w3 m3) va pick rs) g;
 let AQ(a:Int × Int):=A2 (A2 (kind=kind) (va=va) (A8 (pick=pick) (m=m) (m1=m1) (m2=m2) (m3=m3) (c0=c0) (c1=c1) (c2=c2) (c3=c3) A5 A5 A5 A5 (A9=A9) A5 A5 (Ad (A9=A9) A5 A5 A5 A5 (s1=s1) (w1=w1) A6 Ar (s2 =
  s2) (w2=w2) A6 (A3 m2 m2) (s3=s3) (w3=w3) A6 (A3 Ae Ae) (m1=m1) (m2=m2) (Ae=Ae) (s1=s1) (w1=w1) A6 Ar (q0=q0) (q1=q1) (q2=q2) A6 (Ab=Ab) (rs=rs) (a.1=(zak (q0,q1,q2,rs) (c0,c1,c2,c3) kind va).1)
  (a.2=(zak (q0,q1,q2,rs) (c0,c1,c2,c3) kind va).2)))) (Ai a.1=true→(LvR q1∧Ax (U64 va) (U64 c3) q2)∧A2 (A2 Ar (TlR (Ac s1 w1 m1)) (EnR Al)) (Ay kind true a (t1=Am.1) (u1=Am.2.1) (A0 n1 (List.length Aq))
  (t2=s2) (u2=w2) (A3 n2 m2) (n1=Aq) (n2=m2)) (Ay kind false a (t1=s1) (u1=w1) (Ah n1) (t2=Am.1) (u2=Am.2.1) (A0 n2 (List.length Aq)) (n1=m1) (n2=Aq))) (Ay a.1 false a (t1=s1) (u1=w1) (Ah n1) (t2=s2) (u2 =
  w2) (A3 n2 m2) (n1=m1) (n2=m2));
 let AR:=(zcf m c3 va).2.2;
 let AS:=A3 m2 m2;
 let AT(a:Int)(b:Bool)(c d e:Prop):=A2 (U64 a) ((!b)=true→An c d (t1=s1) (u1=w1) (Ah n1) (t2=s2) (u2=w2) (A3 n2 m2) m3 (n1=m1) (n2=m2)) ((!b)=false→e);
 let AU:=A9=A9;
 let AV:=zcf m c3 va;
 let AW:=w1=w1;
 let AX:=m2=m2;
 let AY:=m1=m1;
 AJ (AK (AL s1 w1 m1) (AL s2 w2 m2) (AL s3 w3 m3)) (Ap (AC (Ap (AC (Ap (AC (!zci (Aa s1 w1 m1,Aa s2 w2 m2,Aa s3 w3 m3)) kind) kind 2) c0) c0 2) pick) pick 255) (A4 (e=63) (A1 pa) (A1 t1) (A1 u1) (A8 A6
  (AF n1) (A1 t2) (A1 u2) A6 (AF n2) (A1 t3) (A1 u3) A6 (AF n3) (m=m) AY AX (m3=m3) (n1=[]) (n2=[]) (n3=[]))) (AK (AD m1) (AD m2) (AD m3)∧AT c3 (onM (c0,c1,c2,c3)) (A1 e) (pa=va) (AT va (zen va) (e=pfM kind) (A1 pa) (AI
  (Ai kind=true) Ar s1 w1 m1 (∃(x0:Bool × Int × Int × Int),AJ (A4 A6 (Ak=Ak) (kind=kind) (va=va) (A7 (pick=pick) (m=m) AY AX (m3=m3) (c0=c0) (c1=c1) (c2=c2) (A8 (c3=c3) (s1=s1) AW A6 Ar (s2=s2) (w2=w2) A6 AS
  (s3=s3) (w3=w3) A6 AM A5 A5 A5 (Au AU A5 A5 AU A5 A5 (s1=s1) AW A6 Ar (s2=s2) (w2=w2) A6 AS (s3=s3) w3 A6 AM AY AX (m3=m3) (s1=s1) AW A6 Ar x0.1 (Ao (Ac s1 w1 m1)) x0.2 s1 w1 m1 (Aw x0))))) x0.1 ((U64 (Aw x0).2
  ∧ U64 va)∧An (e=(AN x0).1) (pa=(AN x0).2) (t1=s1) (u1=w1) (Ah n1) (t2=s2) (u2=w2) (A3 n2 m2) m3 (n1=m1) (n2=m2)) (AI (Ak=Ak∧Ax (zaj m) (U64 c3) va) AM s3 w3 m3 (∃(x1:Wr × Hi),A2 (A2 A6 (Ak=Ak) (A4 (kind
  = kind) (va=va) (pick=pick) (m=m) (A8 AY AX (m3=m3) (c0=c0) (c1=c1) (c2=c2) (c3=c3) A5 A5 A5 A5 AU A5 A5 AU A5 (Au (s1=s1) AW A6 Ar (s2=s2) (w2=w2) A6 AS (s3=s3) (w3=w3) A6 AM AY AX (m3=m3) s1 AW A6 Ar
  (x1.1.1=AV.1) (x1.1.2.1=AV.2.1) ((Az x1).1=AR.1) A6 (AG x1=AH AV) ((Az x1).2=AR.2) x1.2.1 (Ao (Ac s3 w3 m3)) x1.2.2 s3 w3 m3 (Af x1))))) (x1.2.1=true→A2 (U64 (Af x1).2) (Ak=Ak
  ∧ zfy m (zcl (Af x1).2) (IntKind.i64.wrap (AB x1)) va) (∃(x2:Nat),AP x2 (q0=(AE x1).1) (q1=(AE x1).2.1) (q2=(AE x1).2.2.1) (AH (AE x1)) (rs=(AE x1).2.2.2) (∀(x3:Unit),AO (∃(x4:Int × Int),
  AQ x4)))) (x1.2.1=false→∃(x5:Nat),AP x5 (q0=x1.1.1) (q1=x1.1.2.1) (q2=(Az x1).1) (AG x1) (rs=(Az x1).2) (∀(x3:Unit),AO (∃(x4:Int × Int),AQ x4)))))))))):=by kernel_rfl
theorem zze(m:By)(c0:Int)(c1 c2:Bool)(c3:Int)(s1 w1:Int)(m1:Es)(s2 w2:Int)(m2:Es)(s3 w3:Int)(m3:Es)(kind va pick:Int)(q0 q1 q2:Int)(rs:Rs)(i:Nat):ypk m c0 c1 c2 c3 s1 w1 m1 s2 w2 m2 s3 w3 m3 kind va pick q0 q1 q2 rs i=(
 let A0:=(0:Nat)+(↑i:Int).toNat;
 let A1:=List.getD rs A0 (El.zero shR);
 let A2:=List.length rs;
 let A3(a b c:Prop):=a∧b∧c;
 let A4:=(0:Int)=0;
 let A5(a b c d e:Prop):=A3 a b (A3 c d e);
 let A6(a b:Es):=List.length a=List.length b;
 let A7:=zbs A1.1 va c3 A1.2.2;
 let A8:=(0:Nat)=0;
 let A9:=Value.slice none 0 0;
 let Aa(a b:Int)(c:Es):=(a,b,c);
 let Ab:=(↑i:Int);
 let Ac(a b c d e f g h i j k l m n o p q:Prop):=A5 a b c d (A5 e f g h (A5 i j k l (A5 m n o p q)));
 let Ad:=(↑A2:Int);
 let Ae(a:Nat):=(zae va c3 pick (Aa s3 w3 m3) (List.take a rs)).2.2;
 let Af:=A7.2.2.2.2;
 let Ah:=(s3,w3,Ae i);
 let Ai:=(A7.1,A7.2.1,A7.2.2.1,A7.2.2.2.1,Af.1,Af.2);
 let Aj(a:Bool)(b:Prop):=decide (Ab<Ad)=a→b;
 let Ak(a:Nat)(b:Prop):=(kind=kind∧Ac (va=va) (pick=pick) ((↑a:Int)=IntKind.i64.wrap (Ab+1)) (m=m) (m1=m1) (m2=m2) (m3=m3) (c0=c0) (c1=c1) (c2=c2) (c3=c3) A4 A4 A4 A4 (A9=A9) b)∧A3 (a≤A2 ∧
  yd9 (c0,c1,c2,c3) (Aa s1 w1 m1,Aa s2 w2 m2,Aa s3 w3 m3) va pick rs) (A2-a<A2-i) (∀(x1:Unit),True→True);
 let Al(a b c:Prop):=A3 ((0:Int)≤Ab∧Ab<Ad) (A0<A2) (A5 ((0:Int)≤Ab∧Ab<Ad) (A0<A2) a b c);
 let Am(a:Es):=Ac A4 A4 (A9=A9) A4 A4 (A9=A9) A4 A4 (s1=s1) (w1=w1) A8 (A6 m1 m1) (s2=s2) (w2=w2) A8 (A6 m2 m2) (Ac (s3=s3) (w3=w3) A8 (A6 a (Ae i)) (m1=m1) (m2=m2) (a=Ae i) (s2=s2) (w2=w2) A8 (A6 m2 m2) (q0 =
  q0) (q1=q1) (q2=q2) A8 (A2=A2) (rs=rs));
 let An:=zbh Ah Ai pick;
 let Ao:=U64 A1.2.2;
 let Ap(a:Bool)(b:Prop):=(za7 A1.2.2 A1.1==1)=a→b;
 let Aq:=(zbh Ah Ai pick).2.2;
 Aj true (Al Ao (Ap true (Al (LvR A1.1∧A3 (U64 va) (U64 c3) Ao) (A3 (A6 (Ae i) (Ae i)) (TlR Ah) (EnR Ai)) (∃(x0:Nat),Ak x0 (Ac A4 A4 (A9=A9) A4 A4 (A9=A9) A4 A4 (s1=s1) (w1=w1) A8 (A6 m1 m1) (s2=s2) (w2=w2) A8 (A6 m2
  m2) (Ac (s3=An.1) (w3=An.2.1) A8 (List.length (Ae x0)=List.length Aq) (m1=m1) (m2=m2) (Ae x0=Aq) (s2=s2) (w2=w2) A8 (A6 m2 m2) (q0=q0) (q1=q1) (q2=q2) A8 (A2=A2) (rs=rs)))))) (Ap false (∃(x2:Nat),Ak
  x2 (Am (Ae x2)))))∧Aj false (∃(x3:Unit),Ac (kind=kind) (va=va) (pick=pick) (m=m) (m1=m1) (m2=m2) (m3=m3) (c0=c0) (c1=c1) (c2=c2) (c3=c3) A4 A4 A4 A4 (A9=A9) (Am (zae va c3 pick (Aa s3 w3 m3) rs).2.2)
  ∧ True)):=by kernel_rfl
theorem ylf(m:By)(c0:Int)(c1 c2:Bool)(c3:Int)(s1 w1:Int)(m1:Es)(s2 w2:Int)(m2:Es)(s3 w3:Int)(m3:Es)(kind va pick:Int)(q0 q1 q2:Int)(rs:Rs)(e pa:Int)(t1 u1:Int)(n1:Es)(t2 u2:Int)(n2:Es)(t3 u3:Int)(n3:Es):yr6 m c0 c1 c2 c3 s1 w1 m1 s2 w2 m2 s3 w3 m3 kind va pick q0 q1 q2 rs e pa t1 u1 n1 t2 u2 n2 t3 u3 n3=(
 let A0(a:Es)(b:Nat):=List.length a=b;
 let A1(a:Int):=a=0;
 let A2(a b c:Prop):=a∧b∧c;
 let A3(a b:Es):=A0 a (List.length b);
 let A4(a b c d e:Prop):=A2 a b (A2 c d e);
 let A5:=A1 0;
 let A6:=(0:Nat)=0;
 let A7(a b c d e f g h i:Prop):=A4 a b c d (A4 e f g h i);
 let A8(a b c d e f g h i j k l m n o p q:Prop):=A7 a b c d e f g h (A7 i j k l m n o p q);
 let A9:=Value.slice none 0 0;
 let Aa(a b:Int)(c:Es):=(a,b,c);
 let Ab:=List.length rs;
 let Ac(a b:Int)(c:Es):=(a,b,c);
 let Ad(a b c d e f g h i j k l m n o p q r s t u v w x y z B C D E F G:Prop):=A8 a b c a d e f g h i j k l m n o (A8 p q r s t u v w x y z B C D E F G);
 let Ae:=(zae va c3 pick (Aa s3 w3 m3) rs).2.2;
 let Af(a:Wr × Hi):=a.2.2.2;
 let Ah(a:Es):=A3 a m2;
 let Ai(a:Int):=a==0;
 let Aj:=(zbs q1 va c3 q2).2.2.2.2;
 let Ak:=List.length m;
 let Al:=((zbs q1 va c3 q2).1,(zbs q1 va c3 q2).2.1,(zbs q1 va c3 q2).2.2.1,(zbs q1 va c3 q2).2.2.2.1,Aj.1,Aj.2);
 let Am:=zbh (Ac s2 w2 m2) Al pick;
 let An(a b c d e f g h:Prop)(i:Es)(j k:Prop):=A4 a b c d (A8 A6 e f g A6 h (t3=s3) (u3=w3) A6 (A3 n3 i) (m=m) (m1=m1) (m2=m2) (m3=m3) j k (n3=i));
 let Ao(a:(Cs.i IntKind.i64).T × CsT [Cs.i IntKind.i64,Cs.sl shE]):=zia a va (zba c3);
 let Ap(a:Bool)(b c:Int):=bif a then true else decide (b>c);
 let Aq:=Am.2.2;
 let Ar:=Ah m2;
 let Au(a b c d e f g h i j k l m n o:Prop)(p:Int)(q r s t u v w x y:Prop)(z:Bool)(B:Hi)(C:Int × Int × Int)(D E:Int)(F:Es)(G:Int × Int):=Ad A5 (A9=A9) A5 a b c d e f g h i j k l m n o (p=p) q r s t u v w x y
  (z=B.1) (C.1=(Ao (Ac D E F)).2.1) (G.1=(Ao (Ac D E F)).2.2.1) (G.2=(Ao (Ac D E F)).2.2.2);
 let Aw(a:Bool × Int × Int × Int):=a.2.2;
 let Ax(a b:Prop)(c:Int):=A2 a b (U64 c);
 let Ay(a:Int)(b:Bool)(c:Int × Int)(d f g h i j k l:Prop):=Ai a=b→An (e=c.1) (pa=c.2) d f g h i j Ae k l;
 let Az(a:Wr × Hi):=a.1.2.2;
 let AB(a:Wr × Hi):=(Af a).1-1;
 let AC(a:Bool)(b:Int):=bif a then true else decide (b<0);
 let AD(a:Es):=SzR (List.length a);
 let AE(a:Wr × Hi):=za6 m va ((IntKind.i64.wrap (AB a)).toNat+1) (zcl (Af a).2);
 let AF(a:Es):=A0 a 0;
 let AG(a:Wr × Hi):=List.length (Az a).2;
 let AH(a:Wr):=List.length a.2.2.2;
 let AI:=A3 m1 m1;
 let AJ(a b c:Prop):=AI∧A4 Ar (A3 m3 m3) a b c;
 let AK(a b:Prop)(c d:Int)(e:Es)(f:Prop):=a∧A2 (U64 c3) (Ax b (TlR (Ac c d e)) va) f;
 let AL(a b:Int)(c:Es):=TlR (Aa a b c);
 let AM:=A3 m3 m3;
 let AN(a:Bool × Int × Int × Int):=zcc (Aw a).2 (Aw a).1 (c0,c1,c2,c3) kind va;
 let AO(a:Prop):=True→Ax (Ab=Ab) (q0≠(2:(Cs.i IntKind.i64).T)→q0≠(3:(Cs.i IntKind.i64).T)→U64 q2) va∧a;
 let AP(a:Nat)(b c d:Prop)(e:Nat)(f g:Prop):=A2 (kind=kind∧A8 (va=va) (pick=pick) (A1 (↑a:Int)) (m=m) (m1=m1) (m2=m2) (m3=m3) (c0=c0) (c1=c1) (c2=c2) (c3=c3) A5 A5 A5 A5 (A9=A9) (Ad A5 A5 (A9=A9)
  A5 (A9=A9) A5 A5 (s1=s1) (w1=w1) A6 (A3 m1 m1) (s2=s2) (w2=w2) A6 Ar (s3=s3) (w3=w3) A6 (A3 (zae va c3 pick (Aa s3 w3 m3) (List.take a rs)).2.2 m3) (m1=m1) (m2=m2) ((zae va c3 pick (Aa s3 w3 m3) (List.take a
  rs)).2.2=m3) (s2=s2) (w2=w2) A6 Ar b c d A6 (Ab=e) f)) (a≤Ab∧yd9 (c0,c1,c2,c3) (Aa s1 w1 m1,Aa s2 w2 m2,Aa s3 w3 m3) va pick rs) g;
 let AQ:=Ap (AC (Ap (AC (Ap (AC (!zci (Aa s1 w1 m1,Aa s2 w2 m2,Aa s3 w3 m3)) kind) kind 2) c0) c0 2) pick) pick 255;
 let AR(a:Int × Int):=A2 (A2 (kind=kind) (va=va) (A8 (pick=pick) (m=m) (m1=m1) (m2=m2) (m3=m3) (c0=c0) (c1=c1) (c2=c2) (c3=c3) A5 A5 A5 A5 (A9=A9) A5 A5 (Ad (A9=A9) A5 A5 A5 A5 (s1=s1) (w1=w1) A6 (A3 m1 m1)
  (s2=s2) (w2=w2) A6 Ar (s3=s3) (w3=w3) A6 (A3 Ae Ae) (m1=m1) (m2=m2) (Ae=Ae) (s2=s2) (w2=w2) A6 Ar (q0=q0) (q1=q1) (q2=q2) A6 (Ab=Ab) (rs=rs) (a.1=(zak (q0,q1,q2,rs) (c0,c1,c2,c3) kind va).1)
  (a.2=(zak (q0,q1,q2,rs) (c0,c1,c2,c3) kind va).2)))) (Ai a.1=true→(LvR q1∧Ax (U64 va) (U64 c3) q2)∧A2 (A2 Ar (TlR (Ac s2 w2 m2)) (EnR Al)) (Ay kind true a (t1=Am.1) (u1=Am.2.1) (A0 n1 (List.length Aq))
  (t2=s2) (u2=w2) (Ah n2) (n1=Aq) (n2=m2)) (Ay kind false a (t1=s1) (u1=w1) (A3 n1 m1) (t2=Am.1) (u2=Am.2.1) (A0 n2 (List.length Aq)) (n1=m1) (n2=Aq))) (Ay a.1 false a (t1=s1) (u1=w1) (A3 n1 m1) (t2=s2) (u2 =
  w2) (Ah n2) (n1=m1) (n2=m2));
 let AS:=(zcf m c3 va).2.2;
 let AT(a:Int)(b:Bool)(c d e:Prop):=A2 (U64 a) ((!b)=true→An c d (t1=s1) (u1=w1) (A3 n1 m1) (t2=s2) (u2=w2) (Ah n2) m3 (n1=m1) (n2=m2)) ((!b)=false→e);
 let AU:=A9=A9;
 let AV:=zcf m c3 va;
 let AW:=w2=w2;
 let AX:=m2=m2;
 let AY:=m1=m1;
 A2 (AJ (AL s1 w1 m1) (AL s2 w2 m2) (AL s3 w3 m3)) (AQ=true→A4 (e=63) (A1 pa) (A1 t1) (A1 u1) (A8 A6 (AF n1) (A1 t2) (A1 u2) A6 (AF n2) (A1 t3) (A1 u3) A6 (AF n3) (m=m) AY AX (m3=m3) (n1=[]) (n2=[]) (n3=[]))) (AQ =
  false→AJ (AD m1) (AD m2) (AD m3)∧AT c3 (onM (c0,c1,c2,c3)) (A1 e) (pa=va) (AT va (zen va) (e=pfM kind) (A1 pa) (AK (Ai kind=false) Ar s2 w2 m2 (∃(x0:Bool × Int × Int × Int),A2 (A4 A6 (Ak=Ak) (kind=kind) (va=va) (A7
  (pick=pick) (m=m) AY AX (m3=m3) (c0=c0) (c1=c1) (c2=c2) (A8 (c3=c3) (s1=s1) (w1=w1) A6 AI (s2=s2) AW A6 Ar (s3=s3) (w3=w3) A6 AM A5 A5 A5 (Au AU A5 A5 AU A5 A5 (s1=s1) (w1=w1) A6 AI (s2=s2) AW A6 Ar (s3=s3)
  w3 A6 AM AY AX (m3=m3) (s2=s2) AW A6 Ar x0.1 (Ao (Ac s2 w2 m2)) x0.2 s2 w2 m2 (Aw x0))))) (x0.1=true→(U64 (Aw x0).2∧U64 va)∧An (e=(AN x0).1) (pa=(AN x0).2) (t1=s1) (u1=w1) (A3 n1 m1) (t2=s2) (u2 =
  w2) (Ah n2) m3 (n1=m1) (n2=m2)) (x0.1=false→AK (Ak=Ak∧Ax (zaj m) (U64 c3) va) AM s3 w3 m3 (∃(x1:Wr × Hi),A2 (A2 A6 (Ak=Ak) (A4 (kind=kind) (va=va) (pick=pick) (m=m) (A8 AY AX (m3=m3) (c0=c0) (c1=c1) (c2
  = c2) (c3=c3) A5 A5 A5 A5 AU A5 A5 AU A5 (Au (s1=s1) (w1=w1) A6 AI (s2=s2) AW A6 Ar (s3=s3) (w3=w3) A6 AM AY AX (m3=m3) s2 AW A6 Ar (x1.1.1=AV.1) (x1.1.2.1=AV.2.1) ((Az x1).1=AS.1) A6 (AG x1=AH
  AV) ((Az x1).2=AS.2) x1.2.1 (Ao (Ac s3 w3 m3)) x1.2.2 s3 w3 m3 (Af x1))))) (x1.2.1=true→A2 (U64 (Af x1).2) (Ak=Ak∧zfy m (zcl (Af x1).2) (IntKind.i64.wrap (AB x1)) va) (∃(x2:Nat),AP x2 (q0=(AE
  x1).1) (q1=(AE x1).2.1) (q2=(AE x1).2.2.1) (AH (AE x1)) (rs=(AE x1).2.2.2) (∀(x3:Unit),AO (∃(x4:Int × Int),AR x4)))) (x1.2.1=false→∃(x5:Nat),AP x5 (q0=x1.1.1) (q1 =
  x1.1.2.1) (q2=(Az x1).1) (AG x1) (rs=(Az x1).2) (∀(x3:Unit),AO (∃(x4:Int × Int),AR x4)))))))))):=by kernel_rfl
set_option linter.unusedSimpArgs false
theorem yab{α:Type}(m:List α)(k i:Nat)(e d:α):(m.set k e).getD i d=if i=k∧k<m.length then e else m.getD i d:=by
 simp only[List.getD_eq_getElem?_getD,List.getElem?_set]
 split
 · rename_i h
   subst h
   split
   · rename_i h2;simp[h2]
   · rename_i h2
     rw[if_neg (fun h=>h2 h.2),List.getElem?_eq_none (by omega)]
 · rename_i h
   rw[if_neg (fun h'=>h h'.1.symm)]
theorem zfq{ptr:Bool}{l va satp p:Int}(hl:LvR l)(hk:za7 p l=zzp ptr):zdz ptr (zbs l va satp p)=true:=by
 obtain⟨a0,a1⟩:=yff satp
 have ht:zj4 va l<2 ^ (9-3*l).toNat:=by
  unfold zj4
  have h0:0≤va % 32768:=Int.emod_nonneg _ (by decide)
  have h1:va % 32768<32768:=Int.emod_lt_of_pos _ (by decide)
  rcases zcn hl with rfl|rfl|rfl
  · rw[show ((2:Int) ^ (6+3*0:Int).toNat)=64 by decide,show ((2:Int) ^ (9-3*0:Int).toNat)=512 by decide];omega
  · rw[show ((2:Int) ^ (6+3*1:Int).toNat)=512 by decide,show ((2:Int) ^ (9-3*1:Int).toNat)=64 by decide];omega
  · rw[show ((2:Int) ^ (6+3*2:Int).toNat)=4096 by decide,show ((2:Int) ^ (9-3*2:Int).toNat)=8 by decide];omega
 simp only[zdz,zbs,Bool.and_eq_true,decide_eq_true_eq,beq_iff_eq]
 exact⟨⟨⟨⟨⟨trivial,zgq.2 hl⟩,decide_eq_true ht⟩,decide_eq_true (by omega)⟩,trivial⟩,hk⟩
theorem zuk{ptr:Bool}{t:Tl}{e:En}{pick:Int}(hv:zat ptr t=true)(he:zdz ptr e=true)(h0:0≤e.2.2.1)(p0:0≤pick):zat ptr (zem t e pick)=true:=by
 obtain⟨s,w,m⟩:=t
 have hd:=zb4 hv
 obtain⟨hs,w1,w4,hl⟩:=zio hd
 have hc:=zq1 he
 obtain⟨f0,f1⟩:=zmp (s:=s) (w:=w) (by omega) w1 h0 hc
 obtain⟨y0,y1⟩:=ysb (m:=m) (s:=s) (w:=w) (c:=e.2.2.1) (p:=pick) w1 p0
 simp only[zat,Bool.and_eq_true] at hv
 simp only[zat,zem,Bool.and_eq_true]
 refine⟨by rw[zjf (zb6 ..)];exact hd,zct.2 (fun i hi => ?_)⟩
 rw[zb6] at hi
 have hold:=zct.1 hv.2 i hi
 unfold zh9
 rw[yab]
 split
 · rename_i hik
   simp only[ztz,Bool.or_eq_true,Bool.and_eq_true,beq_iff_eq]
   refine .inr ⟨he, ?_⟩
   have hi2:(i:Int)=zch s w e.2.2.1+zwd m s w e.2.2.1 pick:=by omega
   have hw0:0≤(i:Int):=by omega
   rw[zru h0 hc,zb1 h0,zev hw0,hi2]
   unfold zch
   rw[zru h0 hc,zb1 h0,Int.add_comm,Int.add_mul_ediv_right _ _ (by omega),Int.ediv_eq_zero_of_lt y0 y1,Int.zero_add]
 · exact hold
theorem yet{t:Tl}{e:En}{pick:Int}(h:TlR t)(he:EnR e):TlR (zem t e pick):=by
 obtain⟨a,b,c,d⟩:=h
 refine⟨a,b, ?_,fun x hx => ?_⟩
 · show SzR (zh9 ..).length
   rw[zb6];exact c
 · rcases List.mem_or_eq_of_mem_set hx with g|g
   · exact d x g
   · rw[g];exact he
theorem ze1{ptr:Bool}{t:Tl}{e:En}{pick:Int}(hv:zat ptr t=true)(he:zdz ptr e=true)(p0:0≤pick)(p1:pick≤255):zbh t e pick=zem t e pick:=by
 have h:zhq t e pick=true:=by
  simp only[zhq,Bool.and_eq_true,Bool.or_eq_true,decide_eq_true_eq]
  refine⟨⟨p0,p1⟩, ?_⟩
  cases ptr
  · exact .inl ⟨hv,he⟩
  · exact .inr ⟨hv,he⟩
 unfold zbh zem
 rw[if_pos h]
theorem ze4{m:By}{va:Int}(hm:zaj m):∀(n:Nat)(p:Int),∀r ∈ (za6 m va n p).2.2.2,0≤r.1∧r.1<n∧U64 r.2.2
 | 0,_,r,h=>by cases h
 | n+1,p,r,h=>by
  have hr:=zt8 (a:=64*p+8*zeq va n) hm
  unfold za6 at h
  split at h
  · cases h
  · split at h
    · cases h
    · split at h
      · simp only[List.mem_singleton] at h
        subst h
        exact⟨by show (0:Int)≤(n:Int);omega,by show (n:Int)<((n+1:Nat):Int);omega,hr⟩
      · rcases List.mem_cons.1 h with g|g
        · subst g
          exact⟨by show (0:Int)≤(n:Int);omega,by show (n:Int)<((n+1:Nat):Int);omega,hr⟩
        · obtain⟨a,b,c⟩:=ze4 hm n _ r g
          exact⟨a,by omega,c⟩
theorem yfy{l va satp p:Int}(hl:LvR l):0≤(zbs l va satp p).2.2.1:=(yjh hl).1
theorem yb4{va satp pick:Int}{t:Tl}{r:Rc}(p0:0≤pick)(hv:zat true t=true)(ht:TlR t)(hr:LvR r.1∧U64 r.2.2):zat true (zdf va satp pick t r)=true∧TlR (zdf va satp pick t r):=by
 unfold zdf
 split
 · rename_i hk
   exact⟨zuk hv (zfq hr.1 hk) (yfy hr.1) p0,yet ht (zjc hr.1 hr.2)⟩
 · exact⟨hv,ht⟩
theorem zfr{va satp pick:Int}(p0:0≤pick):∀(rs:Rs)(t:Tl),zat true t=true→TlR t→(∀r ∈ rs,LvR r.1∧U64 r.2.2)→zat true (zae va satp pick t rs)=true∧TlR (zae va satp pick t rs)
 | [],_,hv,ht,_=>⟨hv,ht⟩
 | r::rs,t,hv,ht,hr=>by
  obtain⟨a,b⟩:=yb4 (va:=va) (satp:=satp) p0 hv ht (hr r List.mem_cons_self)
  exact zfr p0 rs _ a b (fun x hx=>hr x (List.mem_cons_of_mem _ hx))
theorem zhp{α:Type}{m:List α}{i:Nat}(h:i<m.length)(d:α):m.take (i+1)=m.take i++[m.getD i d]:=by
 rw[List.take_add_one,List.getElem?_eq_getElem h,List.getD_eq_getElem?_getD,List.getElem?_eq_getElem h]
 rfl
theorem yza:zar Tryz.prog kZ0:=(((((yy4.append kH_ok).append zto).append yq1).append zmz).append yhb).append yna
theorem yxq:DictOk Tryz.prog FZ0:=zay yza .nil .nil
theorem zmr(c:Ct)(k:Cch)(kind pick:Int):(bif bif bif bif bif bif !zci k then true else decide (kind<0) then true else decide (kind>2) then true else decide (c.1<0) then true else decide (c.1>2) then true else decide (pick<0) then true else decide (pick>255)) = !okT c k kind pick:=by
 have f:∀x y:Int,decide (x≤y) = !decide (x>y):=fun x y=>by
  by_cases h:x>y
  · have:¬ x≤y:=by omega
    simp[h,this]
  · have:x≤y:=by omega
    simp[h,this]
 have g:∀x y:Int,decide (x≤y) = !decide (y<x):=f
 unfold okT zl8
 rw[g 0 kind,f kind 2,g 0 c.1,f c.1 2,g 0 pick,f pick 255]
 cases zci k<;>cases decide (kind<0)<;>cases decide (kind>2)<;>cases decide (c.1<0)<;>cases decide (c.1>2)<;>cases decide (pick<0)<;>cases decide (pick>255)<;>rfl
theorem zuh(m:By)(c0:Int)(c1 c2:Bool)(c3:Int)(s1 w1:Int)(m1:Es)(s2 w2:Int)(m2:Es)(s3 w3:Int)(m3:Es)(kind va pick:Int)(q0 q1 q2:Int)(rs:Rs){i:Nat}(h:i≤rs.length∧yd9 (c0,c1,c2,c3) ((s1,w1,m1),(s2,w2,m2),(s3,w3,m3)) va pick rs):zam Tryz.prog FZ0 (spX true m (c0,c1,c2,c3) ((s1,w1,m1),(s2,w2,m2),(s3,w3,m3)) kind va pick (q0,q1,q2,rs)) 4 (zag Tryz.f38 0) (spL true m (c0,c1,c2,c3) ((s1,w1,m1),(s2,w2,m2),(s3,w3,m3)) kind va pick (q0,q1,q2,rs)) (fun i:Nat=>rs.length-i) i:=by
 obtain⟨hi,hs,hv,p0,p1,hP,hT,hlen,hrs⟩:=h
 have hs:U64 c3:=hs
 obtain⟨k1,k2,k3⟩:=zby va c3 pick (rs.take i) (s3,w3,m3)
 have ks:=zgn va c3 pick (s3,w3,m3) (rs.take i)
 obtain⟨g1,g2⟩:=zfr (va:=va) (satp:=c3) p0 (rs.take i) (s3,w3,m3) hP hT (fun r hr=>hrs r (List.mem_of_mem_take hr))
 simp only at k1 k2 k3 ks
 refine zab (zzf m c0 c1 c2 c3 s1 w1 m1 s2 w2 m2 s3 w3 m3 kind va pick q0 q1 q2 rs i) ?_
 conv=>zeta
 refine⟨fun q => ?_,fun q => ?_⟩
 · have q:(i:Int)<rs.length:=of_decide_eq_true q
   have hlt:i<rs.length:=by omega
   have e0:0+(i:Int).toNat=i:=by omega
   have e1:IntKind.i64.wrap ((i:Int)+1)=((i+1:Nat):Int):=by rw[zaa (by omega) (by omega)];omega
   have hR:=hrs (rs.getD i (El.zero shR)) (by rw[List.getD_eq_getElem?_getD,List.getElem?_eq_getElem hlt];exact List.getElem_mem hlt)
   have enx:zae va c3 pick (s3,w3,m3) (rs.take (i+1))=zdf va c3 pick (zae va c3 pick (s3,w3,m3) (rs.take i)) (rs.getD i (El.zero shR)):=by rw[zhp hlt (El.zero shR),zfs]
   rw[e0,e1]
   obtain⟨j1,j2, -⟩:=zby va c3 pick (rs.take (i+1)) (s3,w3,m3)
   simp only at j1 j2
   generalize rs.getD i (El.zero shR)=R at *
   obtain⟨r0,r1,r2⟩:Rc:=R
   obtain⟨hl,hu⟩:LvR r0∧U64 r2:=hR
   refine⟨⟨by omega,by omega⟩,hlt,⟨by omega,by omega⟩,hlt,hu,fun a=>⟨⟨by omega,by omega⟩,hlt,⟨by omega,by omega⟩,hlt,⟨hl,hv,hs,hu⟩,⟨rfl,by rw[ks];exact g2,zjc hl hu⟩,i+1, ?_,⟨by omega,hs,hv,p0,p1,hP,hT,hlen,hrs⟩,by omega,fun _ _=>trivial⟩,fun a=>⟨i+1, ?_,⟨by omega,hs,hv,p0,p1,hP,hT,hlen,hrs⟩,by omega,fun _ _=>trivial⟩⟩
   · have a:za7 r2 r0=1:=by simpa using a
     have e:zbh (s3,w3,(zae va c3 pick (s3,w3,m3) (rs.take i)).2.2) ((zbs r0 va c3 r2).1,(zbs r0 va c3 r2).2.1,(zbs r0 va c3 r2).2.2.1,(zbs r0 va c3 r2).2.2.2.1,(zbs r0 va c3 r2).2.2.2.2.1,(zbs r0 va c3 r2).2.2.2.2.2) pick=zae va c3 pick (s3,w3,m3) (rs.take (i+1)):=by
      show zbh _ (zbs r0 va c3 r2) pick=_
      rw[enx,ks,ze1 g1 (zfq hl a) p0 p1]
      unfold zdf
      rw[if_pos a]
     simp only[e]
     simp[j1,j2]
   · have a:¬ za7 r2 r0=1:=by simpa using a
     have e:zae va c3 pick (s3,w3,m3) (rs.take (i+1))=zae va c3 pick (s3,w3,m3) (rs.take i):=by
      rw[enx]
      unfold zdf
      rw[if_neg a]
     simp only[e]
     simp
 · have q:¬ (i:Int)<rs.length:=of_decide_eq_false q
   have:i=rs.length:=by omega
   subst this
   rw[List.take_length]
   exact⟨(),by simp,trivial⟩
theorem yi9(m:By)(c0:Int)(c1 c2:Bool)(c3:Int)(s1 w1:Int)(m1:Es)(s2 w2:Int)(m2:Es)(s3 w3:Int)(m3:Es)(kind va pick:Int)(q0 q1 q2:Int)(rs:Rs){i:Nat}(h:i≤rs.length∧yd9 (c0,c1,c2,c3) ((s1,w1,m1),(s2,w2,m2),(s3,w3,m3)) va pick rs):zam Tryz.prog FZ0 (spX false m (c0,c1,c2,c3) ((s1,w1,m1),(s2,w2,m2),(s3,w3,m3)) kind va pick (q0,q1,q2,rs)) 4 (zag Tryz.f38 0) (spL false m (c0,c1,c2,c3) ((s1,w1,m1),(s2,w2,m2),(s3,w3,m3)) kind va pick (q0,q1,q2,rs)) (fun i:Nat=>rs.length-i) i:=by
 obtain⟨hi,hs,hv,p0,p1,hP,hT,hlen,hrs⟩:=h
 have hs:U64 c3:=hs
 obtain⟨k1,k2,k3⟩:=zby va c3 pick (rs.take i) (s3,w3,m3)
 have ks:=zgn va c3 pick (s3,w3,m3) (rs.take i)
 obtain⟨g1,g2⟩:=zfr (va:=va) (satp:=c3) p0 (rs.take i) (s3,w3,m3) hP hT (fun r hr=>hrs r (List.mem_of_mem_take hr))
 simp only at k1 k2 k3 ks
 refine zab (zze m c0 c1 c2 c3 s1 w1 m1 s2 w2 m2 s3 w3 m3 kind va pick q0 q1 q2 rs i) ?_
 conv=>zeta
 refine⟨fun q => ?_,fun q => ?_⟩
 · have q:(i:Int)<rs.length:=of_decide_eq_true q
   have hlt:i<rs.length:=by omega
   have e0:0+(i:Int).toNat=i:=by omega
   have e1:IntKind.i64.wrap ((i:Int)+1)=((i+1:Nat):Int):=by rw[zaa (by omega) (by omega)];omega
   have hR:=hrs (rs.getD i (El.zero shR)) (by rw[List.getD_eq_getElem?_getD,List.getElem?_eq_getElem hlt];exact List.getElem_mem hlt)
   have enx:zae va c3 pick (s3,w3,m3) (rs.take (i+1))=zdf va c3 pick (zae va c3 pick (s3,w3,m3) (rs.take i)) (rs.getD i (El.zero shR)):=by rw[zhp hlt (El.zero shR),zfs]
   rw[e0,e1]
   obtain⟨j1,j2, -⟩:=zby va c3 pick (rs.take (i+1)) (s3,w3,m3)
   simp only at j1 j2
   generalize rs.getD i (El.zero shR)=R at *
   obtain⟨r0,r1,r2⟩:Rc:=R
   obtain⟨hl,hu⟩:LvR r0∧U64 r2:=hR
   refine⟨⟨by omega,by omega⟩,hlt,⟨by omega,by omega⟩,hlt,hu,fun a=>⟨⟨by omega,by omega⟩,hlt,⟨by omega,by omega⟩,hlt,⟨hl,hv,hs,hu⟩,⟨rfl,by rw[ks];exact g2,zjc hl hu⟩,i+1, ?_,⟨by omega,hs,hv,p0,p1,hP,hT,hlen,hrs⟩,by omega,fun _ _=>trivial⟩,fun a=>⟨i+1, ?_,⟨by omega,hs,hv,p0,p1,hP,hT,hlen,hrs⟩,by omega,fun _ _=>trivial⟩⟩
   · have a:za7 r2 r0=1:=by simpa using a
     have e:zbh (s3,w3,(zae va c3 pick (s3,w3,m3) (rs.take i)).2.2) ((zbs r0 va c3 r2).1,(zbs r0 va c3 r2).2.1,(zbs r0 va c3 r2).2.2.1,(zbs r0 va c3 r2).2.2.2.1,(zbs r0 va c3 r2).2.2.2.2.1,(zbs r0 va c3 r2).2.2.2.2.2) pick=zae va c3 pick (s3,w3,m3) (rs.take (i+1)):=by
      show zbh _ (zbs r0 va c3 r2) pick=_
      rw[enx,ks,ze1 g1 (zfq hl a) p0 p1]
      unfold zdf
      rw[if_pos a]
     simp only[e]
     simp[j1,j2]
   · have a:¬ za7 r2 r0=1:=by simpa using a
     have e:zae va c3 pick (s3,w3,m3) (rs.take (i+1))=zae va c3 pick (s3,w3,m3) (rs.take i):=by
      rw[enx]
      unfold zdf
      rw[if_neg a]
     simp only[e]
     simp
 · have q:¬ (i:Int)<rs.length:=of_decide_eq_false q
   have:i=rs.length:=by omega
   subst this
   rw[List.take_length]
   exact⟨(),by simp,trivial⟩
theorem ze3{m:By}{va:Int}:∀(n:Nat)(p:Int),(za6 m va n p).1=1→za7 (za6 m va n p).2.2.1 (za6 m va n p).2.1=2
 | 0,_,h=>by cases h
 | n+1,p,h=>by
  unfold za6 at h ⊢
  split at h
  · cases h
  · rename_i c1
    rw[if_neg c1]
    split at h
    · cases h
    · rename_i c2
      rw[if_neg c2]
      split at h
      · rename_i c3
        rw[if_pos c3]
        exact c3
      · rename_i c3
        rw[if_neg c3]
        exact ze3 n _ h
theorem zjl{p:Bool}{t:Tl}{va asid:Int}(h:zat p t=true):zia t va asid=za2 va asid t.2.2:=by unfold zia;rw[if_pos (zb0 h)]
theorem zv6{m:By}{root va:Int}(h:zen va=true):zcf m root va=za6 m va 3 (zfe root):=by unfold zcf;rw[if_pos h];rfl
theorem zt4(k:Int):pfM k≠0:=by unfold pfM;split<;>(try split)<;>decide
theorem ybp(k:Int):afM k≠0:=by unfold afM;split<;>(try split)<;>decide
theorem yoi(m:By)(c0:Int)(c1 c2:Bool)(c3:Int)(s1 w1:Int)(m1:Es)(s2 w2:Int)(m2:Es)(s3 w3:Int)(m3:Es)(kind va pick:Int)(q0 q1 q2:Int)(rs:Rs)(h:yl0 m (c0,c1,c2,c3) (s1,w1,m1,s2,w2,m2,s3,w3,m3) va)(hk:kind=0)(ok:okT (c0,c1,c2,c3) ((s1,w1,m1),(s2,w2,m2),(s3,w3,m3)) kind pick=true)(hW:za6 m va ((zan c3 va (s3,w3,m3)).2+1).toNat (zan c3 va (s3,w3,m3)).1=(q0,q1,q2,rs)){e:Nat}{pa l:Int}{t1 t2 t3:Es}(hr:trM m (c0,c1,c2,c3) ((s1,w1,m1),(s2,w2,m2),(s3,w3,m3)) kind va pick=(e,pa,l,(s1,w1,t1),(s2,w2,t2),(s3,w3,t3))):yr7 m c0 c1 c2 c3 s1 w1 m1 s2 w2 m2 s3 w3 m3 kind va pick q0 q1 q2 rs (zbn e kind) pa s1 w1 t1 s2 w2 t2 s3 w3 t3:=by
 obtain⟨hm,hc3,⟨r1,r2,r3⟩,hv⟩:zaj m∧U64 c3∧(TlR (s1,w1,m1)∧TlR (s2,w2,m2)∧TlR (s3,w3,m3))∧U64 va:=h
 obtain⟨hgc,hask,p0,p1⟩:=zrf ok
 simp only[zci,Bool.and_eq_true] at hgc
 obtain⟨⟨g1,g2⟩,g3⟩:=hgc
 have hpick:∀k:Cch,zfd kind k=k.1:=fun k=>by unfold zfd;rw[if_pos hk]
 have hput:∀(k:Cch)(t:Tl),zol kind k t=(t,k.2.1,k.2.2):=fun k t=>by unfold zol;rw[if_pos hk]
 have hq:=zvw m c0 c1 c2 c3 s1 w1 m1 s2 w2 m2 s3 w3 m3 kind va pick q0 q1 q2 rs (zbn e kind) pa s1 w1 t1 s2 w2 t2 s3 w3 t3
 conv at hq=>rhs;zeta
 have gb:=zmr (c0,c1,c2,c3) ((s1,w1,m1),(s2,w2,m2),(s3,w3,m3)) kind pick
 simp only at gb
 have lk1:zia (s1,w1,m1) va (zba c3)=za2 va (zba c3) m1:=zjl g1
 have lk3:zia (s3,w3,m3) va (zba c3)=za2 va (zba c3) m3:=zjl g3
 rw[gb,ok,lk1,lk3] at hq
 refine zab hq ⟨⟨rfl,rfl,rfl,r1,r2,r3⟩,fun q=>(by cases q),fun _=>⟨⟨rfl,rfl,rfl,r1.2.2.1,r2.2.2.1,r3.2.2.1⟩,hc3,fun qa => ?_,fun qa=>⟨hv,fun qb => ?_,fun qb=>⟨by simp[hk],hc3,⟨rfl,r1,hv⟩,za2 va (zba c3) m1,by simp,fun qc => ?_,fun qc=>⟨⟨rfl,hm,hc3,hv⟩,hc3,⟨rfl,r3,hv⟩,(zcf m c3 va,za2 va (zba c3) m3),by simp,fun qd => ?_,fun qd => ?_⟩⟩⟩⟩⟩
 · have qa:onM (c0,c1,c2,c3)=false:=by simpa using qa
   unfold trM at hr
   rw[if_pos qa] at hr
   cases hr
   simp[zbn]
 · have qa:¬ onM (c0,c1,c2,c3)=false:=by simpa using qa
   have qb:zen va=false:=by simpa using qb
   unfold trM at hr
   rw[if_neg qa,if_pos qb] at hr
   cases hr
   simp[zbn]
 · have qa:¬ onM (c0,c1,c2,c3)=false:=by simpa using qa
   have qb:¬ zen va=false:=by simpa using qb
   unfold trM at hr
   rw[if_neg qa,if_neg qb,hpick,if_pos qc] at hr
   obtain⟨u1,u2,u3⟩:=zd7 g1 r1 qc
   simp only at u1 u2 hr
   generalize za2 va (zba c3) m1=H at *
   by_cases g:za5 H.2.2.2 kind c0 c1 c2=true
   · have hr2:((0,zck H.2.2.2 H.2.2.1 va,0,((s1,w1,m1),(s2,w2,m2),(s3,w3,m3))):TrR)=(e,pa,l,(s1,w1,t1),(s2,w2,t2),(s3,w3,t3)):=by rw[← hr];unfold ygw;rw[if_pos g]
     cases hr2
     simp[zcc,g,zbn,u2,hv]
   · have hr2:((2,0,H.2.2.1,((s1,w1,m1),(s2,w2,m2),(s3,w3,m3))):TrR)=(e,pa,l,(s1,w1,t1),(s2,w2,t2),(s3,w3,t3)):=by rw[← hr];unfold ygw;rw[if_neg g]
     cases hr2
     simp[zcc,g,zbn,u2,hv]
 · have qa:¬ onM (c0,c1,c2,c3)=false:=by simpa using qa
   have qb':zen va=true:=by simpa using qb
   have qb:¬ zen va=false:=by simpa using qb
   unfold trM at hr
   rw[if_neg qa,if_neg qb,hpick,if_neg (by rw[qc];simp)] at hr
   unfold zla at hr
   simp only at hr
   have hst:=zet (satp:=c3) hm hv g3 r3
   have hrec:=ze4 (va:=va) hm ((zan c3 va (s3,w3,m3)).2+1).toNat (zan c3 va (s3,w3,m3)).1
   have hlen:=zdl m va ((zan c3 va (s3,w3,m3)).2+1).toNat (zan c3 va (s3,w3,m3)).1
   have hc:=zb5 m va ((zan c3 va (s3,w3,m3)).2+1).toNat (zan c3 va (s3,w3,m3)).1
   have hleaf:=zbz (va:=va) hm ((zan c3 va (s3,w3,m3)).2+1).toNat (zan c3 va (s3,w3,m3)).1
   have hkind:=ze3 (m:=m) (va:=va) ((zan c3 va (s3,w3,m3)).2+1).toNat (zan c3 va (s3,w3,m3)).1
   have hst2:=hst.2.2.2.1
   have hn3:((zan c3 va (s3,w3,m3)).2+1).toNat≤3:=by have:=hst2.2;omega
   rw[hW] at hr hrec hlen hc hleaf hkind
   simp only at hr hrec hlen hc hleaf hkind
   have hRec:yd9 (c0,c1,c2,c3) ((s1,w1,m1),(s2,w2,m2),(s3,w3,m3)) va pick rs:=⟨hc3,hv,p0,p1,g3,r3,by omega,fun r hr=>by obtain⟨a,b,c⟩:=hrec r hr;exact⟨⟨a,by omega⟩,c⟩⟩
   have qd:(za2 va (zba c3) m3).1=true:=qd
   have es:zan c3 va (s3,w3,m3)=(zcl (za2 va (zba c3) m3).2.2.2,(za2 va (zba c3) m3).2.2.1-1):=by unfold zan;rw[if_pos qd]
   obtain⟨u1,u2,u3⟩:=zd7 g3 r3 qd
   have u4:=zq6 (show za7 _ _=1 from u3)
   simp only at u1 u2 u4
   have ew:IntKind.i64.wrap ((za2 va (zba c3) m3).2.2.1-1)=(za2 va (zba c3) m3).2.2.1-1:=zaa (by have:=u1.1;omega) (by have:=u1.2;omega)
   rw[es] at hW hst
   simp only at hW hst
   have en:((za2 va (zba c3) m3).2.2.1-1).toNat+1=((za2 va (zba c3) m3).2.2.1-1+1).toNat:=by have:=u1.1;omega
   refine⟨u2,⟨rfl,by rw[ew];exact hst⟩,0,by simp only[ew,en,hW];simp[zae],⟨by omega,hRec⟩, ?_⟩
   clear es ew en hW hst
   refine fun _ _=>⟨⟨rfl,fun n2 n3 => ?_,hv⟩,zak (q0,q1,q2,rs) (c0,c1,c2,c3) kind va,by simp,fun a => ?_,fun a => ?_⟩
   · rcases hc with z|z|z
     · exact (hleaf z).1
     · exact absurd z n3
     · exact absurd z n2
   · have a:(zak (q0,q1,q2,rs) (c0,c1,c2,c3) kind va).1=0:=by simpa using a
     rcases hc with z|z|z
     · obtain⟨u1,u2,u3⟩:=hleaf z
       have ul:LvR q1:=⟨u2,by omega⟩
       have uk:=hkind z
       subst z
       have g:za5 q2 kind c0 c1 c2=true:=by
        by_cases g:za5 q2 kind c0 c1 c2=true
        · exact g
        · simp[zak,zcc,g] at a
          exact absurd a (zt4 kind)
       have he:zbh (s1,w1,m1) ((zbs q1 va c3 q2).1,(zbs q1 va c3 q2).2.1,(zbs q1 va c3 q2).2.2.1,(zbs q1 va c3 q2).2.2.2.1,(zbs q1 va c3 q2).2.2.2.2.1,(zbs q1 va c3 q2).2.2.2.2.2) pick=zem (s1,w1,m1) (zbs q1 va c3 q2) pick:=by
        show zbh _ (zbs q1 va c3 q2) pick=_
        exact ze1 g1 (zfq ul uk) p0 p1
       have hr2:((0,zck q2 q1 va,0,zol kind ((s1,w1,m1),(s2,w2,m2),(s3,w3,(zae va c3 pick (s3,w3,m3) rs).2.2)) (zem (zfd kind ((s1,w1,m1),(s2,w2,m2),(s3,w3,(zae va c3 pick (s3,w3,m3) rs).2.2))) (zbs q1 va c3 q2) pick)):TrR)=(e,pa,l,(s1,w1,t1),(s2,w2,t2),(s3,w3,t3)):=by
        rw[← hr];unfold zgz;rw[if_pos rfl,if_pos g]
       rw[hput,hpick] at hr2
       simp only[Prod.mk.injEq] at hr2
       obtain⟨rfl,rfl, -,h1,h2,h3⟩:=hr2
       obtain⟨-, -,rfl⟩:=h2
       obtain⟨-, -,rfl⟩:=h3
       have h1:zem (s1,w1,m1) (zbs q1 va c3 q2) pick=(s1,w1,t1):=h1
       have ea:zak (1,q1,q2,rs) (c0,c1,c2,c3) kind va=(0,zck q2 q1 va):=by simp[zak,zcc,g]
       rw[he,h1,ea]
       refine⟨⟨ul,hv,hc3,u1⟩,⟨rfl,r1,zjc ul u1⟩,fun b => ?_,fun b => ?_⟩
       · simp[zbn]
       · exact absurd hk (by simpa using b)
     · subst z
       exact absurd a (by simp[zak];exact ybp kind)
     · subst z
       exact absurd a (by simp[zak];exact zt4 kind)
   · have a:¬ (zak (q0,q1,q2,rs) (c0,c1,c2,c3) kind va).1=0:=by simpa using a
     rcases hc with z|z|z
     · subst z
       have g:za5 q2 kind c0 c1 c2=false:=by
        by_cases g:za5 q2 kind c0 c1 c2=true
        · exact absurd (by simp[zak,zcc,g]) a
        · simpa using g
       have hr2:((2,0,q1,(s1,w1,m1),(s2,w2,m2),(s3,w3,(zae va c3 pick (s3,w3,m3) rs).2.2)):TrR)=(e,pa,l,(s1,w1,t1),(s2,w2,t2),(s3,w3,t3)):=by
        rw[← hr];unfold zgz;rw[if_pos rfl,if_neg (by rw[g];simp)]
       cases hr2
       simp[zak,zcc,g,zbn]
     · subst z
       have hr2:((1,0,q1,(s1,w1,m1),(s2,w2,m2),(s3,w3,(zae va c3 pick (s3,w3,m3) rs).2.2)):TrR)=(e,pa,l,(s1,w1,t1),(s2,w2,t2),(s3,w3,t3)):=by
        rw[← hr];unfold zgz;rw[if_neg (by simp),if_pos rfl]
       cases hr2
       simp[zak,zbn]
     · subst z
       have hr2:((2,0,q1,(s1,w1,m1),(s2,w2,m2),(s3,w3,(zae va c3 pick (s3,w3,m3) rs).2.2)):TrR)=(e,pa,l,(s1,w1,t1),(s2,w2,t2),(s3,w3,t3)):=by
        rw[← hr];unfold zgz;rw[if_neg (by simp),if_neg (by simp)]
       cases hr2
       simp[zak,zbn]
 · have qa:¬ onM (c0,c1,c2,c3)=false:=by simpa using qa
   have qb':zen va=true:=by simpa using qb
   have qb:¬ zen va=false:=by simpa using qb
   unfold trM at hr
   rw[if_neg qa,if_neg qb,hpick,if_neg (by rw[qc];simp)] at hr
   unfold zla at hr
   simp only at hr
   have hst:=zet (satp:=c3) hm hv g3 r3
   have hrec:=ze4 (va:=va) hm ((zan c3 va (s3,w3,m3)).2+1).toNat (zan c3 va (s3,w3,m3)).1
   have hlen:=zdl m va ((zan c3 va (s3,w3,m3)).2+1).toNat (zan c3 va (s3,w3,m3)).1
   have hc:=zb5 m va ((zan c3 va (s3,w3,m3)).2+1).toNat (zan c3 va (s3,w3,m3)).1
   have hleaf:=zbz (va:=va) hm ((zan c3 va (s3,w3,m3)).2+1).toNat (zan c3 va (s3,w3,m3)).1
   have hkind:=ze3 (m:=m) (va:=va) ((zan c3 va (s3,w3,m3)).2+1).toNat (zan c3 va (s3,w3,m3)).1
   have hst2:=hst.2.2.2.1
   have hn3:((zan c3 va (s3,w3,m3)).2+1).toNat≤3:=by have:=hst2.2;omega
   rw[hW] at hr hrec hlen hc hleaf hkind
   simp only at hr hrec hlen hc hleaf hkind
   have hRec:yd9 (c0,c1,c2,c3) ((s1,w1,m1),(s2,w2,m2),(s3,w3,m3)) va pick rs:=⟨hc3,hv,p0,p1,g3,r3,by omega,fun r hr=>by obtain⟨a,b,c⟩:=hrec r hr;exact⟨⟨a,by omega⟩,c⟩⟩
   have qd:(za2 va (zba c3) m3).1=false:=qd
   have es:zan c3 va (s3,w3,m3)=(zfe c3,2):=by unfold zan;rw[if_neg (by rw[qd];simp)]
   rw[es] at hW
   have ew:zcf m c3 va=(q0,q1,q2,rs):=by rw[zv6 qb'];exact hW
   refine⟨0,by rw[ew];simp[zae],⟨by omega,hRec⟩, ?_⟩
   clear es ew hW hst
   refine fun _ _=>⟨⟨rfl,fun n2 n3 => ?_,hv⟩,zak (q0,q1,q2,rs) (c0,c1,c2,c3) kind va,by simp,fun a => ?_,fun a => ?_⟩
   · rcases hc with z|z|z
     · exact (hleaf z).1
     · exact absurd z n3
     · exact absurd z n2
   · have a:(zak (q0,q1,q2,rs) (c0,c1,c2,c3) kind va).1=0:=by simpa using a
     rcases hc with z|z|z
     · obtain⟨u1,u2,u3⟩:=hleaf z
       have ul:LvR q1:=⟨u2,by omega⟩
       have uk:=hkind z
       subst z
       have g:za5 q2 kind c0 c1 c2=true:=by
        by_cases g:za5 q2 kind c0 c1 c2=true
        · exact g
        · simp[zak,zcc,g] at a
          exact absurd a (zt4 kind)
       have he:zbh (s1,w1,m1) ((zbs q1 va c3 q2).1,(zbs q1 va c3 q2).2.1,(zbs q1 va c3 q2).2.2.1,(zbs q1 va c3 q2).2.2.2.1,(zbs q1 va c3 q2).2.2.2.2.1,(zbs q1 va c3 q2).2.2.2.2.2) pick=zem (s1,w1,m1) (zbs q1 va c3 q2) pick:=by
        show zbh _ (zbs q1 va c3 q2) pick=_
        exact ze1 g1 (zfq ul uk) p0 p1
       have hr2:((0,zck q2 q1 va,0,zol kind ((s1,w1,m1),(s2,w2,m2),(s3,w3,(zae va c3 pick (s3,w3,m3) rs).2.2)) (zem (zfd kind ((s1,w1,m1),(s2,w2,m2),(s3,w3,(zae va c3 pick (s3,w3,m3) rs).2.2))) (zbs q1 va c3 q2) pick)):TrR)=(e,pa,l,(s1,w1,t1),(s2,w2,t2),(s3,w3,t3)):=by
        rw[← hr];unfold zgz;rw[if_pos rfl,if_pos g]
       rw[hput,hpick] at hr2
       simp only[Prod.mk.injEq] at hr2
       obtain⟨rfl,rfl, -,h1,h2,h3⟩:=hr2
       obtain⟨-, -,rfl⟩:=h2
       obtain⟨-, -,rfl⟩:=h3
       have h1:zem (s1,w1,m1) (zbs q1 va c3 q2) pick=(s1,w1,t1):=h1
       have ea:zak (1,q1,q2,rs) (c0,c1,c2,c3) kind va=(0,zck q2 q1 va):=by simp[zak,zcc,g]
       rw[he,h1,ea]
       refine⟨⟨ul,hv,hc3,u1⟩,⟨rfl,r1,zjc ul u1⟩,fun b => ?_,fun b => ?_⟩
       · simp[zbn]
       · exact absurd hk (by simpa using b)
     · subst z
       exact absurd a (by simp[zak];exact ybp kind)
     · subst z
       exact absurd a (by simp[zak];exact zt4 kind)
   · have a:¬ (zak (q0,q1,q2,rs) (c0,c1,c2,c3) kind va).1=0:=by simpa using a
     rcases hc with z|z|z
     · subst z
       have g:za5 q2 kind c0 c1 c2=false:=by
        by_cases g:za5 q2 kind c0 c1 c2=true
        · exact absurd (by simp[zak,zcc,g]) a
        · simpa using g
       have hr2:((2,0,q1,(s1,w1,m1),(s2,w2,m2),(s3,w3,(zae va c3 pick (s3,w3,m3) rs).2.2)):TrR)=(e,pa,l,(s1,w1,t1),(s2,w2,t2),(s3,w3,t3)):=by
        rw[← hr];unfold zgz;rw[if_pos rfl,if_neg (by rw[g];simp)]
       cases hr2
       simp[zak,zcc,g,zbn]
     · subst z
       have hr2:((1,0,q1,(s1,w1,m1),(s2,w2,m2),(s3,w3,(zae va c3 pick (s3,w3,m3) rs).2.2)):TrR)=(e,pa,l,(s1,w1,t1),(s2,w2,t2),(s3,w3,t3)):=by
        rw[← hr];unfold zgz;rw[if_neg (by simp),if_pos rfl]
       cases hr2
       simp[zak,zbn]
     · subst z
       have hr2:((2,0,q1,(s1,w1,m1),(s2,w2,m2),(s3,w3,(zae va c3 pick (s3,w3,m3) rs).2.2)):TrR)=(e,pa,l,(s1,w1,t1),(s2,w2,t2),(s3,w3,t3)):=by
        rw[← hr];unfold zgz;rw[if_neg (by simp),if_neg (by simp)]
       cases hr2
       simp[zak,zbn]
theorem yoh(m:By)(c0:Int)(c1 c2:Bool)(c3:Int)(s1 w1:Int)(m1:Es)(s2 w2:Int)(m2:Es)(s3 w3:Int)(m3:Es)(kind va pick:Int)(q0 q1 q2:Int)(rs:Rs)(h:yl0 m (c0,c1,c2,c3) (s1,w1,m1,s2,w2,m2,s3,w3,m3) va)(hk:kind≠0)(ok:okT (c0,c1,c2,c3) ((s1,w1,m1),(s2,w2,m2),(s3,w3,m3)) kind pick=true)(hW:za6 m va ((zan c3 va (s3,w3,m3)).2+1).toNat (zan c3 va (s3,w3,m3)).1=(q0,q1,q2,rs)){e:Nat}{pa l:Int}{t1 t2 t3:Es}(hr:trM m (c0,c1,c2,c3) ((s1,w1,m1),(s2,w2,m2),(s3,w3,m3)) kind va pick=(e,pa,l,(s1,w1,t1),(s2,w2,t2),(s3,w3,t3))):yr6 m c0 c1 c2 c3 s1 w1 m1 s2 w2 m2 s3 w3 m3 kind va pick q0 q1 q2 rs (zbn e kind) pa s1 w1 t1 s2 w2 t2 s3 w3 t3:=by
 obtain⟨hm,hc3,⟨r1,r2,r3⟩,hv⟩:zaj m∧U64 c3∧(TlR (s1,w1,m1)∧TlR (s2,w2,m2)∧TlR (s3,w3,m3))∧U64 va:=h
 obtain⟨hgc,hask,p0,p1⟩:=zrf ok
 simp only[zci,Bool.and_eq_true] at hgc
 obtain⟨⟨g1,g2⟩,g3⟩:=hgc
 have hpick:∀k:Cch,zfd kind k=k.2.1:=fun k=>by unfold zfd;rw[if_neg hk]
 have hput:∀(k:Cch)(t:Tl),zol kind k t=(k.1,t,k.2.2):=fun k t=>by unfold zol;rw[if_neg hk]
 have hq:=ylf m c0 c1 c2 c3 s1 w1 m1 s2 w2 m2 s3 w3 m3 kind va pick q0 q1 q2 rs (zbn e kind) pa s1 w1 t1 s2 w2 t2 s3 w3 t3
 conv at hq=>rhs;zeta
 have gb:=zmr (c0,c1,c2,c3) ((s1,w1,m1),(s2,w2,m2),(s3,w3,m3)) kind pick
 simp only at gb
 have lk1:zia (s2,w2,m2) va (zba c3)=za2 va (zba c3) m2:=zjl g2
 have lk3:zia (s3,w3,m3) va (zba c3)=za2 va (zba c3) m3:=zjl g3
 rw[gb,ok,lk1,lk3] at hq
 refine zab hq ⟨⟨rfl,rfl,rfl,r1,r2,r3⟩,fun q=>(by cases q),fun _=>⟨⟨rfl,rfl,rfl,r1.2.2.1,r2.2.2.1,r3.2.2.1⟩,hc3,fun qa => ?_,fun qa=>⟨hv,fun qb => ?_,fun qb=>⟨by simp[hk],hc3,⟨rfl,r2,hv⟩,za2 va (zba c3) m2,by simp,fun qc => ?_,fun qc=>⟨⟨rfl,hm,hc3,hv⟩,hc3,⟨rfl,r3,hv⟩,(zcf m c3 va,za2 va (zba c3) m3),by simp,fun qd => ?_,fun qd => ?_⟩⟩⟩⟩⟩
 · have qa:onM (c0,c1,c2,c3)=false:=by simpa using qa
   unfold trM at hr
   rw[if_pos qa] at hr
   cases hr
   simp[zbn]
 · have qa:¬ onM (c0,c1,c2,c3)=false:=by simpa using qa
   have qb:zen va=false:=by simpa using qb
   unfold trM at hr
   rw[if_neg qa,if_pos qb] at hr
   cases hr
   simp[zbn]
 · have qa:¬ onM (c0,c1,c2,c3)=false:=by simpa using qa
   have qb:¬ zen va=false:=by simpa using qb
   unfold trM at hr
   rw[if_neg qa,if_neg qb,hpick,if_pos qc] at hr
   obtain⟨u1,u2,u3⟩:=zd7 g2 r2 qc
   simp only at u1 u2 hr
   generalize za2 va (zba c3) m2=H at *
   by_cases g:za5 H.2.2.2 kind c0 c1 c2=true
   · have hr2:((0,zck H.2.2.2 H.2.2.1 va,0,((s1,w1,m1),(s2,w2,m2),(s3,w3,m3))):TrR)=(e,pa,l,(s1,w1,t1),(s2,w2,t2),(s3,w3,t3)):=by rw[← hr];unfold ygw;rw[if_pos g]
     cases hr2
     simp[zcc,g,zbn,u2,hv]
   · have hr2:((2,0,H.2.2.1,((s1,w1,m1),(s2,w2,m2),(s3,w3,m3))):TrR)=(e,pa,l,(s1,w1,t1),(s2,w2,t2),(s3,w3,t3)):=by rw[← hr];unfold ygw;rw[if_neg g]
     cases hr2
     simp[zcc,g,zbn,u2,hv]
 · have qa:¬ onM (c0,c1,c2,c3)=false:=by simpa using qa
   have qb':zen va=true:=by simpa using qb
   have qb:¬ zen va=false:=by simpa using qb
   unfold trM at hr
   rw[if_neg qa,if_neg qb,hpick,if_neg (by rw[qc];simp)] at hr
   unfold zla at hr
   simp only at hr
   have hst:=zet (satp:=c3) hm hv g3 r3
   have hrec:=ze4 (va:=va) hm ((zan c3 va (s3,w3,m3)).2+1).toNat (zan c3 va (s3,w3,m3)).1
   have hlen:=zdl m va ((zan c3 va (s3,w3,m3)).2+1).toNat (zan c3 va (s3,w3,m3)).1
   have hc:=zb5 m va ((zan c3 va (s3,w3,m3)).2+1).toNat (zan c3 va (s3,w3,m3)).1
   have hleaf:=zbz (va:=va) hm ((zan c3 va (s3,w3,m3)).2+1).toNat (zan c3 va (s3,w3,m3)).1
   have hkind:=ze3 (m:=m) (va:=va) ((zan c3 va (s3,w3,m3)).2+1).toNat (zan c3 va (s3,w3,m3)).1
   have hst2:=hst.2.2.2.1
   have hn3:((zan c3 va (s3,w3,m3)).2+1).toNat≤3:=by have:=hst2.2;omega
   rw[hW] at hr hrec hlen hc hleaf hkind
   simp only at hr hrec hlen hc hleaf hkind
   have hRec:yd9 (c0,c1,c2,c3) ((s1,w1,m1),(s2,w2,m2),(s3,w3,m3)) va pick rs:=⟨hc3,hv,p0,p1,g3,r3,by omega,fun r hr=>by obtain⟨a,b,c⟩:=hrec r hr;exact⟨⟨a,by omega⟩,c⟩⟩
   have qd:(za2 va (zba c3) m3).1=true:=qd
   have es:zan c3 va (s3,w3,m3)=(zcl (za2 va (zba c3) m3).2.2.2,(za2 va (zba c3) m3).2.2.1-1):=by unfold zan;rw[if_pos qd]
   obtain⟨u1,u2,u3⟩:=zd7 g3 r3 qd
   have u4:=zq6 (show za7 _ _=1 from u3)
   simp only at u1 u2 u4
   have ew:IntKind.i64.wrap ((za2 va (zba c3) m3).2.2.1-1)=(za2 va (zba c3) m3).2.2.1-1:=zaa (by have:=u1.1;omega) (by have:=u1.2;omega)
   rw[es] at hW hst
   simp only at hW hst
   have en:((za2 va (zba c3) m3).2.2.1-1).toNat+1=((za2 va (zba c3) m3).2.2.1-1+1).toNat:=by have:=u1.1;omega
   refine⟨u2,⟨rfl,by rw[ew];exact hst⟩,0,by simp only[ew,en,hW];simp[zae],⟨by omega,hRec⟩, ?_⟩
   clear es ew en hW hst
   refine fun _ _=>⟨⟨rfl,fun n2 n3 => ?_,hv⟩,zak (q0,q1,q2,rs) (c0,c1,c2,c3) kind va,by simp,fun a => ?_,fun a => ?_⟩
   · rcases hc with z|z|z
     · exact (hleaf z).1
     · exact absurd z n3
     · exact absurd z n2
   · have a:(zak (q0,q1,q2,rs) (c0,c1,c2,c3) kind va).1=0:=by simpa using a
     rcases hc with z|z|z
     · obtain⟨u1,u2,u3⟩:=hleaf z
       have ul:LvR q1:=⟨u2,by omega⟩
       have uk:=hkind z
       subst z
       have g:za5 q2 kind c0 c1 c2=true:=by
        by_cases g:za5 q2 kind c0 c1 c2=true
        · exact g
        · simp[zak,zcc,g] at a
          exact absurd a (zt4 kind)
       have he:zbh (s2,w2,m2) ((zbs q1 va c3 q2).1,(zbs q1 va c3 q2).2.1,(zbs q1 va c3 q2).2.2.1,(zbs q1 va c3 q2).2.2.2.1,(zbs q1 va c3 q2).2.2.2.2.1,(zbs q1 va c3 q2).2.2.2.2.2) pick=zem (s2,w2,m2) (zbs q1 va c3 q2) pick:=by
        show zbh _ (zbs q1 va c3 q2) pick=_
        exact ze1 g2 (zfq ul uk) p0 p1
       have hr2:((0,zck q2 q1 va,0,zol kind ((s1,w1,m1),(s2,w2,m2),(s3,w3,(zae va c3 pick (s3,w3,m3) rs).2.2)) (zem (zfd kind ((s1,w1,m1),(s2,w2,m2),(s3,w3,(zae va c3 pick (s3,w3,m3) rs).2.2))) (zbs q1 va c3 q2) pick)):TrR)=(e,pa,l,(s1,w1,t1),(s2,w2,t2),(s3,w3,t3)):=by
        rw[← hr];unfold zgz;rw[if_pos rfl,if_pos g]
       rw[hput,hpick] at hr2
       simp only[Prod.mk.injEq] at hr2
       obtain⟨rfl,rfl, -,h1,h2,h3⟩:=hr2
       obtain⟨-, -,rfl⟩:=h1
       obtain⟨-, -,rfl⟩:=h3
       have h1:zem (s2,w2,m2) (zbs q1 va c3 q2) pick=(s2,w2,t2):=h2
       have ea:zak (1,q1,q2,rs) (c0,c1,c2,c3) kind va=(0,zck q2 q1 va):=by simp[zak,zcc,g]
       rw[he,h1,ea]
       refine⟨⟨ul,hv,hc3,u1⟩,⟨rfl,r2,zjc ul u1⟩,fun b => ?_,fun b => ?_⟩
       · exact absurd (by simpa using b) hk
       · simp[zbn]
     · subst z
       exact absurd a (by simp[zak];exact ybp kind)
     · subst z
       exact absurd a (by simp[zak];exact zt4 kind)
   · have a:¬ (zak (q0,q1,q2,rs) (c0,c1,c2,c3) kind va).1=0:=by simpa using a
     rcases hc with z|z|z
     · subst z
       have g:za5 q2 kind c0 c1 c2=false:=by
        by_cases g:za5 q2 kind c0 c1 c2=true
        · exact absurd (by simp[zak,zcc,g]) a
        · simpa using g
       have hr2:((2,0,q1,(s1,w1,m1),(s2,w2,m2),(s3,w3,(zae va c3 pick (s3,w3,m3) rs).2.2)):TrR)=(e,pa,l,(s1,w1,t1),(s2,w2,t2),(s3,w3,t3)):=by
        rw[← hr];unfold zgz;rw[if_pos rfl,if_neg (by rw[g];simp)]
       cases hr2
       simp[zak,zcc,g,zbn]
     · subst z
       have hr2:((1,0,q1,(s1,w1,m1),(s2,w2,m2),(s3,w3,(zae va c3 pick (s3,w3,m3) rs).2.2)):TrR)=(e,pa,l,(s1,w1,t1),(s2,w2,t2),(s3,w3,t3)):=by
        rw[← hr];unfold zgz;rw[if_neg (by simp),if_pos rfl]
       cases hr2
       simp[zak,zbn]
     · subst z
       have hr2:((2,0,q1,(s1,w1,m1),(s2,w2,m2),(s3,w3,(zae va c3 pick (s3,w3,m3) rs).2.2)):TrR)=(e,pa,l,(s1,w1,t1),(s2,w2,t2),(s3,w3,t3)):=by
        rw[← hr];unfold zgz;rw[if_neg (by simp),if_neg (by simp)]
       cases hr2
       simp[zak,zbn]
 · have qa:¬ onM (c0,c1,c2,c3)=false:=by simpa using qa
   have qb':zen va=true:=by simpa using qb
   have qb:¬ zen va=false:=by simpa using qb
   unfold trM at hr
   rw[if_neg qa,if_neg qb,hpick,if_neg (by rw[qc];simp)] at hr
   unfold zla at hr
   simp only at hr
   have hst:=zet (satp:=c3) hm hv g3 r3
   have hrec:=ze4 (va:=va) hm ((zan c3 va (s3,w3,m3)).2+1).toNat (zan c3 va (s3,w3,m3)).1
   have hlen:=zdl m va ((zan c3 va (s3,w3,m3)).2+1).toNat (zan c3 va (s3,w3,m3)).1
   have hc:=zb5 m va ((zan c3 va (s3,w3,m3)).2+1).toNat (zan c3 va (s3,w3,m3)).1
   have hleaf:=zbz (va:=va) hm ((zan c3 va (s3,w3,m3)).2+1).toNat (zan c3 va (s3,w3,m3)).1
   have hkind:=ze3 (m:=m) (va:=va) ((zan c3 va (s3,w3,m3)).2+1).toNat (zan c3 va (s3,w3,m3)).1
   have hst2:=hst.2.2.2.1
   have hn3:((zan c3 va (s3,w3,m3)).2+1).toNat≤3:=by have:=hst2.2;omega
   rw[hW] at hr hrec hlen hc hleaf hkind
   simp only at hr hrec hlen hc hleaf hkind
   have hRec:yd9 (c0,c1,c2,c3) ((s1,w1,m1),(s2,w2,m2),(s3,w3,m3)) va pick rs:=⟨hc3,hv,p0,p1,g3,r3,by omega,fun r hr=>by obtain⟨a,b,c⟩:=hrec r hr;exact⟨⟨a,by omega⟩,c⟩⟩
   have qd:(za2 va (zba c3) m3).1=false:=qd
   have es:zan c3 va (s3,w3,m3)=(zfe c3,2):=by unfold zan;rw[if_neg (by rw[qd];simp)]
   rw[es] at hW
   have ew:zcf m c3 va=(q0,q1,q2,rs):=by rw[zv6 qb'];exact hW
   refine⟨0,by rw[ew];simp[zae],⟨by omega,hRec⟩, ?_⟩
   clear es ew hW hst
   refine fun _ _=>⟨⟨rfl,fun n2 n3 => ?_,hv⟩,zak (q0,q1,q2,rs) (c0,c1,c2,c3) kind va,by simp,fun a => ?_,fun a => ?_⟩
   · rcases hc with z|z|z
     · exact (hleaf z).1
     · exact absurd z n3
     · exact absurd z n2
   · have a:(zak (q0,q1,q2,rs) (c0,c1,c2,c3) kind va).1=0:=by simpa using a
     rcases hc with z|z|z
     · obtain⟨u1,u2,u3⟩:=hleaf z
       have ul:LvR q1:=⟨u2,by omega⟩
       have uk:=hkind z
       subst z
       have g:za5 q2 kind c0 c1 c2=true:=by
        by_cases g:za5 q2 kind c0 c1 c2=true
        · exact g
        · simp[zak,zcc,g] at a
          exact absurd a (zt4 kind)
       have he:zbh (s2,w2,m2) ((zbs q1 va c3 q2).1,(zbs q1 va c3 q2).2.1,(zbs q1 va c3 q2).2.2.1,(zbs q1 va c3 q2).2.2.2.1,(zbs q1 va c3 q2).2.2.2.2.1,(zbs q1 va c3 q2).2.2.2.2.2) pick=zem (s2,w2,m2) (zbs q1 va c3 q2) pick:=by
        show zbh _ (zbs q1 va c3 q2) pick=_
        exact ze1 g2 (zfq ul uk) p0 p1
       have hr2:((0,zck q2 q1 va,0,zol kind ((s1,w1,m1),(s2,w2,m2),(s3,w3,(zae va c3 pick (s3,w3,m3) rs).2.2)) (zem (zfd kind ((s1,w1,m1),(s2,w2,m2),(s3,w3,(zae va c3 pick (s3,w3,m3) rs).2.2))) (zbs q1 va c3 q2) pick)):TrR)=(e,pa,l,(s1,w1,t1),(s2,w2,t2),(s3,w3,t3)):=by
        rw[← hr];unfold zgz;rw[if_pos rfl,if_pos g]
       rw[hput,hpick] at hr2
       simp only[Prod.mk.injEq] at hr2
       obtain⟨rfl,rfl, -,h1,h2,h3⟩:=hr2
       obtain⟨-, -,rfl⟩:=h1
       obtain⟨-, -,rfl⟩:=h3
       have h1:zem (s2,w2,m2) (zbs q1 va c3 q2) pick=(s2,w2,t2):=h2
       have ea:zak (1,q1,q2,rs) (c0,c1,c2,c3) kind va=(0,zck q2 q1 va):=by simp[zak,zcc,g]
       rw[he,h1,ea]
       refine⟨⟨ul,hv,hc3,u1⟩,⟨rfl,r2,zjc ul u1⟩,fun b => ?_,fun b => ?_⟩
       · exact absurd (by simpa using b) hk
       · simp[zbn]
     · subst z
       exact absurd a (by simp[zak];exact ybp kind)
     · subst z
       exact absurd a (by simp[zak];exact zt4 kind)
   · have a:¬ (zak (q0,q1,q2,rs) (c0,c1,c2,c3) kind va).1=0:=by simpa using a
     rcases hc with z|z|z
     · subst z
       have g:za5 q2 kind c0 c1 c2=false:=by
        by_cases g:za5 q2 kind c0 c1 c2=true
        · exact absurd (by simp[zak,zcc,g]) a
        · simpa using g
       have hr2:((2,0,q1,(s1,w1,m1),(s2,w2,m2),(s3,w3,(zae va c3 pick (s3,w3,m3) rs).2.2)):TrR)=(e,pa,l,(s1,w1,t1),(s2,w2,t2),(s3,w3,t3)):=by
        rw[← hr];unfold zgz;rw[if_pos rfl,if_neg (by rw[g];simp)]
       cases hr2
       simp[zak,zcc,g,zbn]
     · subst z
       have hr2:((1,0,q1,(s1,w1,m1),(s2,w2,m2),(s3,w3,(zae va c3 pick (s3,w3,m3) rs).2.2)):TrR)=(e,pa,l,(s1,w1,t1),(s2,w2,t2),(s3,w3,t3)):=by
        rw[← hr];unfold zgz;rw[if_neg (by simp),if_pos rfl]
       cases hr2
       simp[zak,zbn]
     · subst z
       have hr2:((2,0,q1,(s1,w1,m1),(s2,w2,m2),(s3,w3,(zae va c3 pick (s3,w3,m3) rs).2.2)):TrR)=(e,pa,l,(s1,w1,t1),(s2,w2,t2),(s3,w3,t3)):=by
        rw[← hr];unfold zgz;rw[if_neg (by simp),if_neg (by simp)]
       cases hr2
       simp[zak,zbn]
theorem yu4:Sound Tryz.prog 38 (zai [byP,zg4,chP,i64,u64,i64] [ttP] (fun t=>some (yl0 t.1 t.2.1 t.2.2.1 t.2.2.2.2.1)) (fun t=>zom t.1 t.2.1 t.2.2.1 t.2.2.2.1 t.2.2.2.2.1 t.2.2.2.2.2)):=by
 refine zbl mixed Tryz.func38 (by kernel_rfl) (b:=zag Tryz.f38 0) (k:=24) (by kernel_rfl) (by kernel_rfl) (by kernel_rfl) yxq (fun t h => ?_)
 obtain⟨m,⟨c0,c1,c2,c3⟩,⟨s1,w1,m1,s2,w2,m2,s3,w3,m3⟩,kind,va,pick⟩:By × Ct × Cf × Int × Int × Int:=t
 have h:yl0 m (c0,c1,c2,c3) (s1,w1,m1,s2,w2,m2,s3,w3,m3) va:=h
 have goal:∀(isI:Bool)(q0 q1 q2:Int)(rs:Rs),(∀i:Nat,(i≤rs.length∧yd9 (c0,c1,c2,c3) ((s1,w1,m1),(s2,w2,m2),(s3,w3,m3)) va pick rs)→zam Tryz.prog FZ0 (spX isI m (c0,c1,c2,c3) ((s1,w1,m1),(s2,w2,m2),(s3,w3,m3)) kind va pick (q0,q1,q2,rs)) 4 (zag Tryz.f38 0) (spL isI m (c0,c1,c2,c3) ((s1,w1,m1),(s2,w2,m2),(s3,w3,m3)) kind va pick (q0,q1,q2,rs)) (fun i:Nat=>rs.length-i) i)→zal Tryz.prog FZ0 (spX isI m (c0,c1,c2,c3) ((s1,w1,m1),(s2,w2,m2),(s3,w3,m3)) kind va pick (q0,q1,q2,rs)) Tryz.f38 [byP,zg4,chP,i64,u64,i64] [ttP] (m,(c0,c1,c2,c3),(s1,w1,m1,s2,w2,m2,s3,w3,m3),kind,va,pick) (zom m (c0,c1,c2,c3) (s1,w1,m1,s2,w2,m2,s3,w3,m3) kind va pick)→∃(Ξ:Specs)(L:LoopS)(μ:L.α→Nat),Ξ.loop 24=some L∧(∀y,L.I y→zam Tryz.prog FZ0 Ξ 4 (zag Tryz.f38 0) L μ y)∧zal Tryz.prog FZ0 Ξ Tryz.f38 [byP,zg4,chP,i64,u64,i64] [ttP] (m,(c0,c1,c2,c3),(s1,w1,m1,s2,w2,m2,s3,w3,m3),kind,va,pick) (zom m (c0,c1,c2,c3) (s1,w1,m1,s2,w2,m2,s3,w3,m3) kind va pick) :=
  fun isI q0 q1 q2 rs a b=>⟨spX isI m (c0,c1,c2,c3) ((s1,w1,m1),(s2,w2,m2),(s3,w3,m3)) kind va pick (q0,q1,q2,rs),spL isI m (c0,c1,c2,c3) ((s1,w1,m1),(s2,w2,m2),(s3,w3,m3)) kind va pick (q0,q1,q2,rs),fun i:Nat=>rs.length-i,(show (Specs.one 24 (spL isI m (c0,c1,c2,c3) ((s1,w1,m1),(s2,w2,m2),(s3,w3,m3)) kind va pick (q0,q1,q2,rs))).loop 24=some (spL isI m (c0,c1,c2,c3) ((s1,w1,m1),(s2,w2,m2),(s3,w3,m3)) kind va pick (q0,q1,q2,rs)) from za3 24 _),a,b⟩
 have el:zom m (c0,c1,c2,c3) (s1,w1,m1,s2,w2,m2,s3,w3,m3) kind va pick=((yee m (c0,c1,c2,c3) ((s1,w1,m1),(s2,w2,m2),(s3,w3,m3)) kind va pick).1,(yee m (c0,c1,c2,c3) ((s1,w1,m1),(s2,w2,m2),(s3,w3,m3)) kind va pick).2.1,ofC (yee m (c0,c1,c2,c3) ((s1,w1,m1),(s2,w2,m2),(s3,w3,m3)) kind va pick).2.2):=rfl
 generalize hW:za6 m va ((zan c3 va (s3,w3,m3)).2+1).toNat (zan c3 va (s3,w3,m3)).1=W
 obtain⟨q0,q1,q2,rs⟩:=W
 by_cases ok:okT (c0,c1,c2,c3) ((s1,w1,m1),(s2,w2,m2),(s3,w3,m3)) kind pick=true
 · obtain⟨e,pa,l,t1,t2,t3,hr, -⟩:=znt m (c0,c1,c2,c3) (s1,w1,m1) (s2,w2,m2) (s3,w3,m3) kind va pick
   have et:zom m (c0,c1,c2,c3) (s1,w1,m1,s2,w2,m2,s3,w3,m3) kind va pick=(zbn e kind,pa,s1,w1,t1,s2,w2,t2,s3,w3,t3):=by
    rw[el]
    unfold yee
    rw[if_pos ok,hr]
    rfl
   by_cases hk:kind=0
   · refine goal true q0 q1 q2 rs (fun i hi=>zuh m c0 c1 c2 c3 s1 w1 m1 s2 w2 m2 s3 w3 m3 kind va pick q0 q1 q2 rs hi) ?_
     rw[et]
     exact yoi m c0 c1 c2 c3 s1 w1 m1 s2 w2 m2 s3 w3 m3 kind va pick q0 q1 q2 rs h hk ok hW hr
   · refine goal false q0 q1 q2 rs (fun i hi=>yi9 m c0 c1 c2 c3 s1 w1 m1 s2 w2 m2 s3 w3 m3 kind va pick q0 q1 q2 rs hi) ?_
     rw[et]
     exact yoh m c0 c1 c2 c3 s1 w1 m1 s2 w2 m2 s3 w3 m3 kind va pick q0 q1 q2 rs h hk ok hW hr
 · have et:zom m (c0,c1,c2,c3) (s1,w1,m1,s2,w2,m2,s3,w3,m3) kind va pick=(63,0,0,0,[],0,0,[],0,0,[]):=by
    rw[el]
    unfold yee
    rw[if_neg ok]
    rfl
   obtain⟨hm,hc3,⟨r1,r2,r3⟩,hv⟩:zaj m∧U64 c3∧(TlR (s1,w1,m1)∧TlR (s2,w2,m2)∧TlR (s3,w3,m3))∧U64 va:=h
   have ok:okT (c0,c1,c2,c3) ((s1,w1,m1),(s2,w2,m2),(s3,w3,m3)) kind pick=false:=by simpa using ok
   refine goal true q0 q1 q2 rs (fun i hi=>zuh m c0 c1 c2 c3 s1 w1 m1 s2 w2 m2 s3 w3 m3 kind va pick q0 q1 q2 rs hi) ?_
   rw[et]
   have hq:=zvw m c0 c1 c2 c3 s1 w1 m1 s2 w2 m2 s3 w3 m3 kind va pick q0 q1 q2 rs 63 0 0 0 [] 0 0 [] 0 0 []
   conv at hq=>rhs;zeta
   have gb:=zmr (c0,c1,c2,c3) ((s1,w1,m1),(s2,w2,m2),(s3,w3,m3)) kind pick
   simp only at gb
   rw[gb,ok] at hq
   refine zab hq ⟨⟨rfl,rfl,rfl,r1,r2,r3⟩,fun _ => ?_,fun q=>by cases q⟩
   simp
theorem yzb:zar Tryz.prog kZ1 := .cons (by kernel_rfl) yu4 <| .nil
end Go.Proofs.YtfiddfbagbaofaaGreat.V
