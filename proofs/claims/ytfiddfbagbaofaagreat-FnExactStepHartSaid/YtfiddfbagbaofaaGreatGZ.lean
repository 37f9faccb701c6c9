/- The reference's translation with caches answers as the program's; the law returns true. Conditions: those in each statement. -/
import Derived.Test.YtfiddfbagbaofaaGreatGY
import Derived.KernelRfl
namespace Go.Proofs.YtfiddfbagbaofaaGreat.V
open Go
def kZ0:Known:=kI2++kH++kK2++kY1++kN2++kO1++kM
def FZ0:Dict:=mkD kZ0 [] []
abbrev Ans:=Int × Int
def spH(box isI:Bool)(m:By)(c:Ct)(k:Cch)(P2:Es):Heap:=[.arr [.i .u8] m false,.arr shE k.1.2.2 false,.arr shE k.2.1.2.2 false,.arr shE k.2.2.2.2 false,
 .fix [.v (.int .i64 c.1),.v (.bool c.2.1),.v (.bool c.2.2.1),.v (.int .u64 c.2.2.2)] true (some 65),
 cond box (.fix (tlA k.1.1 k.1.2.1 1 k.1.2.2.length++(tlA k.2.1.1 k.2.1.2.1 2 k.2.1.2.2.length++tlA k.2.2.1 k.2.2.2.1 3 k.2.2.2.2.length)) true (some 39)) .dead,
 .fix [.v (.int .i64 0),.v (.int .u64 0),.v (.int .i64 0),.v (.int .i64 0),.v (.slice none 0 0),.v (.int .i64 0),.v (.int .i64 0),.v (.slice none 0 0),.v (.int .i64 0),.v (.int .i64 0),.v (.slice none 0 0)] true (some 69),
 .fix ([.v (.int .i64 0),.v (.int .u64 0)]++(tlA k.1.1 k.1.2.1 8 k.1.2.2.length++(tlA k.2.1.1 k.2.1.2.1 9 k.2.1.2.2.length++tlA k.2.2.1 k.2.2.2.1 10 P2.length))) true (some 69),
 .arr shE k.1.2.2 true,.arr shE k.2.1.2.2 true,.arr shE P2 true,
 .fix (cond isI (tlA k.1.1 k.1.2.1 1 k.1.2.2.length) (tlA k.2.1.1 k.2.1.2.1 2 k.2.1.2.2.length)) true (some 37)]
def yai1(kind va pick:Int)(l:List (Nat × Av)):List Av:=slots 197 ([(3,.v (.int .i64 kind)),(4,.v (.int .u64 va)),(5,.v (.int .i64 pick)),(7,.ptr 4 0),(12,.ptr 6 0),(13,.ptr 7 0),(14,.ptr 11 0)]++l)
def wkA(W:Wr)(id:Nat):List Av:=[.v (.int .i64 W.1),.v (.int .i64 W.2.1),.v (.int .u64 W.2.2.1),.sl id 3 0 W.2.2.2.length]
def yeg(c:Ct)(k:Cch)(va pick:Int)(rs:Rs):Prop:=U64 c.2.2.2∧U64 va∧0≤pick∧pick≤255∧zaj true k.2.2=true∧TlR k.2.2∧rs.length≤3∧∀r ∈ rs,LvR r.1∧U64 r.2.2
def spL(isI:Bool)(m:By)(c:Ct)(k:Cch)(kind va pick:Int)(W:Wr):LoopS where
 α:=Nat
 I i:=i≤W.2.2.2.length∧yeg c k va pick W.2.2.2
 sl i:=yai1 kind va pick [(17,.ptr 12 0),(19,.v (.int .i64 (i:Int)))]
 H i:=spH false isI m c k (zaf va c.2.2.2 pick k.2.2 (W.2.2.2.take i)).2.2++[.fix (wkA W 13) true (some 183),.arr shR W.2.2.2 true]
 fams:=[{ β:=Unit,out:=fun _ _=>True,ex := .ext 0,sl:=fun _=>yai1 kind va pick [(17,.ptr 12 0)],H:=fun _=>spH false isI m c k (zaf va c.2.2.2 pick k.2.2 W.2.2.2).2.2++[.fix (wkA W 13) true (some 183),.arr shR W.2.2.2 true] }]
def spX(isI:Bool)(m:By)(c:Ct)(k:Cch)(kind va pick:Int)(W:Wr):Specs:={ Specs.one 24 (spL isI m c k kind va pick W) with pick:=fun r=>if r=12 then some isI else none,cut:=fun r=>if r=14 then some (CutS.mk Hi (fun _=>yai1 kind va pick [(0,.sl 0 1 0 m.length),(8,.ptr 5 0),(15,.ptr 12 0)]) (fun z=>spH true isI m c k k.2.2.2.2++[.fix (yad z) true (some 52)])) else if r=21 then some (CutS.mk (Wr × Hi) (fun _=>yai1 kind va pick [(0,.sl 0 1 0 m.length),(17,.ptr 12 0),(18,.ptr 14 0)]) (fun z=>spH false isI m c k k.2.2.2.2++[.fix (wkA z.1 13) true (some 183),.arr shR z.1.2.2.2 true,.fix (yad z.2) true (some 52)])) else if r=29 then some (CutS.mk Ans (fun _=>yai1 kind va pick [(17,.ptr 12 0),(20,.ptr 14 0)]) (fun z=>spH false isI m c k (zaf va c.2.2.2 pick k.2.2 W.2.2.2).2.2++[.fix (wkA W 13) true (some 183),.arr shR W.2.2.2 true,.fix [.v (.int .i64 z.1),.v (.int .u64 z.2)] true (some 77)])) else none }
def yqb(m:By)(c0:Int)(c1 c2:Bool)(c3:Int)(s1 w1:Int)(m1:Es)(s2 w2:Int)(m2:Es)(s3 w3:Int)(m3:Es)(kind va pick:Int)(q0 q1 q2:Int)(rs:Rs)(i:Nat):Prop:=zao Tryz.prog FZ0 (spX true m (c0,c1,c2,c3) ((s1,w1,m1),(s2,w2,m2),(s3,w3,m3)) kind va pick (q0,q1,q2,rs)) 4 (zak Tryz.f38 0) (spL true m (c0,c1,c2,c3) ((s1,w1,m1),(s2,w2,m2),(s3,w3,m3)) kind va pick (q0,q1,q2,rs)) (fun i:Nat=>rs.length-i) i
def ys4(m:By)(c0:Int)(c1 c2:Bool)(c3:Int)(s1 w1:Int)(m1:Es)(s2 w2:Int)(m2:Es)(s3 w3:Int)(m3:Es)(kind va pick:Int)(q0 q1 q2:Int)(rs:Rs)(e pa:Int)(t1 u1:Int)(n1:Es)(t2 u2:Int)(n2:Es)(t3 u3:Int)(n3:Es):Prop:=zag Tryz.prog FZ0 (spX true m (c0,c1,c2,c3) ((s1,w1,m1),(s2,w2,m2),(s3,w3,m3)) kind va pick (q0,q1,q2,rs)) Tryz.f38 [byP,zgo,chP,i64,u64,i64] [ttP] (m,(c0,c1,c2,c3),(s1,w1,m1,s2,w2,m2,s3,w3,m3),kind,va,pick) (e,pa,t1,u1,n1,t2,u2,n2,t3,u3,n3)
def yqa(m:By)(c0:Int)(c1 c2:Bool)(c3:Int)(s1 w1:Int)(m1:Es)(s2 w2:Int)(m2:Es)(s3 w3:Int)(m3:Es)(kind va pick:Int)(q0 q1 q2:Int)(rs:Rs)(i:Nat):Prop:=zao Tryz.prog FZ0 (spX false m (c0,c1,c2,c3) ((s1,w1,m1),(s2,w2,m2),(s3,w3,m3)) kind va pick (q0,q1,q2,rs)) 4 (zak Tryz.f38 0) (spL false m (c0,c1,c2,c3) ((s1,w1,m1),(s2,w2,m2),(s3,w3,m3)) kind va pick (q0,q1,q2,rs)) (fun i:Nat=>rs.length-i) i
def ys3(m:By)(c0:Int)(c1 c2:Bool)(c3:Int)(s1 w1:Int)(m1:Es)(s2 w2:Int)(m2:Es)(s3 w3:Int)(m3:Es)(kind va pick:Int)(q0 q1 q2:Int)(rs:Rs)(e pa:Int)(t1 u1:Int)(n1:Es)(t2 u2:Int)(n2:Es)(t3 u3:Int)(n3:Es):Prop:=zag Tryz.prog FZ0 (spX false m (c0,c1,c2,c3) ((s1,w1,m1),(s2,w2,m2),(s3,w3,m3)) kind va pick (q0,q1,q2,rs)) Tryz.f38 [byP,zgo,chP,i64,u64,i64] [ttP] (m,(c0,c1,c2,c3),(s1,w1,m1,s2,w2,m2,s3,w3,m3),kind,va,pick) (e,pa,t1,u1,n1,t2,u2,n2,t3,u3,n3)
def yl8(m:By)(c:Ct)(x:Cf)(va:Int):Prop:=zaz m∧U64 c.2.2.2∧ChR (toC x)∧U64 va
def kZ1:Known:=[
 (38,zad [byP,zgo,chP,i64,u64,i64] [ttP] (fun t=>some (yl8 t.1 t.2.1 t.2.2.1 t.2.2.2.2.1)) (fun t=>zn6 t.1 t.2.1 t.2.2.1 t.2.2.2.1 t.2.2.2.2.1 t.2.2.2.2.2))]
set_option linter.unusedVariables false
theorem zzc(m:By)(c0:Int)(c1 c2:Bool)(c3:Int)(s1 w1:Int)(m1:Es)(s2 w2:Int)(m2:Es)(s3 w3:Int)(m3:Es)(kind va pick:Int)(q0 q1 q2:Int)(rs:Rs)(i:Nat):yqb m c0 c1 c2 c3 s1 w1 m1 s2 w2 m2 s3 w3 m3 kind va pick q0 q1 q2 rs i=(
 let A0:=(0:Nat)+(↑i:Int).toNat;
 let A1:=List.getD rs A0 (El.zero shR);
 let A2:=List.length rs;
 let A3(a b c:Prop):=a∧b∧c;
 let A4:=(0:Int)=0;
 let A5(a b c d e:Prop):=A3 a b (A3 c d e);
 let A6(a b:Es):=List.length a=List.length b;
 let A7:=zbk A1.fst va c3 A1.snd.snd;
 let A8:=(0:Nat)=0;
 let A9:=Value.slice none 0 0;
 let Aa(a b:Int)(c:Es):=(a,b,c);
 let Ab:=(↑i:Int);
 let Ac(a b c d e f g h i j k l m n o p q:Prop):=A5 a b c d (A5 e f g h (A5 i j k l (A5 m n o p q)));
 let Ad:=(↑A2:Int);
 let Ae(a:Nat):=(zaf va c3 pick (Aa s3 w3 m3) (List.take a rs)).snd.snd;
 let Af:=A7.snd.snd.snd.snd;
 let Ah:=(s3,w3,Ae i);
 let Ai:=(A7.fst,A7.snd.fst,A7.snd.snd.fst,A7.snd.snd.snd.fst,Af.fst,Af.snd);
 let Aj(a:Bool)(b:Prop):=decide (Ab<Ad)=a→b;
 let Ak(a:Nat)(b:Prop):=(kind=kind∧Ac (va=va) (pick=pick) ((↑a:Int)=IntKind.i64.wrap (Ab+1)) (m=m) (m1=m1) (m2=m2) (m3=m3) (c0=c0) (c1=c1) (c2=c2) (c3=c3) A4 A4 A4 A4 (A9=A9) b)∧A3 (a≤A2 ∧
  yeg (c0,c1,c2,c3) (Aa s1 w1 m1,Aa s2 w2 m2,Aa s3 w3 m3) va pick rs) (A2-a<A2-i) (∀(x1:Unit),True→True);
 let Al(a b c:Prop):=A3 ((0:Int)≤Ab∧Ab<Ad) (A0<A2) (A5 ((0:Int)≤Ab∧Ab<Ad) (A0<A2) a b c);
 let Am(a:Es):=Ac A4 A4 (A9=A9) A4 A4 (A9=A9) A4 A4 (s1=s1) (w1=w1) A8 (A6 m1 m1) (s2=s2) (w2=w2) A8 (A6 m2 m2) (Ac (s3=s3) (w3=w3) A8 (A6 a (Ae i)) (m1=m1) (m2=m2) (a=Ae i) (s1=s1) (w1=w1) A8 (A6 m1 m1) (q0 =
  q0) (q1=q1) (q2=q2) A8 (A2=A2) (rs=rs));
 let An:=zbe Ah Ai pick;
 let Ao:=U64 A1.snd.snd;
 let Ap(a:Bool)(b:Prop):=(za2 A1.snd.snd A1.fst==1)=a→b;
 let Aq:=(zbe Ah Ai pick).snd.snd;
 Aj true (Al Ao (Ap true (Al (LvR A1.fst∧A3 (U64 va) (U64 c3) Ao) (A3 (A6 (Ae i) (Ae i)) (TlR Ah) (EnR Ai)) (∃(x0:Nat),Ak x0 (Ac A4 A4 (A9=A9) A4 A4 (A9=A9) A4 A4 (s1=s1) (w1=w1) A8 (A6 m1 m1) (s2=s2) (w2=w2) A8 (A6 m2
  m2) (Ac (s3=An.fst) (w3=An.snd.fst) A8 (List.length (Ae x0)=List.length Aq) (m1=m1) (m2=m2) (Ae x0=Aq) (s1=s1) (w1=w1) A8 (A6 m1 m1) (q0=q0) (q1=q1) (q2=q2) A8 (A2=A2) (rs=rs)))))) (Ap false (∃(x2:Nat),Ak
  x2 (Am (Ae x2)))))∧Aj false (∃(x3:Unit),Ac (kind=kind) (va=va) (pick=pick) (m=m) (m1=m1) (m2=m2) (m3=m3) (c0=c0) (c1=c1) (c2=c2) (c3=c3) A4 A4 A4 A4 (A9=A9) (Am (zaf va c3 pick (Aa s3 w3 m3) rs).snd.snd)
  ∧ True)):=by kernel_rfl
theorem zva(m:By)(c0:Int)(c1 c2:Bool)(c3:Int)(s1 w1:Int)(m1:Es)(s2 w2:Int)(m2:Es)(s3 w3:Int)(m3:Es)(kind va pick:Int)(q0 q1 q2:Int)(rs:Rs)(e pa:Int)(t1 u1:Int)(n1:Es)(t2 u2:Int)(n2:Es)(t3 u3:Int)(n3:Es):ys4 m c0 c1 c2 c3 s1 w1 m1 s2 w2 m2 s3 w3 m3 kind va pick q0 q1 q2 rs e pa t1 u1 n1 t2 u2 n2 t3 u3 n3=(
 let A0(a:Es)(b:Nat):=List.length a=b;
 let A1(a:Int):=a=0;
 let A2(a b c:Prop):=a∧b∧c;
 let A3(a b:Es):=A0 a (List.length b);
 let A4(a b c d e:Prop):=A2 a b (A2 c d e);
 let A5:=A1 0;
 let A6:=(0:Nat)=0;
 let A7(a b c d e f g h i:Prop):=A4 a b c d (A4 e f g h i);
 let A8(a b c d e f g h i j k l m n o p q:Prop):=A7 a b c d e f g h (A7 i j k l m n o p q);
 let A9:=Value.slice none 0 0;
 let Aa(a b:Int)(c:Es):=(a,b,c);
 let Ab:=List.length rs;
 let Ac(a b:Int)(c:Es):=(a,b,c);
 let Ad(a b c d e f g h i j k l m n o p q r s t u v w x y z B C D E F G:Prop):=A8 a b c a d e f g h i j k l m n o (A8 p q r s t u v w x y z B C D E F G);
 let Ae:=(zaf va c3 pick (Aa s3 w3 m3) rs).snd.snd;
 let Af(a:Wr × Hi):=a.snd.snd.snd;
 let Ah(a:Es):=A3 a m1;
 let Ai(a:Int):=a==0;
 let Aj:=(zbk q1 va c3 q2).snd.snd.snd.snd;
 let Ak:=List.length m;
 let Al:=((zbk q1 va c3 q2).fst,(zbk q1 va c3 q2).snd.fst,(zbk q1 va c3 q2).snd.snd.fst,(zbk q1 va c3 q2).snd.snd.snd.fst,Aj.fst,Aj.snd);
 let Am:=zbe (Ac s1 w1 m1) Al pick;
 let An(a b c d e f g h:Prop)(i:Es)(j k:Prop):=A4 a b c d (A8 A6 e f g A6 h (t3=s3) (u3=w3) A6 (A3 n3 i) (m=m) (m1=m1) (m2=m2) (m3=m3) j k (n3=i));
 let Ao(a:(Cs.i IntKind.i64).T × CsT [Cs.i IntKind.i64,Cs.sl shE]):=zhs a va (za7 c3);
 let Ap(a:Bool)(b c:Int):=bif a then true else decide (b>c);
 let Aq:=Am.snd.snd;
 let Ar:=Ah m1;
 let Au(a b c d e f g h i j k l m n o:Prop)(p:Int)(q r s t u v w x y:Prop)(z:Bool)(B:Hi)(C:Int × Int × Int)(D E:Int)(F:Es)(G:Int × Int):=Ad A5 (A9=A9) A5 a b c d e f g h i j k l m n o (p=p) q r s t u v w x y
  (z=B.fst) (C.fst=(Ao (Ac D E F)).snd.fst) (G.fst=(Ao (Ac D E F)).snd.snd.fst) (G.snd=(Ao (Ac D E F)).snd.snd.snd);
 let Aw(a:Bool × Int × Int × Int):=a.snd.snd;
 let Ax(a b:Prop)(c:Int):=A2 a b (U64 c);
 let Ay(a:Int)(b:Bool)(c:Int × Int)(d f g h i j k l:Prop):=Ai a=b→An (e=c.fst) (pa=c.snd) d f g h i j Ae k l;
 let Az(a:Wr × Hi):=a.fst.snd.snd;
 let AB(a:Wr × Hi):=(Af a).fst-1;
 let AC(a:Bool)(b:Int):=bif a then true else decide (b<0);
 let AD(a:Es):=SzR (List.length a);
 let AE(a:Wr × Hi):=za4 m va ((IntKind.i64.wrap (AB a)).toNat+1) (zch (Af a).snd);
 let AF(a:Es):=A0 a 0;
 let AG(a:Wr × Hi):=List.length (Az a).snd;
 let AH(a:Wr):=List.length a.snd.snd.snd;
 let AI(a b:Prop)(c d:Int)(e:Es)(f:Prop):=a∧A2 (U64 c3) (Ax b (TlR (Ac c d e)) va) f;
 let AJ(a:Prop)(b:Bool)(c d:Prop):=A2 a (b=true→c) (b=false→d);
 let AK(a b c:Prop):=Ar∧A4 (A3 m2 m2) (A3 m3 m3) a b c;
 let AL(a b:Int)(c:Es):=TlR (Aa a b c);
 let AM:=A3 m3 m3;
 let AN(a:Bool × Int × Int × Int):=zb4 (Aw a).snd (Aw a).fst (c0,c1,c2,c3) kind va;
 let AO(a:Prop):=True→Ax (Ab=Ab) (q0≠(2:(Cs.i IntKind.i64).T)→q0≠(3:(Cs.i IntKind.i64).T)→U64 q2) va∧a;
 let AP(a:Nat)(b c d:Prop)(e:Nat)(f g:Prop):=A2 (kind=kind∧A8 (va=va) (pick=pick) (A1 (↑a:Int)) (m=m) (m1=m1) (m2=m2) (m3=m3) (c0=c0) (c1=c1) (c2=c2) (c3=c3) A5 A5 A5 A5 (A9=A9) (Ad A5 A5 (A9=A9)
  A5 (A9=A9) A5 A5 (s1=s1) (w1=w1) A6 Ar (s2=s2) (w2=w2) A6 (A3 m2 m2) (s3=s3) (w3=w3) A6 (A3 (zaf va c3 pick (Aa s3 w3 m3) (List.take a rs)).snd.snd m3) (m1=m1) (m2=m2) ((zaf va c3 pick (Aa s3 w3 m3) (List.take a
  rs)).snd.snd=m3) (s1=s1) (w1=w1) A6 Ar b c d A6 (Ab=e) f)) (a≤Ab∧yeg (c0,c1,c2,c3) (Aa s1 w1 m1,Aa s2 w2 m2,Aa s3 w3 m3) va pick rs) g;
 let AQ(a:Int × Int):=A2 (A2 (kind=kind) (va=va) (A8 (pick=pick) (m=m) (m1=m1) (m2=m2) (m3=m3) (c0=c0) (c1=c1) (c2=c2) (c3=c3) A5 A5 A5 A5 (A9=A9) A5 A5 (Ad (A9=A9) A5 A5 A5 A5 (s1=s1) (w1=w1) A6 Ar (s2 =
  s2) (w2=w2) A6 (A3 m2 m2) (s3=s3) (w3=w3) A6 (A3 Ae Ae) (m1=m1) (m2=m2) (Ae=Ae) (s1=s1) (w1=w1) A6 Ar (q0=q0) (q1=q1) (q2=q2) A6 (Ab=Ab) (rs=rs) (a.fst=(zai (q0,q1,q2,rs) (c0,c1,c2,c3) kind va).fst)
  (a.snd=(zai (q0,q1,q2,rs) (c0,c1,c2,c3) kind va).snd)))) (Ai a.fst=true→(LvR q1∧Ax (U64 va) (U64 c3) q2)∧A2 (A2 Ar (TlR (Ac s1 w1 m1)) (EnR Al)) (Ay kind true a (t1=Am.fst) (u1=Am.snd.fst) (A0 n1 (List.length Aq))
  (t2=s2) (u2=w2) (A3 n2 m2) (n1=Aq) (n2=m2)) (Ay kind false a (t1=s1) (u1=w1) (Ah n1) (t2=Am.fst) (u2=Am.snd.fst) (A0 n2 (List.length Aq)) (n1=m1) (n2=Aq))) (Ay a.fst false a (t1=s1) (u1=w1) (Ah n1) (t2=s2) (u2 =
  w2) (A3 n2 m2) (n1=m1) (n2=m2));
 let AR:=(zb7 m c3 va).snd.snd;
 let AS:=A3 m2 m2;
 let AT(a:Int)(b:Bool)(c d e:Prop):=A2 (U64 a) ((!b)=true→An c d (t1=s1) (u1=w1) (Ah n1) (t2=s2) (u2=w2) (A3 n2 m2) m3 (n1=m1) (n2=m2)) ((!b)=false→e);
 let AU:=A9=A9;
 let AV:=zb7 m c3 va;
 let AW:=w1=w1;
 let AX:=m2=m2;
 let AY:=m1=m1;
 AJ (AK (AL s1 w1 m1) (AL s2 w2 m2) (AL s3 w3 m3)) (Ap (AC (Ap (AC (Ap (AC (!zbr (Aa s1 w1 m1,Aa s2 w2 m2,Aa s3 w3 m3)) kind) kind 2) c0) c0 2) pick) pick 255) (A4 (e=63) (A1 pa) (A1 t1) (A1 u1) (A8 A6
  (AF n1) (A1 t2) (A1 u2) A6 (AF n2) (A1 t3) (A1 u3) A6 (AF n3) (m=m) AY AX (m3=m3) (n1=[]) (n2=[]) (n3=[]))) (AK (AD m1) (AD m2) (AD m3)∧AT c3 (onM (c0,c1,c2,c3)) (A1 e) (pa=va) (AT va (zee va) (e=pfM kind) (A1 pa) (AI
  (Ai kind=true) Ar s1 w1 m1 (∃(x0:Bool × Int × Int × Int),AJ (A4 A6 (Ak=Ak) (kind=kind) (va=va) (A7 (pick=pick) (m=m) AY AX (m3=m3) (c0=c0) (c1=c1) (c2=c2) (A8 (c3=c3) (s1=s1) AW A6 Ar (s2=s2) (w2=w2) A6 AS
  (s3=s3) (w3=w3) A6 AM A5 A5 A5 (Au AU A5 A5 AU A5 A5 (s1=s1) AW A6 Ar (s2=s2) (w2=w2) A6 AS (s3=s3) w3 A6 AM AY AX (m3=m3) (s1=s1) AW A6 Ar x0.fst (Ao (Ac s1 w1 m1)) x0.snd s1 w1 m1 (Aw x0))))) x0.fst ((U64 (Aw x0).snd
  ∧ U64 va)∧An (e=(AN x0).fst) (pa=(AN x0).snd) (t1=s1) (u1=w1) (Ah n1) (t2=s2) (u2=w2) (A3 n2 m2) m3 (n1=m1) (n2=m2)) (AI (Ak=Ak∧Ax (zaz m) (U64 c3) va) AM s3 w3 m3 (∃(x1:Wr × Hi),A2 (A2 A6 (Ak=Ak) (A4 (kind
  = kind) (va=va) (pick=pick) (m=m) (A8 AY AX (m3=m3) (c0=c0) (c1=c1) (c2=c2) (c3=c3) A5 A5 A5 A5 AU A5 A5 AU A5 (Au (s1=s1) AW A6 Ar (s2=s2) (w2=w2) A6 AS (s3=s3) (w3=w3) A6 AM AY AX (m3=m3) s1 AW A6 Ar
  (x1.fst.fst=AV.fst) (x1.fst.snd.fst=AV.snd.fst) ((Az x1).fst=AR.fst) A6 (AG x1=AH AV) ((Az x1).snd=AR.snd) x1.snd.fst (Ao (Ac s3 w3 m3)) x1.snd.snd s3 w3 m3 (Af x1))))) (x1.snd.fst=true→A2 (U64 (Af x1).snd) (Ak=Ak
  ∧ zfi m (zch (Af x1).snd) (IntKind.i64.wrap (AB x1)) va) (∃(x2:Nat),AP x2 (q0=(AE x1).fst) (q1=(AE x1).snd.fst) (q2=(AE x1).snd.snd.fst) (AH (AE x1)) (rs=(AE x1).snd.snd.snd) (∀(x3:Unit),AO (∃(x4:Int × Int),
  AQ x4)))) (x1.snd.fst=false→∃(x5:Nat),AP x5 (q0=x1.fst.fst) (q1=x1.fst.snd.fst) (q2=(Az x1).fst) (AG x1) (rs=(Az x1).snd) (∀(x3:Unit),AO (∃(x4:Int × Int),AQ x4)))))))))):=by kernel_rfl
theorem zzb(m:By)(c0:Int)(c1 c2:Bool)(c3:Int)(s1 w1:Int)(m1:Es)(s2 w2:Int)(m2:Es)(s3 w3:Int)(m3:Es)(kind va pick:Int)(q0 q1 q2:Int)(rs:Rs)(i:Nat):yqa m c0 c1 c2 c3 s1 w1 m1 s2 w2 m2 s3 w3 m3 kind va pick q0 q1 q2 rs i=(
 let A0:=(0:Nat)+(↑i:Int).toNat;
 let A1:=List.getD rs A0 (El.zero shR);
 let A2:=List.length rs;
 let A3(a b c:Prop):=a∧b∧c;
 let A4:=(0:Int)=0;
 let A5(a b c d e:Prop):=A3 a b (A3 c d e);
 let A6(a b:Es):=List.length a=List.length b;
 let A7:=zbk A1.fst va c3 A1.snd.snd;
 let A8:=(0:Nat)=0;
 let A9:=Value.slice none 0 0;
 let Aa(a b:Int)(c:Es):=(a,b,c);
 let Ab:=(↑i:Int);
 let Ac(a b c d e f g h i j k l m n o p q:Prop):=A5 a b c d (A5 e f g h (A5 i j k l (A5 m n o p q)));
 let Ad:=(↑A2:Int);
 let Ae(a:Nat):=(zaf va c3 pick (Aa s3 w3 m3) (List.take a rs)).snd.snd;
 let Af:=A7.snd.snd.snd.snd;
 let Ah:=(s3,w3,Ae i);
 let Ai:=(A7.fst,A7.snd.fst,A7.snd.snd.fst,A7.snd.snd.snd.fst,Af.fst,Af.snd);
 let Aj(a:Bool)(b:Prop):=decide (Ab<Ad)=a→b;
 let Ak(a:Nat)(b:Prop):=(kind=kind∧Ac (va=va) (pick=pick) ((↑a:Int)=IntKind.i64.wrap (Ab+1)) (m=m) (m1=m1) (m2=m2) (m3=m3) (c0=c0) (c1=c1) (c2=c2) (c3=c3) A4 A4 A4 A4 (A9=A9) b)∧A3 (a≤A2 ∧
  yeg (c0,c1,c2,c3) (Aa s1 w1 m1,Aa s2 w2 m2,Aa s3 w3 m3) va pick rs) (A2-a<A2-i) (∀(x1:Unit),True→True);
 let Al(a b c:Prop):=A3 ((0:Int)≤Ab∧Ab<Ad) (A0<A2) (A5 ((0:Int)≤Ab∧Ab<Ad) (A0<A2) a b c);
 let Am(a:Es):=Ac A4 A4 (A9=A9) A4 A4 (A9=A9) A4 A4 (s1=s1) (w1=w1) A8 (A6 m1 m1) (s2=s2) (w2=w2) A8 (A6 m2 m2) (Ac (s3=s3) (w3=w3) A8 (A6 a (Ae i)) (m1=m1) (m2=m2) (a=Ae i) (s2=s2) (w2=w2) A8 (A6 m2 m2) (q0 =
  q0) (q1=q1) (q2=q2) A8 (A2=A2) (rs=rs));
 let An:=zbe Ah Ai pick;
 let Ao:=U64 A1.snd.snd;
 let Ap(a:Bool)(b:Prop):=(za2 A1.snd.snd A1.fst==1)=a→b;
 let Aq:=(zbe Ah Ai pick).snd.snd;
 Aj true (Al Ao (Ap true (Al (LvR A1.fst∧A3 (U64 va) (U64 c3) Ao) (A3 (A6 (Ae i) (Ae i)) (TlR Ah) (EnR Ai)) (∃(x0:Nat),Ak x0 (Ac A4 A4 (A9=A9) A4 A4 (A9=A9) A4 A4 (s1=s1) (w1=w1) A8 (A6 m1 m1) (s2=s2) (w2=w2) A8 (A6 m2
  m2) (Ac (s3=An.fst) (w3=An.snd.fst) A8 (List.length (Ae x0)=List.length Aq) (m1=m1) (m2=m2) (Ae x0=Aq) (s2=s2) (w2=w2) A8 (A6 m2 m2) (q0=q0) (q1=q1) (q2=q2) A8 (A2=A2) (rs=rs)))))) (Ap false (∃(x2:Nat),Ak
  x2 (Am (Ae x2)))))∧Aj false (∃(x3:Unit),Ac (kind=kind) (va=va) (pick=pick) (m=m) (m1=m1) (m2=m2) (m3=m3) (c0=c0) (c1=c1) (c2=c2) (c3=c3) A4 A4 A4 A4 (A9=A9) (Am (zaf va c3 pick (Aa s3 w3 m3) rs).snd.snd)
  ∧ True)):=by kernel_rfl
theorem ylf(m:By)(c0:Int)(c1 c2:Bool)(c3:Int)(s1 w1:Int)(m1:Es)(s2 w2:Int)(m2:Es)(s3 w3:Int)(m3:Es)(kind va pick:Int)(q0 q1 q2:Int)(rs:Rs)(e pa:Int)(t1 u1:Int)(n1:Es)(t2 u2:Int)(n2:Es)(t3 u3:Int)(n3:Es):ys3 m c0 c1 c2 c3 s1 w1 m1 s2 w2 m2 s3 w3 m3 kind va pick q0 q1 q2 rs e pa t1 u1 n1 t2 u2 n2 t3 u3 n3=(
 let A0(a:Es)(b:Nat):=List.length a=b;
 let A1(a:Int):=a=0;
 let A2(a b c:Prop):=a∧b∧c;
 let A3(a b:Es):=A0 a (List.length b);
 let A4(a b c d e:Prop):=A2 a b (A2 c d e);
 let A5:=A1 0;
 let A6:=(0:Nat)=0;
 let A7(a b c d e f g h i:Prop):=A4 a b c d (A4 e f g h i);
 let A8(a b c d e f g h i j k l m n o p q:Prop):=A7 a b c d e f g h (A7 i j k l m n o p q);
 let A9:=Value.slice none 0 0;
 let Aa(a b:Int)(c:Es):=(a,b,c);
 let Ab:=List.length rs;
 let Ac(a b:Int)(c:Es):=(a,b,c);
 let Ad(a b c d e f g h i j k l m n o p q r s t u v w x y z B C D E F G:Prop):=A8 a b c a d e f g h i j k l m n o (A8 p q r s t u v w x y z B C D E F G);
 let Ae:=(zaf va c3 pick (Aa s3 w3 m3) rs).snd.snd;
 let Af(a:Wr × Hi):=a.snd.snd.snd;
 let Ah(a:Es):=A3 a m2;
 let Ai(a:Int):=a==0;
 let Aj:=(zbk q1 va c3 q2).snd.snd.snd.snd;
 let Ak:=List.length m;
 let Al:=((zbk q1 va c3 q2).fst,(zbk q1 va c3 q2).snd.fst,(zbk q1 va c3 q2).snd.snd.fst,(zbk q1 va c3 q2).snd.snd.snd.fst,Aj.fst,Aj.snd);
 let Am:=zbe (Ac s2 w2 m2) Al pick;
 let An(a b c d e f g h:Prop)(i:Es)(j k:Prop):=A4 a b c d (A8 A6 e f g A6 h (t3=s3) (u3=w3) A6 (A3 n3 i) (m=m) (m1=m1) (m2=m2) (m3=m3) j k (n3=i));
 let Ao(a:(Cs.i IntKind.i64).T × CsT [Cs.i IntKind.i64,Cs.sl shE]):=zhs a va (za7 c3);
 let Ap(a:Bool)(b c:Int):=bif a then true else decide (b>c);
 let Aq:=Am.snd.snd;
 let Ar:=Ah m2;
 let Au(a b c d e f g h i j k l m n o:Prop)(p:Int)(q r s t u v w x y:Prop)(z:Bool)(B:Hi)(C:Int × Int × Int)(D E:Int)(F:Es)(G:Int × Int):=Ad A5 (A9=A9) A5 a b c d e f g h i j k l m n o (p=p) q r s t u v w x y
  (z=B.fst) (C.fst=(Ao (Ac D E F)).snd.fst) (G.fst=(Ao (Ac D E F)).snd.snd.fst) (G.snd=(Ao (Ac D E F)).snd.snd.snd);
 let Aw(a:Bool × Int × Int × Int):=a.snd.snd;
 let Ax(a b:Prop)(c:Int):=A2 a b (U64 c);
 let Ay(a:Int)(b:Bool)(c:Int × Int)(d f g h i j k l:Prop):=Ai a=b→An (e=c.fst) (pa=c.snd) d f g h i j Ae k l;
 let Az(a:Wr × Hi):=a.fst.snd.snd;
 let AB(a:Wr × Hi):=(Af a).fst-1;
 let AC(a:Bool)(b:Int):=bif a then true else decide (b<0);
 let AD(a:Es):=SzR (List.length a);
 let AE(a:Wr × Hi):=za4 m va ((IntKind.i64.wrap (AB a)).toNat+1) (zch (Af a).snd);
 let AF(a:Es):=A0 a 0;
 let AG(a:Wr × Hi):=List.length (Az a).snd;
 let AH(a:Wr):=List.length a.snd.snd.snd;
 let AI:=A3 m1 m1;
 let AJ(a b c:Prop):=AI∧A4 Ar (A3 m3 m3) a b c;
 let AK(a b:Prop)(c d:Int)(e:Es)(f:Prop):=a∧A2 (U64 c3) (Ax b (TlR (Ac c d e)) va) f;
 let AL(a b:Int)(c:Es):=TlR (Aa a b c);
 let AM:=A3 m3 m3;
 let AN(a:Bool × Int × Int × Int):=zb4 (Aw a).snd (Aw a).fst (c0,c1,c2,c3) kind va;
 let AO(a:Prop):=True→Ax (Ab=Ab) (q0≠(2:(Cs.i IntKind.i64).T)→q0≠(3:(Cs.i IntKind.i64).T)→U64 q2) va∧a;
 let AP(a:Nat)(b c d:Prop)(e:Nat)(f g:Prop):=A2 (kind=kind∧A8 (va=va) (pick=pick) (A1 (↑a:Int)) (m=m) (m1=m1) (m2=m2) (m3=m3) (c0=c0) (c1=c1) (c2=c2) (c3=c3) A5 A5 A5 A5 (A9=A9) (Ad A5 A5 (A9=A9)
  A5 (A9=A9) A5 A5 (s1=s1) (w1=w1) A6 (A3 m1 m1) (s2=s2) (w2=w2) A6 Ar (s3=s3) (w3=w3) A6 (A3 (zaf va c3 pick (Aa s3 w3 m3) (List.take a rs)).snd.snd m3) (m1=m1) (m2=m2) ((zaf va c3 pick (Aa s3 w3 m3) (List.take a
  rs)).snd.snd=m3) (s2=s2) (w2=w2) A6 Ar b c d A6 (Ab=e) f)) (a≤Ab∧yeg (c0,c1,c2,c3) (Aa s1 w1 m1,Aa s2 w2 m2,Aa s3 w3 m3) va pick rs) g;
 let AQ:=Ap (AC (Ap (AC (Ap (AC (!zbr (Aa s1 w1 m1,Aa s2 w2 m2,Aa s3 w3 m3)) kind) kind 2) c0) c0 2) pick) pick 255;
 let AR(a:Int × Int):=A2 (A2 (kind=kind) (va=va) (A8 (pick=pick) (m=m) (m1=m1) (m2=m2) (m3=m3) (c0=c0) (c1=c1) (c2=c2) (c3=c3) A5 A5 A5 A5 (A9=A9) A5 A5 (Ad (A9=A9) A5 A5 A5 A5 (s1=s1) (w1=w1) A6 (A3 m1 m1)
  (s2=s2) (w2=w2) A6 Ar (s3=s3) (w3=w3) A6 (A3 Ae Ae) (m1=m1) (m2=m2) (Ae=Ae) (s2=s2) (w2=w2) A6 Ar (q0=q0) (q1=q1) (q2=q2) A6 (Ab=Ab) (rs=rs) (a.fst=(zai (q0,q1,q2,rs) (c0,c1,c2,c3) kind va).fst)
  (a.snd=(zai (q0,q1,q2,rs) (c0,c1,c2,c3) kind va).snd)))) (Ai a.fst=true→(LvR q1∧Ax (U64 va) (U64 c3) q2)∧A2 (A2 Ar (TlR (Ac s2 w2 m2)) (EnR Al)) (Ay kind true a (t1=Am.fst) (u1=Am.snd.fst) (A0 n1 (List.length Aq))
  (t2=s2) (u2=w2) (Ah n2) (n1=Aq) (n2=m2)) (Ay kind false a (t1=s1) (u1=w1) (A3 n1 m1) (t2=Am.fst) (u2=Am.snd.fst) (A0 n2 (List.length Aq)) (n1=m1) (n2=Aq))) (Ay a.fst false a (t1=s1) (u1=w1) (A3 n1 m1) (t2=s2) (u2 =
  w2) (Ah n2) (n1=m1) (n2=m2));
 let AS:=(zb7 m c3 va).snd.snd;
 let AT(a:Int)(b:Bool)(c d e:Prop):=A2 (U64 a) ((!b)=true→An c d (t1=s1) (u1=w1) (A3 n1 m1) (t2=s2) (u2=w2) (Ah n2) m3 (n1=m1) (n2=m2)) ((!b)=false→e);
 let AU:=A9=A9;
 let AV:=zb7 m c3 va;
 let AW:=w2=w2;
 let AX:=m2=m2;
 let AY:=m1=m1;
 A2 (AJ (AL s1 w1 m1) (AL s2 w2 m2) (AL s3 w3 m3)) (AQ=true→A4 (e=63) (A1 pa) (A1 t1) (A1 u1) (A8 A6 (AF n1) (A1 t2) (A1 u2) A6 (AF n2) (A1 t3) (A1 u3) A6 (AF n3) (m=m) AY AX (m3=m3) (n1=[]) (n2=[]) (n3=[]))) (AQ =
  false→AJ (AD m1) (AD m2) (AD m3)∧AT c3 (onM (c0,c1,c2,c3)) (A1 e) (pa=va) (AT va (zee va) (e=pfM kind) (A1 pa) (AK (Ai kind=false) Ar s2 w2 m2 (∃(x0:Bool × Int × Int × Int),A2 (A4 A6 (Ak=Ak) (kind=kind) (va=va) (A7
  (pick=pick) (m=m) AY AX (m3=m3) (c0=c0) (c1=c1) (c2=c2) (A8 (c3=c3) (s1=s1) (w1=w1) A6 AI (s2=s2) AW A6 Ar (s3=s3) (w3=w3) A6 AM A5 A5 A5 (Au AU A5 A5 AU A5 A5 (s1=s1) (w1=w1) A6 AI (s2=s2) AW A6 Ar (s3=s3)
  w3 A6 AM AY AX (m3=m3) (s2=s2) AW A6 Ar x0.fst (Ao (Ac s2 w2 m2)) x0.snd s2 w2 m2 (Aw x0))))) (x0.fst=true→(U64 (Aw x0).snd∧U64 va)∧An (e=(AN x0).fst) (pa=(AN x0).snd) (t1=s1) (u1=w1) (A3 n1 m1) (t2=s2) (u2 =
  w2) (Ah n2) m3 (n1=m1) (n2=m2)) (x0.fst=false→AK (Ak=Ak∧Ax (zaz m) (U64 c3) va) AM s3 w3 m3 (∃(x1:Wr × Hi),A2 (A2 A6 (Ak=Ak) (A4 (kind=kind) (va=va) (pick=pick) (m=m) (A8 AY AX (m3=m3) (c0=c0) (c1=c1) (c2
  = c2) (c3=c3) A5 A5 A5 A5 AU A5 A5 AU A5 (Au (s1=s1) (w1=w1) A6 AI (s2=s2) AW A6 Ar (s3=s3) (w3=w3) A6 AM AY AX (m3=m3) s2 AW A6 Ar (x1.fst.fst=AV.fst) (x1.fst.snd.fst=AV.snd.fst) ((Az x1).fst=AS.fst) A6 (AG x1=AH
  AV) ((Az x1).snd=AS.snd) x1.snd.fst (Ao (Ac s3 w3 m3)) x1.snd.snd s3 w3 m3 (Af x1))))) (x1.snd.fst=true→A2 (U64 (Af x1).snd) (Ak=Ak∧zfi m (zch (Af x1).snd) (IntKind.i64.wrap (AB x1)) va) (∃(x2:Nat),AP x2 (q0=(AE
  x1).fst) (q1=(AE x1).snd.fst) (q2=(AE x1).snd.snd.fst) (AH (AE x1)) (rs=(AE x1).snd.snd.snd) (∀(x3:Unit),AO (∃(x4:Int × Int),AR x4)))) (x1.snd.fst=false→∃(x5:Nat),AP x5 (q0=x1.fst.fst) (q1 =
  x1.fst.snd.fst) (q2=(Az x1).fst) (AG x1) (rs=(Az x1).snd) (∀(x3:Unit),AO (∃(x4:Int × Int),AR x4)))))))))):=by kernel_rfl
set_option linter.unusedSimpArgs false
theorem zz9{α:Type}(m:List α)(k i:Nat)(e d:α):(m.set k e).getD i d=if i=k∧k<m.length then e else m.getD i d:=by
 simp only[List.getD_eq_getElem?_getD,List.getElem?_set]
 split
 · rename_i h
   subst h
   split
   · rename_i h2;simp[h2]
   · rename_i h2
     rw[if_neg (fun h=>h2 h.2),List.getElem?_eq_none (by omega)]
 · rename_i h
   rw[if_neg (fun h'=>h h'.1.symm)]
theorem zfa{ptr:Bool}{l va satp p:Int}(hl:LvR l)(hk:za2 p l=zvt ptr):zb2 ptr (zbk l va satp p)=true:=by
 obtain⟨a0,a1⟩:=yfj satp
 have ht:zjo va l<2 ^ (9-3*l).toNat:=by
  unfold zjo
  have h0:0≤va % 32768:=Int.emod_nonneg _ (by decide)
  have h1:va % 32768<32768:=Int.emod_lt_of_pos _ (by decide)
  rcases zcc hl with rfl|rfl|rfl
  · rw[show ((2:Int) ^ (6+3*0:Int).toNat)=64 by decide,show ((2:Int) ^ (9-3*0:Int).toNat)=512 by decide];omega
  · rw[show ((2:Int) ^ (6+3*1:Int).toNat)=512 by decide,show ((2:Int) ^ (9-3*1:Int).toNat)=64 by decide];omega
  · rw[show ((2:Int) ^ (6+3*2:Int).toNat)=4096 by decide,show ((2:Int) ^ (9-3*2:Int).toNat)=8 by decide];omega
 simp only[zb2,zbk,Bool.and_eq_true,decide_eq_true_eq,beq_iff_eq]
 exact⟨⟨⟨⟨⟨trivial,zed.2 hl⟩,decide_eq_true ht⟩,decide_eq_true (by omega)⟩,trivial⟩,hk⟩
theorem ztz{ptr:Bool}{t:Tl}{e:En}{pick:Int}(hv:zaj ptr t=true)(he:zb2 ptr e=true)(h0:0≤e.2.2.1)(p0:0≤pick):zaj ptr (zec t e pick)=true:=by
 obtain⟨s,w,m⟩:=t
 have hd:=zbv hv
 obtain⟨hs,w1,w4,hl⟩:=zgz hd
 have hc:=zqg he
 obtain⟨f0,f1⟩:=zl8 (s:=s) (w:=w) (by omega) w1 h0 hc
 obtain⟨y0,y1⟩:=ys8 (m:=m) (s:=s) (w:=w) (c:=e.2.2.1) (p:=pick) w1 p0
 simp only[zaj,Bool.and_eq_true] at hv
 simp only[zaj,zec,Bool.and_eq_true]
 refine⟨by rw[ziv (zbx ..)];exact hd,zcf.2 (fun i hi => ?_)⟩
 rw[zbx] at hi
 have hold:=zcf.1 hv.2 i hi
 unfold zhr
 rw[zz9]
 split
 · rename_i hik
   simp only[zlb,Bool.or_eq_true,Bool.and_eq_true,beq_iff_eq]
   refine .inr ⟨he, ?_⟩
   have hi2:(i:Int)=zca s w e.2.2.1+zvy m s w e.2.2.1 pick:=by omega
   have hw0:0≤(i:Int):=by omega
   rw[zq8 h0 hc,zd1 h0,zjh hw0,hi2]
   unfold zca
   rw[zq8 h0 hc,zd1 h0,Int.add_comm,Int.add_mul_ediv_right _ _ (by omega),Int.ediv_eq_zero_of_lt y0 y1,Int.zero_add]
 · exact hold
theorem yey{t:Tl}{e:En}{pick:Int}(h:TlR t)(he:EnR e):TlR (zec t e pick):=by
 obtain⟨a,b,c,d⟩:=h
 refine⟨a,b, ?_,fun x hx => ?_⟩
 · show SzR (zhr ..).length
   rw[zbx];exact c
 · rcases List.mem_or_eq_of_mem_set hx with g|g
   · exact d x g
   · rw[g];exact he
theorem zeo{ptr:Bool}{t:Tl}{e:En}{pick:Int}(hv:zaj ptr t=true)(he:zb2 ptr e=true)(p0:0≤pick)(p1:pick≤255):zbe t e pick=zec t e pick:=by
 have h:zhb t e pick=true:=by
  simp only[zhb,Bool.and_eq_true,Bool.or_eq_true,decide_eq_true_eq]
  refine⟨⟨p0,p1⟩, ?_⟩
  cases ptr
  · exact .inl ⟨hv,he⟩
  · exact .inr ⟨hv,he⟩
 unfold zbe zec
 rw[if_pos h]
theorem zes{m:By}{va:Int}(hm:zaz m):∀(n:Nat)(p:Int),∀r ∈ (za4 m va n p).2.2.2,0≤r.1∧r.1<n∧U64 r.2.2
 | 0,_,r,h=>by cases h
 | n+1,p,r,h=>by
  have hr:=ztm (a:=64*p+8*zeh va n) hm
  unfold za4 at h
  split at h
  · cases h
  · split at h
    · cases h
    · split at h
      · simp only[List.mem_singleton] at h
        subst h
        exact⟨by show (0:Int)≤(n:Int);omega,by show (n:Int)<((n+1:Nat):Int);omega,hr⟩
      · rcases List.mem_cons.1 h with g|g
        · subst g
          exact⟨by show (0:Int)≤(n:Int);omega,by show (n:Int)<((n+1:Nat):Int);omega,hr⟩
        · obtain⟨a,b,c⟩:=zes hm n _ r g
          exact⟨a,by omega,c⟩
theorem yfy{l va satp p:Int}(hl:LvR l):0≤(zbk l va satp p).2.2.1:=(yi9 hl).1
theorem yb3{va satp pick:Int}{t:Tl}{r:Rc}(p0:0≤pick)(hv:zaj true t=true)(ht:TlR t)(hr:LvR r.1∧U64 r.2.2):zaj true (zc6 va satp pick t r)=true∧TlR (zc6 va satp pick t r):=by
 unfold zc6
 split
 · rename_i hk
   exact⟨ztz hv (zfa hr.1 hk) (yfy hr.1) p0,yey ht (zir hr.1 hr.2)⟩
 · exact⟨hv,ht⟩
theorem zfb{va satp pick:Int}(p0:0≤pick):∀(rs:Rs)(t:Tl),zaj true t=true→TlR t→(∀r ∈ rs,LvR r.1∧U64 r.2.2)→zaj true (zaf va satp pick t rs)=true∧TlR (zaf va satp pick t rs)
 | [],_,hv,ht,_=>⟨hv,ht⟩
 | r::rs,t,hv,ht,hr=>by
  obtain⟨a,b⟩:=yb3 (va:=va) (satp:=satp) p0 hv ht (hr r List.mem_cons_self)
  exact zfb p0 rs _ a b (fun x hx=>hr x (List.mem_cons_of_mem _ hx))
theorem zha{α:Type}{m:List α}{i:Nat}(h:i<m.length)(d:α):m.take (i+1)=m.take i++[m.getD i d]:=by
 rw[List.take_add_one,List.getElem?_eq_getElem h,List.getD_eq_getElem?_getD,List.getElem?_eq_getElem h]
 rfl
theorem yzo:zar Tryz.prog kZ0:=(((((yzi.append kH_ok).append zs1).append yah).append zmj).append yhb).append ynn
theorem yyc:DictOk Tryz.prog FZ0:=zaw yzo .nil .nil
theorem zmb(c:Ct)(k:Cch)(kind pick:Int):(bif bif bif bif bif bif !zbr k then true else decide (kind<0) then true else decide (kind>2) then true else decide (c.1<0) then true else decide (c.1>2) then true else decide (pick<0) then true else decide (pick>255)) = !okT c k kind pick:=by
 have f:∀x y:Int,decide (x≤y) = !decide (x>y):=fun x y=>by
  by_cases h:x>y
  · have:¬ x≤y:=by omega
    simp[h,this]
  · have:x≤y:=by omega
    simp[h,this]
 have g:∀x y:Int,decide (x≤y) = !decide (y<x):=f
 unfold okT zlt
 rw[g 0 kind,f kind 2,g 0 c.1,f c.1 2,g 0 pick,f pick 255]
 cases zbr k<;>cases decide (kind<0)<;>cases decide (kind>2)<;>cases decide (c.1<0)<;>cases decide (c.1>2)<;>cases decide (pick<0)<;>cases decide (pick>255)<;>rfl
theorem ztw(m:By)(c0:Int)(c1 c2:Bool)(c3:Int)(s1 w1:Int)(m1:Es)(s2 w2:Int)(m2:Es)(s3 w3:Int)(m3:Es)(kind va pick:Int)(q0 q1 q2:Int)(rs:Rs){i:Nat}(h:i≤rs.length∧yeg (c0,c1,c2,c3) ((s1,w1,m1),(s2,w2,m2),(s3,w3,m3)) va pick rs):zao Tryz.prog FZ0 (spX true m (c0,c1,c2,c3) ((s1,w1,m1),(s2,w2,m2),(s3,w3,m3)) kind va pick (q0,q1,q2,rs)) 4 (zak Tryz.f38 0) (spL true m (c0,c1,c2,c3) ((s1,w1,m1),(s2,w2,m2),(s3,w3,m3)) kind va pick (q0,q1,q2,rs)) (fun i:Nat=>rs.length-i) i:=by
 obtain⟨hi,hs,hv,p0,p1,hP,hT,hlen,hrs⟩:=h
 have hs:U64 c3:=hs
 obtain⟨k1,k2,k3⟩:=zbp va c3 pick (rs.take i) (s3,w3,m3)
 have ks:=zf8 va c3 pick (s3,w3,m3) (rs.take i)
 obtain⟨g1,g2⟩:=zfb (va:=va) (satp:=c3) p0 (rs.take i) (s3,w3,m3) hP hT (fun r hr=>hrs r (List.mem_of_mem_take hr))
 simp only at k1 k2 k3 ks
 refine zae (zzc m c0 c1 c2 c3 s1 w1 m1 s2 w2 m2 s3 w3 m3 kind va pick q0 q1 q2 rs i) ?_
 conv=>zeta
 refine⟨fun q => ?_,fun q => ?_⟩
 · have q:(i:Int)<rs.length:=of_decide_eq_true q
   have hlt:i<rs.length:=by omega
   have e0:0+(i:Int).toNat=i:=by omega
   have e1:IntKind.i64.wrap ((i:Int)+1)=((i+1:Nat):Int):=by rw[zac (by omega) (by omega)];omega
   have hR:=hrs (rs.getD i (El.zero shR)) (by rw[List.getD_eq_getElem?_getD,List.getElem?_eq_getElem hlt];exact List.getElem_mem hlt)
   have enx:zaf va c3 pick (s3,w3,m3) (rs.take (i+1))=zc6 va c3 pick (zaf va c3 pick (s3,w3,m3) (rs.take i)) (rs.getD i (El.zero shR)):=by rw[zha hlt (El.zero shR),zfc]
   rw[e0,e1]
   obtain⟨j1,j2, -⟩:=zbp va c3 pick (rs.take (i+1)) (s3,w3,m3)
   simp only at j1 j2
   generalize rs.getD i (El.zero shR)=R at *
   obtain⟨r0,r1,r2⟩:Rc:=R
   obtain⟨hl,hu⟩:LvR r0∧U64 r2:=hR
   refine⟨⟨by omega,by omega⟩,hlt,⟨by omega,by omega⟩,hlt,hu,fun a=>⟨⟨by omega,by omega⟩,hlt,⟨by omega,by omega⟩,hlt,⟨hl,hv,hs,hu⟩,⟨rfl,by rw[ks];exact g2,zir hl hu⟩,i+1, ?_,⟨by omega,hs,hv,p0,p1,hP,hT,hlen,hrs⟩,by omega,fun _ _=>trivial⟩,fun a=>⟨i+1, ?_,⟨by omega,hs,hv,p0,p1,hP,hT,hlen,hrs⟩,by omega,fun _ _=>trivial⟩⟩
   · have a:za2 r2 r0=1:=by simpa using a
     have e:zbe (s3,w3,(zaf va c3 pick (s3,w3,m3) (rs.take i)).2.2) ((zbk r0 va c3 r2).1,(zbk r0 va c3 r2).2.1,(zbk r0 va c3 r2).2.2.1,(zbk r0 va c3 r2).2.2.2.1,(zbk r0 va c3 r2).2.2.2.2.1,(zbk r0 va c3 r2).2.2.2.2.2) pick=zaf va c3 pick (s3,w3,m3) (rs.take (i+1)):=by
      show zbe _ (zbk r0 va c3 r2) pick=_
      rw[enx,ks,zeo g1 (zfa hl a) p0 p1]
      unfold zc6
      rw[if_pos a]
     simp only[e]
     simp[j1,j2]
   · have a:¬ za2 r2 r0=1:=by simpa using a
     have e:zaf va c3 pick (s3,w3,m3) (rs.take (i+1))=zaf va c3 pick (s3,w3,m3) (rs.take i):=by
      rw[enx]
      unfold zc6
      rw[if_neg a]
     simp only[e]
     simp
 · have q:¬ (i:Int)<rs.length:=of_decide_eq_false q
   have:i=rs.length:=by omega
   subst this
   rw[List.take_length]
   exact⟨(),by simp,trivial⟩
theorem yi3(m:By)(c0:Int)(c1 c2:Bool)(c3:Int)(s1 w1:Int)(m1:Es)(s2 w2:Int)(m2:Es)(s3 w3:Int)(m3:Es)(kind va pick:Int)(q0 q1 q2:Int)(rs:Rs){i:Nat}(h:i≤rs.length∧yeg (c0,c1,c2,c3) ((s1,w1,m1),(s2,w2,m2),(s3,w3,m3)) va pick rs):zao Tryz.prog FZ0 (spX false m (c0,c1,c2,c3) ((s1,w1,m1),(s2,w2,m2),(s3,w3,m3)) kind va pick (q0,q1,q2,rs)) 4 (zak Tryz.f38 0) (spL false m (c0,c1,c2,c3) ((s1,w1,m1),(s2,w2,m2),(s3,w3,m3)) kind va pick (q0,q1,q2,rs)) (fun i:Nat=>rs.length-i) i:=by
 obtain⟨hi,hs,hv,p0,p1,hP,hT,hlen,hrs⟩:=h
 have hs:U64 c3:=hs
 obtain⟨k1,k2,k3⟩:=zbp va c3 pick (rs.take i) (s3,w3,m3)
 have ks:=zf8 va c3 pick (s3,w3,m3) (rs.take i)
 obtain⟨g1,g2⟩:=zfb (va:=va) (satp:=c3) p0 (rs.take i) (s3,w3,m3) hP hT (fun r hr=>hrs r (List.mem_of_mem_take hr))
 simp only at k1 k2 k3 ks
 refine zae (zzb m c0 c1 c2 c3 s1 w1 m1 s2 w2 m2 s3 w3 m3 kind va pick q0 q1 q2 rs i) ?_
 conv=>zeta
 refine⟨fun q => ?_,fun q => ?_⟩
 · have q:(i:Int)<rs.length:=of_decide_eq_true q
   have hlt:i<rs.length:=by omega
   have e0:0+(i:Int).toNat=i:=by omega
   have e1:IntKind.i64.wrap ((i:Int)+1)=((i+1:Nat):Int):=by rw[zac (by omega) (by omega)];omega
   have hR:=hrs (rs.getD i (El.zero shR)) (by rw[List.getD_eq_getElem?_getD,List.getElem?_eq_getElem hlt];exact List.getElem_mem hlt)
   have enx:zaf va c3 pick (s3,w3,m3) (rs.take (i+1))=zc6 va c3 pick (zaf va c3 pick (s3,w3,m3) (rs.take i)) (rs.getD i (El.zero shR)):=by rw[zha hlt (El.zero shR),zfc]
   rw[e0,e1]
   obtain⟨j1,j2, -⟩:=zbp va c3 pick (rs.take (i+1)) (s3,w3,m3)
   simp only at j1 j2
   generalize rs.getD i (El.zero shR)=R at *
   obtain⟨r0,r1,r2⟩:Rc:=R
   obtain⟨hl,hu⟩:LvR r0∧U64 r2:=hR
   refine⟨⟨by omega,by omega⟩,hlt,⟨by omega,by omega⟩,hlt,hu,fun a=>⟨⟨by omega,by omega⟩,hlt,⟨by omega,by omega⟩,hlt,⟨hl,hv,hs,hu⟩,⟨rfl,by rw[ks];exact g2,zir hl hu⟩,i+1, ?_,⟨by omega,hs,hv,p0,p1,hP,hT,hlen,hrs⟩,by omega,fun _ _=>trivial⟩,fun a=>⟨i+1, ?_,⟨by omega,hs,hv,p0,p1,hP,hT,hlen,hrs⟩,by omega,fun _ _=>trivial⟩⟩
   · have a:za2 r2 r0=1:=by simpa using a
     have e:zbe (s3,w3,(zaf va c3 pick (s3,w3,m3) (rs.take i)).2.2) ((zbk r0 va c3 r2).1,(zbk r0 va c3 r2).2.1,(zbk r0 va c3 r2).2.2.1,(zbk r0 va c3 r2).2.2.2.1,(zbk r0 va c3 r2).2.2.2.2.1,(zbk r0 va c3 r2).2.2.2.2.2) pick=zaf va c3 pick (s3,w3,m3) (rs.take (i+1)):=by
      show zbe _ (zbk r0 va c3 r2) pick=_
      rw[enx,ks,zeo g1 (zfa hl a) p0 p1]
      unfold zc6
      rw[if_pos a]
     simp only[e]
     simp[j1,j2]
   · have a:¬ za2 r2 r0=1:=by simpa using a
     have e:zaf va c3 pick (s3,w3,m3) (rs.take (i+1))=zaf va c3 pick (s3,w3,m3) (rs.take i):=by
      rw[enx]
      unfold zc6
      rw[if_neg a]
     simp only[e]
     simp
 · have q:¬ (i:Int)<rs.length:=of_decide_eq_false q
   have:i=rs.length:=by omega
   subst this
   rw[List.take_length]
   exact⟨(),by simp,trivial⟩
theorem zer{m:By}{va:Int}:∀(n:Nat)(p:Int),(za4 m va n p).1=1→za2 (za4 m va n p).2.2.1 (za4 m va n p).2.1=2
 | 0,_,h=>by cases h
 | n+1,p,h=>by
  unfold za4 at h ⊢
  split at h
  · cases h
  · rename_i c1
    rw[if_neg c1]
    split at h
    · cases h
    · rename_i c2
      rw[if_neg c2]
      split at h
      · rename_i c3
        rw[if_pos c3]
        exact c3
      · rename_i c3
        rw[if_neg c3]
        exact zer n _ h
theorem zi1{p:Bool}{t:Tl}{va asid:Int}(h:zaj p t=true):zhs t va asid=za0 va asid t.2.2:=by unfold zhs;rw[if_pos (zbs h)]
theorem zvs{m:By}{root va:Int}(h:zee va=true):zb7 m root va=za4 m va 3 (ze1 root):=by unfold zb7;rw[if_pos h];rfl
theorem zth(k:Int):pfM k≠0:=by unfold pfM;split<;>(try split)<;>decide
theorem ybj(k:Int):afM k≠0:=by unfold afM;split<;>(try split)<;>decide
theorem yow(m:By)(c0:Int)(c1 c2:Bool)(c3:Int)(s1 w1:Int)(m1:Es)(s2 w2:Int)(m2:Es)(s3 w3:Int)(m3:Es)(kind va pick:Int)(q0 q1 q2:Int)(rs:Rs)(h:yl8 m (c0,c1,c2,c3) (s1,w1,m1,s2,w2,m2,s3,w3,m3) va)(hk:kind=0)(ok:okT (c0,c1,c2,c3) ((s1,w1,m1),(s2,w2,m2),(s3,w3,m3)) kind pick=true)(hW:za4 m va ((zal c3 va (s3,w3,m3)).2+1).toNat (zal c3 va (s3,w3,m3)).1=(q0,q1,q2,rs)){e:Nat}{pa l:Int}{t1 t2 t3:Es}(hr:trM m (c0,c1,c2,c3) ((s1,w1,m1),(s2,w2,m2),(s3,w3,m3)) kind va pick=(e,pa,l,(s1,w1,t1),(s2,w2,t2),(s3,w3,t3))):ys4 m c0 c1 c2 c3 s1 w1 m1 s2 w2 m2 s3 w3 m3 kind va pick q0 q1 q2 rs (zbi e kind) pa s1 w1 t1 s2 w2 t2 s3 w3 t3:=by
 obtain⟨hm,hc3,⟨r1,r2,r3⟩,hv⟩:zaz m∧U64 c3∧(TlR (s1,w1,m1)∧TlR (s2,w2,m2)∧TlR (s3,w3,m3))∧U64 va:=h
 obtain⟨hgc,hask,p0,p1⟩:=zqu ok
 simp only[zbr,Bool.and_eq_true] at hgc
 obtain⟨⟨g1,g2⟩,g3⟩:=hgc
 have hpick:∀k:Cch,ze0 kind k=k.1:=fun k=>by unfold ze0;rw[if_pos hk]
 have hput:∀(k:Cch)(t:Tl),zn5 kind k t=(t,k.2.1,k.2.2):=fun k t=>by unfold zn5;rw[if_pos hk]
 have hq:=zva m c0 c1 c2 c3 s1 w1 m1 s2 w2 m2 s3 w3 m3 kind va pick q0 q1 q2 rs (zbi e kind) pa s1 w1 t1 s2 w2 t2 s3 w3 t3
 conv at hq=>rhs;zeta
 have gb:=zmb (c0,c1,c2,c3) ((s1,w1,m1),(s2,w2,m2),(s3,w3,m3)) kind pick
 simp only at gb
 have lk1:zhs (s1,w1,m1) va (za7 c3)=za0 va (za7 c3) m1:=zi1 g1
 have lk3:zhs (s3,w3,m3) va (za7 c3)=za0 va (za7 c3) m3:=zi1 g3
 rw[gb,ok,lk1,lk3] at hq
 refine zae hq ⟨⟨rfl,rfl,rfl,r1,r2,r3⟩,fun q=>(by cases q),fun _=>⟨⟨rfl,rfl,rfl,r1.2.2.1,r2.2.2.1,r3.2.2.1⟩,hc3,fun qa => ?_,fun qa=>⟨hv,fun qb => ?_,fun qb=>⟨by simp[hk],hc3,⟨rfl,r1,hv⟩,za0 va (za7 c3) m1,by simp,fun qc => ?_,fun qc=>⟨⟨rfl,hm,hc3,hv⟩,hc3,⟨rfl,r3,hv⟩,(zb7 m c3 va,za0 va (za7 c3) m3),by simp,fun qd => ?_,fun qd => ?_⟩⟩⟩⟩⟩
 · have qa:onM (c0,c1,c2,c3)=false:=by simpa using qa
   unfold trM at hr
   rw[if_pos qa] at hr
   cases hr
   simp[zbi]
 · have qa:¬ onM (c0,c1,c2,c3)=false:=by simpa using qa
   have qb:zee va=false:=by simpa using qb
   unfold trM at hr
   rw[if_neg qa,if_pos qb] at hr
   cases hr
   simp[zbi]
 · have qa:¬ onM (c0,c1,c2,c3)=false:=by simpa using qa
   have qb:¬ zee va=false:=by simpa using qb
   unfold trM at hr
   rw[if_neg qa,if_neg qb,hpick,if_pos qc] at hr
   obtain⟨u1,u2,u3⟩:=zdv g1 r1 qc
   simp only at u1 u2 hr
   generalize za0 va (za7 c3) m1=H at *
   by_cases g:za3 H.2.2.2 kind c0 c1 c2=true
   · have hr2:((0,zce H.2.2.2 H.2.2.1 va,0,((s1,w1,m1),(s2,w2,m2),(s3,w3,m3))):TrR)=(e,pa,l,(s1,w1,t1),(s2,w2,t2),(s3,w3,t3)):=by rw[← hr];unfold ygv;rw[if_pos g]
     cases hr2
     simp[zb4,g,zbi,u2,hv]
   · have hr2:((2,0,H.2.2.1,((s1,w1,m1),(s2,w2,m2),(s3,w3,m3))):TrR)=(e,pa,l,(s1,w1,t1),(s2,w2,t2),(s3,w3,t3)):=by rw[← hr];unfold ygv;rw[if_neg g]
     cases hr2
     simp[zb4,g,zbi,u2,hv]
 · have qa:¬ onM (c0,c1,c2,c3)=false:=by simpa using qa
   have qb':zee va=true:=by simpa using qb
   have qb:¬ zee va=false:=by simpa using qb
   unfold trM at hr
   rw[if_neg qa,if_neg qb,hpick,if_neg (by rw[qc];simp)] at hr
   unfold zkv at hr
   simp only at hr
   have hst:=zek (satp:=c3) hm hv g3 r3
   have hrec:=zes (va:=va) hm ((zal c3 va (s3,w3,m3)).2+1).toNat (zal c3 va (s3,w3,m3)).1
   have hlen:=zc9 m va ((zal c3 va (s3,w3,m3)).2+1).toNat (zal c3 va (s3,w3,m3)).1
   have hc:=zbw m va ((zal c3 va (s3,w3,m3)).2+1).toNat (zal c3 va (s3,w3,m3)).1
   have hleaf:=zbq (va:=va) hm ((zal c3 va (s3,w3,m3)).2+1).toNat (zal c3 va (s3,w3,m3)).1
   have hkind:=zer (m:=m) (va:=va) ((zal c3 va (s3,w3,m3)).2+1).toNat (zal c3 va (s3,w3,m3)).1
   have hst2:=hst.2.2.2.1
   have hn3:((zal c3 va (s3,w3,m3)).2+1).toNat≤3:=by have:=hst2.2;omega
   rw[hW] at hr hrec hlen hc hleaf hkind
   simp only at hr hrec hlen hc hleaf hkind
   have hRec:yeg (c0,c1,c2,c3) ((s1,w1,m1),(s2,w2,m2),(s3,w3,m3)) va pick rs:=⟨hc3,hv,p0,p1,g3,r3,by omega,fun r hr=>by obtain⟨a,b,c⟩:=hrec r hr;exact⟨⟨a,by omega⟩,c⟩⟩
   have qd:(za0 va (za7 c3) m3).1=true:=qd
   have es:zal c3 va (s3,w3,m3)=(zch (za0 va (za7 c3) m3).2.2.2,(za0 va (za7 c3) m3).2.2.1-1):=by unfold zal;rw[if_pos qd]
   obtain⟨u1,u2,u3⟩:=zdv g3 r3 qd
   have u4:=zql (show za2 _ _=1 from u3)
   simp only at u1 u2 u4
   have ew:IntKind.i64.wrap ((za0 va (za7 c3) m3).2.2.1-1)=(za0 va (za7 c3) m3).2.2.1-1:=zac (by have:=u1.1;omega) (by have:=u1.2;omega)
   rw[es] at hW hst
   simp only at hW hst
   have en:((za0 va (za7 c3) m3).2.2.1-1).toNat+1=((za0 va (za7 c3) m3).2.2.1-1+1).toNat:=by have:=u1.1;omega
   refine⟨u2,⟨rfl,by rw[ew];exact hst⟩,0,by simp only[ew,en,hW];simp[zaf],⟨by omega,hRec⟩, ?_⟩
   clear es ew en hW hst
   refine fun _ _=>⟨⟨rfl,fun n2 n3 => ?_,hv⟩,zai (q0,q1,q2,rs) (c0,c1,c2,c3) kind va,by simp,fun a => ?_,fun a => ?_⟩
   · rcases hc with z|z|z
     · exact (hleaf z).1
     · exact absurd z n3
     · exact absurd z n2
   · have a:(zai (q0,q1,q2,rs) (c0,c1,c2,c3) kind va).1=0:=by simpa using a
     rcases hc with z|z|z
     · obtain⟨u1,u2,u3⟩:=hleaf z
       have ul:LvR q1:=⟨u2,by omega⟩
       have uk:=hkind z
       subst z
       have g:za3 q2 kind c0 c1 c2=true:=by
        by_cases g:za3 q2 kind c0 c1 c2=true
        · exact g
        · simp[zai,zb4,g] at a
          exact absurd a (zth kind)
       have he:zbe (s1,w1,m1) ((zbk q1 va c3 q2).1,(zbk q1 va c3 q2).2.1,(zbk q1 va c3 q2).2.2.1,(zbk q1 va c3 q2).2.2.2.1,(zbk q1 va c3 q2).2.2.2.2.1,(zbk q1 va c3 q2).2.2.2.2.2) pick=zec (s1,w1,m1) (zbk q1 va c3 q2) pick:=by
        show zbe _ (zbk q1 va c3 q2) pick=_
        exact zeo g1 (zfa ul uk) p0 p1
       have hr2:((0,zce q2 q1 va,0,zn5 kind ((s1,w1,m1),(s2,w2,m2),(s3,w3,(zaf va c3 pick (s3,w3,m3) rs).2.2)) (zec (ze0 kind ((s1,w1,m1),(s2,w2,m2),(s3,w3,(zaf va c3 pick (s3,w3,m3) rs).2.2))) (zbk q1 va c3 q2) pick)):TrR)=(e,pa,l,(s1,w1,t1),(s2,w2,t2),(s3,w3,t3)):=by
        rw[← hr];unfold zgj;rw[if_pos rfl,if_pos g]
       rw[hput,hpick] at hr2
       simp only[Prod.mk.injEq] at hr2
       obtain⟨rfl,rfl, -,h1,h2,h3⟩:=hr2
       obtain⟨-, -,rfl⟩:=h2
       obtain⟨-, -,rfl⟩:=h3
       have h1:zec (s1,w1,m1) (zbk q1 va c3 q2) pick=(s1,w1,t1):=h1
       have ea:zai (1,q1,q2,rs) (c0,c1,c2,c3) kind va=(0,zce q2 q1 va):=by simp[zai,zb4,g]
       rw[he,h1,ea]
       refine⟨⟨ul,hv,hc3,u1⟩,⟨rfl,r1,zir ul u1⟩,fun b => ?_,fun b => ?_⟩
       · simp[zbi]
       · exact absurd hk (by simpa using b)
     · subst z
       exact absurd a (by simp[zai];exact ybj kind)
     · subst z
       exact absurd a (by simp[zai];exact zth kind)
   · have a:¬ (zai (q0,q1,q2,rs) (c0,c1,c2,c3) kind va).1=0:=by simpa using a
     rcases hc with z|z|z
     · subst z
       have g:za3 q2 kind c0 c1 c2=false:=by
        by_cases g:za3 q2 kind c0 c1 c2=true
        · exact absurd (by simp[zai,zb4,g]) a
        · simpa using g
       have hr2:((2,0,q1,(s1,w1,m1),(s2,w2,m2),(s3,w3,(zaf va c3 pick (s3,w3,m3) rs).2.2)):TrR)=(e,pa,l,(s1,w1,t1),(s2,w2,t2),(s3,w3,t3)):=by
        rw[← hr];unfold zgj;rw[if_pos rfl,if_neg (by rw[g];simp)]
       cases hr2
       simp[zai,zb4,g,zbi]
     · subst z
       have hr2:((1,0,q1,(s1,w1,m1),(s2,w2,m2),(s3,w3,(zaf va c3 pick (s3,w3,m3) rs).2.2)):TrR)=(e,pa,l,(s1,w1,t1),(s2,w2,t2),(s3,w3,t3)):=by
        rw[← hr];unfold zgj;rw[if_neg (by simp),if_pos rfl]
       cases hr2
       simp[zai,zbi]
     · subst z
       have hr2:((2,0,q1,(s1,w1,m1),(s2,w2,m2),(s3,w3,(zaf va c3 pick (s3,w3,m3) rs).2.2)):TrR)=(e,pa,l,(s1,w1,t1),(s2,w2,t2),(s3,w3,t3)):=by
        rw[← hr];unfold zgj;rw[if_neg (by simp),if_neg (by simp)]
       cases hr2
       simp[zai,zbi]
 · have qa:¬ onM (c0,c1,c2,c3)=false:=by simpa using qa
   have qb':zee va=true:=by simpa using qb
   have qb:¬ zee va=false:=by simpa using qb
   unfold trM at hr
   rw[if_neg qa,if_neg qb,hpick,if_neg (by rw[qc];simp)] at hr
   unfold zkv at hr
   simp only at hr
   have hst:=zek (satp:=c3) hm hv g3 r3
   have hrec:=zes (va:=va) hm ((zal c3 va (s3,w3,m3)).2+1).toNat (zal c3 va (s3,w3,m3)).1
   have hlen:=zc9 m va ((zal c3 va (s3,w3,m3)).2+1).toNat (zal c3 va (s3,w3,m3)).1
   have hc:=zbw m va ((zal c3 va (s3,w3,m3)).2+1).toNat (zal c3 va (s3,w3,m3)).1
   have hleaf:=zbq (va:=va) hm ((zal c3 va (s3,w3,m3)).2+1).toNat (zal c3 va (s3,w3,m3)).1
   have hkind:=zer (m:=m) (va:=va) ((zal c3 va (s3,w3,m3)).2+1).toNat (zal c3 va (s3,w3,m3)).1
   have hst2:=hst.2.2.2.1
   have hn3:((zal c3 va (s3,w3,m3)).2+1).toNat≤3:=by have:=hst2.2;omega
   rw[hW] at hr hrec hlen hc hleaf hkind
   simp only at hr hrec hlen hc hleaf hkind
   have hRec:yeg (c0,c1,c2,c3) ((s1,w1,m1),(s2,w2,m2),(s3,w3,m3)) va pick rs:=⟨hc3,hv,p0,p1,g3,r3,by omega,fun r hr=>by obtain⟨a,b,c⟩:=hrec r hr;exact⟨⟨a,by omega⟩,c⟩⟩
   have qd:(za0 va (za7 c3) m3).1=false:=qd
   have es:zal c3 va (s3,w3,m3)=(ze1 c3,2):=by unfold zal;rw[if_neg (by rw[qd];simp)]
   rw[es] at hW
   have ew:zb7 m c3 va=(q0,q1,q2,rs):=by rw[zvs qb'];exact hW
   refine⟨0,by rw[ew];simp[zaf],⟨by omega,hRec⟩, ?_⟩
   clear es ew hW hst
   refine fun _ _=>⟨⟨rfl,fun n2 n3 => ?_,hv⟩,zai (q0,q1,q2,rs) (c0,c1,c2,c3) kind va,by simp,fun a => ?_,fun a => ?_⟩
   · rcases hc with z|z|z
     · exact (hleaf z).1
     · exact absurd z n3
     · exact absurd z n2
   · have a:(zai (q0,q1,q2,rs) (c0,c1,c2,c3) kind va).1=0:=by simpa using a
     rcases hc with z|z|z
     · obtain⟨u1,u2,u3⟩:=hleaf z
       have ul:LvR q1:=⟨u2,by omega⟩
       have uk:=hkind z
       subst z
       have g:za3 q2 kind c0 c1 c2=true:=by
        by_cases g:za3 q2 kind c0 c1 c2=true
        · exact g
        · simp[zai,zb4,g] at a
          exact absurd a (zth kind)
       have he:zbe (s1,w1,m1) ((zbk q1 va c3 q2).1,(zbk q1 va c3 q2).2.1,(zbk q1 va c3 q2).2.2.1,(zbk q1 va c3 q2).2.2.2.1,(zbk q1 va c3 q2).2.2.2.2.1,(zbk q1 va c3 q2).2.2.2.2.2) pick=zec (s1,w1,m1) (zbk q1 va c3 q2) pick:=by
        show zbe _ (zbk q1 va c3 q2) pick=_
        exact zeo g1 (zfa ul uk) p0 p1
       have hr2:((0,zce q2 q1 va,0,zn5 kind ((s1,w1,m1),(s2,w2,m2),(s3,w3,(zaf va c3 pick (s3,w3,m3) rs).2.2)) (zec (ze0 kind ((s1,w1,m1),(s2,w2,m2),(s3,w3,(zaf va c3 pick (s3,w3,m3) rs).2.2))) (zbk q1 va c3 q2) pick)):TrR)=(e,pa,l,(s1,w1,t1),(s2,w2,t2),(s3,w3,t3)):=by
        rw[← hr];unfold zgj;rw[if_pos rfl,if_pos g]
       rw[hput,hpick] at hr2
       simp only[Prod.mk.injEq] at hr2
       obtain⟨rfl,rfl, -,h1,h2,h3⟩:=hr2
       obtain⟨-, -,rfl⟩:=h2
       obtain⟨-, -,rfl⟩:=h3
       have h1:zec (s1,w1,m1) (zbk q1 va c3 q2) pick=(s1,w1,t1):=h1
       have ea:zai (1,q1,q2,rs) (c0,c1,c2,c3) kind va=(0,zce q2 q1 va):=by simp[zai,zb4,g]
       rw[he,h1,ea]
       refine⟨⟨ul,hv,hc3,u1⟩,⟨rfl,r1,zir ul u1⟩,fun b => ?_,fun b => ?_⟩
       · simp[zbi]
       · exact absurd hk (by simpa using b)
     · subst z
       exact absurd a (by simp[zai];exact ybj kind)
     · subst z
       exact absurd a (by simp[zai];exact zth kind)
   · have a:¬ (zai (q0,q1,q2,rs) (c0,c1,c2,c3) kind va).1=0:=by simpa using a
     rcases hc with z|z|z
     · subst z
       have g:za3 q2 kind c0 c1 c2=false:=by
        by_cases g:za3 q2 kind c0 c1 c2=true
        · exact absurd (by simp[zai,zb4,g]) a
        · simpa using g
       have hr2:((2,0,q1,(s1,w1,m1),(s2,w2,m2),(s3,w3,(zaf va c3 pick (s3,w3,m3) rs).2.2)):TrR)=(e,pa,l,(s1,w1,t1),(s2,w2,t2),(s3,w3,t3)):=by
        rw[← hr];unfold zgj;rw[if_pos rfl,if_neg (by rw[g];simp)]
       cases hr2
       simp[zai,zb4,g,zbi]
     · subst z
       have hr2:((1,0,q1,(s1,w1,m1),(s2,w2,m2),(s3,w3,(zaf va c3 pick (s3,w3,m3) rs).2.2)):TrR)=(e,pa,l,(s1,w1,t1),(s2,w2,t2),(s3,w3,t3)):=by
        rw[← hr];unfold zgj;rw[if_neg (by simp),if_pos rfl]
       cases hr2
       simp[zai,zbi]
     · subst z
       have hr2:((2,0,q1,(s1,w1,m1),(s2,w2,m2),(s3,w3,(zaf va c3 pick (s3,w3,m3) rs).2.2)):TrR)=(e,pa,l,(s1,w1,t1),(s2,w2,t2),(s3,w3,t3)):=by
        rw[← hr];unfold zgj;rw[if_neg (by simp),if_neg (by simp)]
       cases hr2
       simp[zai,zbi]
theorem yov(m:By)(c0:Int)(c1 c2:Bool)(c3:Int)(s1 w1:Int)(m1:Es)(s2 w2:Int)(m2:Es)(s3 w3:Int)(m3:Es)(kind va pick:Int)(q0 q1 q2:Int)(rs:Rs)(h:yl8 m (c0,c1,c2,c3) (s1,w1,m1,s2,w2,m2,s3,w3,m3) va)(hk:kind≠0)(ok:okT (c0,c1,c2,c3) ((s1,w1,m1),(s2,w2,m2),(s3,w3,m3)) kind pick=true)(hW:za4 m va ((zal c3 va (s3,w3,m3)).2+1).toNat (zal c3 va (s3,w3,m3)).1=(q0,q1,q2,rs)){e:Nat}{pa l:Int}{t1 t2 t3:Es}(hr:trM m (c0,c1,c2,c3) ((s1,w1,m1),(s2,w2,m2),(s3,w3,m3)) kind va pick=(e,pa,l,(s1,w1,t1),(s2,w2,t2),(s3,w3,t3))):ys3 m c0 c1 c2 c3 s1 w1 m1 s2 w2 m2 s3 w3 m3 kind va pick q0 q1 q2 rs (zbi e kind) pa s1 w1 t1 s2 w2 t2 s3 w3 t3:=by
 obtain⟨hm,hc3,⟨r1,r2,r3⟩,hv⟩:zaz m∧U64 c3∧(TlR (s1,w1,m1)∧TlR (s2,w2,m2)∧TlR (s3,w3,m3))∧U64 va:=h
 obtain⟨hgc,hask,p0,p1⟩:=zqu ok
 simp only[zbr,Bool.and_eq_true] at hgc
 obtain⟨⟨g1,g2⟩,g3⟩:=hgc
 have hpick:∀k:Cch,ze0 kind k=k.2.1:=fun k=>by unfold ze0;rw[if_neg hk]
 have hput:∀(k:Cch)(t:Tl),zn5 kind k t=(k.1,t,k.2.2):=fun k t=>by unfold zn5;rw[if_neg hk]
 have hq:=ylf m c0 c1 c2 c3 s1 w1 m1 s2 w2 m2 s3 w3 m3 kind va pick q0 q1 q2 rs (zbi e kind) pa s1 w1 t1 s2 w2 t2 s3 w3 t3
 conv at hq=>rhs;zeta
 have gb:=zmb (c0,c1,c2,c3) ((s1,w1,m1),(s2,w2,m2),(s3,w3,m3)) kind pick
 simp only at gb
 have lk1:zhs (s2,w2,m2) va (za7 c3)=za0 va (za7 c3) m2:=zi1 g2
 have lk3:zhs (s3,w3,m3) va (za7 c3)=za0 va (za7 c3) m3:=zi1 g3
 rw[gb,ok,lk1,lk3] at hq
 refine zae hq ⟨⟨rfl,rfl,rfl,r1,r2,r3⟩,fun q=>(by cases q),fun _=>⟨⟨rfl,rfl,rfl,r1.2.2.1,r2.2.2.1,r3.2.2.1⟩,hc3,fun qa => ?_,fun qa=>⟨hv,fun qb => ?_,fun qb=>⟨by simp[hk],hc3,⟨rfl,r2,hv⟩,za0 va (za7 c3) m2,by simp,fun qc => ?_,fun qc=>⟨⟨rfl,hm,hc3,hv⟩,hc3,⟨rfl,r3,hv⟩,(zb7 m c3 va,za0 va (za7 c3) m3),by simp,fun qd => ?_,fun qd => ?_⟩⟩⟩⟩⟩
 · have qa:onM (c0,c1,c2,c3)=false:=by simpa using qa
   unfold trM at hr
   rw[if_pos qa] at hr
   cases hr
   simp[zbi]
 · have qa:¬ onM (c0,c1,c2,c3)=false:=by simpa using qa
   have qb:zee va=false:=by simpa using qb
   unfold trM at hr
   rw[if_neg qa,if_pos qb] at hr
   cases hr
   simp[zbi]
 · have qa:¬ onM (c0,c1,c2,c3)=false:=by simpa using qa
   have qb:¬ zee va=false:=by simpa using qb
   unfold trM at hr
   rw[if_neg qa,if_neg qb,hpick,if_pos qc] at hr
   obtain⟨u1,u2,u3⟩:=zdv g2 r2 qc
   simp only at u1 u2 hr
   generalize za0 va (za7 c3) m2=H at *
   by_cases g:za3 H.2.2.2 kind c0 c1 c2=true
   · have hr2:((0,zce H.2.2.2 H.2.2.1 va,0,((s1,w1,m1),(s2,w2,m2),(s3,w3,m3))):TrR)=(e,pa,l,(s1,w1,t1),(s2,w2,t2),(s3,w3,t3)):=by rw[← hr];unfold ygv;rw[if_pos g]
     cases hr2
     simp[zb4,g,zbi,u2,hv]
   · have hr2:((2,0,H.2.2.1,((s1,w1,m1),(s2,w2,m2),(s3,w3,m3))):TrR)=(e,pa,l,(s1,w1,t1),(s2,w2,t2),(s3,w3,t3)):=by rw[← hr];unfold ygv;rw[if_neg g]
     cases hr2
     simp[zb4,g,zbi,u2,hv]
 · have qa:¬ onM (c0,c1,c2,c3)=false:=by simpa using qa
   have qb':zee va=true:=by simpa using qb
   have qb:¬ zee va=false:=by simpa using qb
   unfold trM at hr
   rw[if_neg qa,if_neg qb,hpick,if_neg (by rw[qc];simp)] at hr
   unfold zkv at hr
   simp only at hr
   have hst:=zek (satp:=c3) hm hv g3 r3
   have hrec:=zes (va:=va) hm ((zal c3 va (s3,w3,m3)).2+1).toNat (zal c3 va (s3,w3,m3)).1
   have hlen:=zc9 m va ((zal c3 va (s3,w3,m3)).2+1).toNat (zal c3 va (s3,w3,m3)).1
   have hc:=zbw m va ((zal c3 va (s3,w3,m3)).2+1).toNat (zal c3 va (s3,w3,m3)).1
   have hleaf:=zbq (va:=va) hm ((zal c3 va (s3,w3,m3)).2+1).toNat (zal c3 va (s3,w3,m3)).1
   have hkind:=zer (m:=m) (va:=va) ((zal c3 va (s3,w3,m3)).2+1).toNat (zal c3 va (s3,w3,m3)).1
   have hst2:=hst.2.2.2.1
   have hn3:((zal c3 va (s3,w3,m3)).2+1).toNat≤3:=by have:=hst2.2;omega
   rw[hW] at hr hrec hlen hc hleaf hkind
   simp only at hr hrec hlen hc hleaf hkind
   have hRec:yeg (c0,c1,c2,c3) ((s1,w1,m1),(s2,w2,m2),(s3,w3,m3)) va pick rs:=⟨hc3,hv,p0,p1,g3,r3,by omega,fun r hr=>by obtain⟨a,b,c⟩:=hrec r hr;exact⟨⟨a,by omega⟩,c⟩⟩
   have qd:(za0 va (za7 c3) m3).1=true:=qd
   have es:zal c3 va (s3,w3,m3)=(zch (za0 va (za7 c3) m3).2.2.2,(za0 va (za7 c3) m3).2.2.1-1):=by unfold zal;rw[if_pos qd]
   obtain⟨u1,u2,u3⟩:=zdv g3 r3 qd
   have u4:=zql (show za2 _ _=1 from u3)
   simp only at u1 u2 u4
   have ew:IntKind.i64.wrap ((za0 va (za7 c3) m3).2.2.1-1)=(za0 va (za7 c3) m3).2.2.1-1:=zac (by have:=u1.1;omega) (by have:=u1.2;omega)
   rw[es] at hW hst
   simp only at hW hst
   have en:((za0 va (za7 c3) m3).2.2.1-1).toNat+1=((za0 va (za7 c3) m3).2.2.1-1+1).toNat:=by have:=u1.1;omega
   refine⟨u2,⟨rfl,by rw[ew];exact hst⟩,0,by simp only[ew,en,hW];simp[zaf],⟨by omega,hRec⟩, ?_⟩
   clear es ew en hW hst
   refine fun _ _=>⟨⟨rfl,fun n2 n3 => ?_,hv⟩,zai (q0,q1,q2,rs) (c0,c1,c2,c3) kind va,by simp,fun a => ?_,fun a => ?_⟩
   · rcases hc with z|z|z
     · exact (hleaf z).1
     · exact absurd z n3
     · exact absurd z n2
   · have a:(zai (q0,q1,q2,rs) (c0,c1,c2,c3) kind va).1=0:=by simpa using a
     rcases hc with z|z|z
     · obtain⟨u1,u2,u3⟩:=hleaf z
       have ul:LvR q1:=⟨u2,by omega⟩
       have uk:=hkind z
       subst z
       have g:za3 q2 kind c0 c1 c2=true:=by
        by_cases g:za3 q2 kind c0 c1 c2=true
        · exact g
        · simp[zai,zb4,g] at a
          exact absurd a (zth kind)
       have he:zbe (s2,w2,m2) ((zbk q1 va c3 q2).1,(zbk q1 va c3 q2).2.1,(zbk q1 va c3 q2).2.2.1,(zbk q1 va c3 q2).2.2.2.1,(zbk q1 va c3 q2).2.2.2.2.1,(zbk q1 va c3 q2).2.2.2.2.2) pick=zec (s2,w2,m2) (zbk q1 va c3 q2) pick:=by
        show zbe _ (zbk q1 va c3 q2) pick=_
        exact zeo g2 (zfa ul uk) p0 p1
       have hr2:((0,zce q2 q1 va,0,zn5 kind ((s1,w1,m1),(s2,w2,m2),(s3,w3,(zaf va c3 pick (s3,w3,m3) rs).2.2)) (zec (ze0 kind ((s1,w1,m1),(s2,w2,m2),(s3,w3,(zaf va c3 pick (s3,w3,m3) rs).2.2))) (zbk q1 va c3 q2) pick)):TrR)=(e,pa,l,(s1,w1,t1),(s2,w2,t2),(s3,w3,t3)):=by
        rw[← hr];unfold zgj;rw[if_pos rfl,if_pos g]
       rw[hput,hpick] at hr2
       simp only[Prod.mk.injEq] at hr2
       obtain⟨rfl,rfl, -,h1,h2,h3⟩:=hr2
       obtain⟨-, -,rfl⟩:=h1
       obtain⟨-, -,rfl⟩:=h3
       have h1:zec (s2,w2,m2) (zbk q1 va c3 q2) pick=(s2,w2,t2):=h2
       have ea:zai (1,q1,q2,rs) (c0,c1,c2,c3) kind va=(0,zce q2 q1 va):=by simp[zai,zb4,g]
       rw[he,h1,ea]
       refine⟨⟨ul,hv,hc3,u1⟩,⟨rfl,r2,zir ul u1⟩,fun b => ?_,fun b => ?_⟩
       · exact absurd (by simpa using b) hk
       · simp[zbi]
     · subst z
       exact absurd a (by simp[zai];exact ybj kind)
     · subst z
       exact absurd a (by simp[zai];exact zth kind)
   · have a:¬ (zai (q0,q1,q2,rs) (c0,c1,c2,c3) kind va).1=0:=by simpa using a
     rcases hc with z|z|z
     · subst z
       have g:za3 q2 kind c0 c1 c2=false:=by
        by_cases g:za3 q2 kind c0 c1 c2=true
        · exact absurd (by simp[zai,zb4,g]) a
        · simpa using g
       have hr2:((2,0,q1,(s1,w1,m1),(s2,w2,m2),(s3,w3,(zaf va c3 pick (s3,w3,m3) rs).2.2)):TrR)=(e,pa,l,(s1,w1,t1),(s2,w2,t2),(s3,w3,t3)):=by
        rw[← hr];unfold zgj;rw[if_pos rfl,if_neg (by rw[g];simp)]
       cases hr2
       simp[zai,zb4,g,zbi]
     · subst z
       have hr2:((1,0,q1,(s1,w1,m1),(s2,w2,m2),(s3,w3,(zaf va c3 pick (s3,w3,m3) rs).2.2)):TrR)=(e,pa,l,(s1,w1,t1),(s2,w2,t2),(s3,w3,t3)):=by
        rw[← hr];unfold zgj;rw[if_neg (by simp),if_pos rfl]
       cases hr2
       simp[zai,zbi]
     · subst z
       have hr2:((2,0,q1,(s1,w1,m1),(s2,w2,m2),(s3,w3,(zaf va c3 pick (s3,w3,m3) rs).2.2)):TrR)=(e,pa,l,(s1,w1,t1),(s2,w2,t2),(s3,w3,t3)):=by
        rw[← hr];unfold zgj;rw[if_neg (by simp),if_neg (by simp)]
       cases hr2
       simp[zai,zbi]
 · have qa:¬ onM (c0,c1,c2,c3)=false:=by simpa using qa
   have qb':zee va=true:=by simpa using qb
   have qb:¬ zee va=false:=by simpa using qb
   unfold trM at hr
   rw[if_neg qa,if_neg qb,hpick,if_neg (by rw[qc];simp)] at hr
   unfold zkv at hr
   simp only at hr
   have hst:=zek (satp:=c3) hm hv g3 r3
   have hrec:=zes (va:=va) hm ((zal c3 va (s3,w3,m3)).2+1).toNat (zal c3 va (s3,w3,m3)).1
   have hlen:=zc9 m va ((zal c3 va (s3,w3,m3)).2+1).toNat (zal c3 va (s3,w3,m3)).1
   have hc:=zbw m va ((zal c3 va (s3,w3,m3)).2+1).toNat (zal c3 va (s3,w3,m3)).1
   have hleaf:=zbq (va:=va) hm ((zal c3 va (s3,w3,m3)).2+1).toNat (zal c3 va (s3,w3,m3)).1
   have hkind:=zer (m:=m) (va:=va) ((zal c3 va (s3,w3,m3)).2+1).toNat (zal c3 va (s3,w3,m3)).1
   have hst2:=hst.2.2.2.1
   have hn3:((zal c3 va (s3,w3,m3)).2+1).toNat≤3:=by have:=hst2.2;omega
   rw[hW] at hr hrec hlen hc hleaf hkind
   simp only at hr hrec hlen hc hleaf hkind
   have hRec:yeg (c0,c1,c2,c3) ((s1,w1,m1),(s2,w2,m2),(s3,w3,m3)) va pick rs:=⟨hc3,hv,p0,p1,g3,r3,by omega,fun r hr=>by obtain⟨a,b,c⟩:=hrec r hr;exact⟨⟨a,by omega⟩,c⟩⟩
   have qd:(za0 va (za7 c3) m3).1=false:=qd
   have es:zal c3 va (s3,w3,m3)=(ze1 c3,2):=by unfold zal;rw[if_neg (by rw[qd];simp)]
   rw[es] at hW
   have ew:zb7 m c3 va=(q0,q1,q2,rs):=by rw[zvs qb'];exact hW
   refine⟨0,by rw[ew];simp[zaf],⟨by omega,hRec⟩, ?_⟩
   clear es ew hW hst
   refine fun _ _=>⟨⟨rfl,fun n2 n3 => ?_,hv⟩,zai (q0,q1,q2,rs) (c0,c1,c2,c3) kind va,by simp,fun a => ?_,fun a => ?_⟩
   · rcases hc with z|z|z
     · exact (hleaf z).1
     · exact absurd z n3
     · exact absurd z n2
   · have a:(zai (q0,q1,q2,rs) (c0,c1,c2,c3) kind va).1=0:=by simpa using a
     rcases hc with z|z|z
     · obtain⟨u1,u2,u3⟩:=hleaf z
       have ul:LvR q1:=⟨u2,by omega⟩
       have uk:=hkind z
       subst z
       have g:za3 q2 kind c0 c1 c2=true:=by
        by_cases g:za3 q2 kind c0 c1 c2=true
        · exact g
        · simp[zai,zb4,g] at a
          exact absurd a (zth kind)
       have he:zbe (s2,w2,m2) ((zbk q1 va c3 q2).1,(zbk q1 va c3 q2).2.1,(zbk q1 va c3 q2).2.2.1,(zbk q1 va c3 q2).2.2.2.1,(zbk q1 va c3 q2).2.2.2.2.1,(zbk q1 va c3 q2).2.2.2.2.2) pick=zec (s2,w2,m2) (zbk q1 va c3 q2) pick:=by
        show zbe _ (zbk q1 va c3 q2) pick=_
        exact zeo g2 (zfa ul uk) p0 p1
       have hr2:((0,zce q2 q1 va,0,zn5 kind ((s1,w1,m1),(s2,w2,m2),(s3,w3,(zaf va c3 pick (s3,w3,m3) rs).2.2)) (zec (ze0 kind ((s1,w1,m1),(s2,w2,m2),(s3,w3,(zaf va c3 pick (s3,w3,m3) rs).2.2))) (zbk q1 va c3 q2) pick)):TrR)=(e,pa,l,(s1,w1,t1),(s2,w2,t2),(s3,w3,t3)):=by
        rw[← hr];unfold zgj;rw[if_pos rfl,if_pos g]
       rw[hput,hpick] at hr2
       simp only[Prod.mk.injEq] at hr2
       obtain⟨rfl,rfl, -,h1,h2,h3⟩:=hr2
       obtain⟨-, -,rfl⟩:=h1
       obtain⟨-, -,rfl⟩:=h3
       have h1:zec (s2,w2,m2) (zbk q1 va c3 q2) pick=(s2,w2,t2):=h2
       have ea:zai (1,q1,q2,rs) (c0,c1,c2,c3) kind va=(0,zce q2 q1 va):=by simp[zai,zb4,g]
       rw[he,h1,ea]
       refine⟨⟨ul,hv,hc3,u1⟩,⟨rfl,r2,zir ul u1⟩,fun b => ?_,fun b => ?_⟩
       · exact absurd (by simpa using b) hk
       · simp[zbi]
     · subst z
       exact absurd a (by simp[zai];exact ybj kind)
     · subst z
       exact absurd a (by simp[zai];exact zth kind)
   · have a:¬ (zai (q0,q1,q2,rs) (c0,c1,c2,c3) kind va).1=0:=by simpa using a
     rcases hc with z|z|z
     · subst z
       have g:za3 q2 kind c0 c1 c2=false:=by
        by_cases g:za3 q2 kind c0 c1 c2=true
        · exact absurd (by simp[zai,zb4,g]) a
        · simpa using g
       have hr2:((2,0,q1,(s1,w1,m1),(s2,w2,m2),(s3,w3,(zaf va c3 pick (s3,w3,m3) rs).2.2)):TrR)=(e,pa,l,(s1,w1,t1),(s2,w2,t2),(s3,w3,t3)):=by
        rw[← hr];unfold zgj;rw[if_pos rfl,if_neg (by rw[g];simp)]
       cases hr2
       simp[zai,zb4,g,zbi]
     · subst z
       have hr2:((1,0,q1,(s1,w1,m1),(s2,w2,m2),(s3,w3,(zaf va c3 pick (s3,w3,m3) rs).2.2)):TrR)=(e,pa,l,(s1,w1,t1),(s2,w2,t2),(s3,w3,t3)):=by
        rw[← hr];unfold zgj;rw[if_neg (by simp),if_pos rfl]
       cases hr2
       simp[zai,zbi]
     · subst z
       have hr2:((2,0,q1,(s1,w1,m1),(s2,w2,m2),(s3,w3,(zaf va c3 pick (s3,w3,m3) rs).2.2)):TrR)=(e,pa,l,(s1,w1,t1),(s2,w2,t2),(s3,w3,t3)):=by
        rw[← hr];unfold zgj;rw[if_neg (by simp),if_neg (by simp)]
       cases hr2
       simp[zai,zbi]
theorem yvt:Sound Tryz.prog 38 (zad [byP,zgo,chP,i64,u64,i64] [ttP] (fun t=>some (yl8 t.1 t.2.1 t.2.2.1 t.2.2.2.2.1)) (fun t=>zn6 t.1 t.2.1 t.2.2.1 t.2.2.2.1 t.2.2.2.2.1 t.2.2.2.2.2)):=by
 refine zbf mixed Tryz.func38 (by kernel_rfl) (b:=zak Tryz.f38 0) (k:=24) (by kernel_rfl) (by kernel_rfl) (by kernel_rfl) yyc (fun t h => ?_)
 obtain⟨m,⟨c0,c1,c2,c3⟩,⟨s1,w1,m1,s2,w2,m2,s3,w3,m3⟩,kind,va,pick⟩:By × Ct × Cf × Int × Int × Int:=t
 have h:yl8 m (c0,c1,c2,c3) (s1,w1,m1,s2,w2,m2,s3,w3,m3) va:=h
 have goal:∀(isI:Bool)(q0 q1 q2:Int)(rs:Rs),(∀i:Nat,(i≤rs.length∧yeg (c0,c1,c2,c3) ((s1,w1,m1),(s2,w2,m2),(s3,w3,m3)) va pick rs)→zao Tryz.prog FZ0 (spX isI m (c0,c1,c2,c3) ((s1,w1,m1),(s2,w2,m2),(s3,w3,m3)) kind va pick (q0,q1,q2,rs)) 4 (zak Tryz.f38 0) (spL isI m (c0,c1,c2,c3) ((s1,w1,m1),(s2,w2,m2),(s3,w3,m3)) kind va pick (q0,q1,q2,rs)) (fun i:Nat=>rs.length-i) i)→zag Tryz.prog FZ0 (spX isI m (c0,c1,c2,c3) ((s1,w1,m1),(s2,w2,m2),(s3,w3,m3)) kind va pick (q0,q1,q2,rs)) Tryz.f38 [byP,zgo,chP,i64,u64,i64] [ttP] (m,(c0,c1,c2,c3),(s1,w1,m1,s2,w2,m2,s3,w3,m3),kind,va,pick) (zn6 m (c0,c1,c2,c3) (s1,w1,m1,s2,w2,m2,s3,w3,m3) kind va pick)→∃(Ξ:Specs)(L:LoopS)(μ:L.α→Nat),Ξ.loop 24=some L∧(∀y,L.I y→zao Tryz.prog FZ0 Ξ 4 (zak Tryz.f38 0) L μ y)∧zag Tryz.prog FZ0 Ξ Tryz.f38 [byP,zgo,chP,i64,u64,i64] [ttP] (m,(c0,c1,c2,c3),(s1,w1,m1,s2,w2,m2,s3,w3,m3),kind,va,pick) (zn6 m (c0,c1,c2,c3) (s1,w1,m1,s2,w2,m2,s3,w3,m3) kind va pick) :=
  fun isI q0 q1 q2 rs a b=>⟨spX isI m (c0,c1,c2,c3) ((s1,w1,m1),(s2,w2,m2),(s3,w3,m3)) kind va pick (q0,q1,q2,rs),spL isI m (c0,c1,c2,c3) ((s1,w1,m1),(s2,w2,m2),(s3,w3,m3)) kind va pick (q0,q1,q2,rs),fun i:Nat=>rs.length-i,(show (Specs.one 24 (spL isI m (c0,c1,c2,c3) ((s1,w1,m1),(s2,w2,m2),(s3,w3,m3)) kind va pick (q0,q1,q2,rs))).loop 24=some (spL isI m (c0,c1,c2,c3) ((s1,w1,m1),(s2,w2,m2),(s3,w3,m3)) kind va pick (q0,q1,q2,rs)) from za1 24 _),a,b⟩
 have el:zn6 m (c0,c1,c2,c3) (s1,w1,m1,s2,w2,m2,s3,w3,m3) kind va pick=((yek m (c0,c1,c2,c3) ((s1,w1,m1),(s2,w2,m2),(s3,w3,m3)) kind va pick).1,(yek m (c0,c1,c2,c3) ((s1,w1,m1),(s2,w2,m2),(s3,w3,m3)) kind va pick).2.1,ofC (yek m (c0,c1,c2,c3) ((s1,w1,m1),(s2,w2,m2),(s3,w3,m3)) kind va pick).2.2):=rfl
 generalize hW:za4 m va ((zal c3 va (s3,w3,m3)).2+1).toNat (zal c3 va (s3,w3,m3)).1=W
 obtain⟨q0,q1,q2,rs⟩:=W
 by_cases ok:okT (c0,c1,c2,c3) ((s1,w1,m1),(s2,w2,m2),(s3,w3,m3)) kind pick=true
 · obtain⟨e,pa,l,t1,t2,t3,hr, -⟩:=znf m (c0,c1,c2,c3) (s1,w1,m1) (s2,w2,m2) (s3,w3,m3) kind va pick
   have et:zn6 m (c0,c1,c2,c3) (s1,w1,m1,s2,w2,m2,s3,w3,m3) kind va pick=(zbi e kind,pa,s1,w1,t1,s2,w2,t2,s3,w3,t3):=by
    rw[el]
    unfold yek
    rw[if_pos ok,hr]
    rfl
   by_cases hk:kind=0
   · refine goal true q0 q1 q2 rs (fun i hi=>ztw m c0 c1 c2 c3 s1 w1 m1 s2 w2 m2 s3 w3 m3 kind va pick q0 q1 q2 rs hi) ?_
     rw[et]
     exact yow m c0 c1 c2 c3 s1 w1 m1 s2 w2 m2 s3 w3 m3 kind va pick q0 q1 q2 rs h hk ok hW hr
   · refine goal false q0 q1 q2 rs (fun i hi=>yi3 m c0 c1 c2 c3 s1 w1 m1 s2 w2 m2 s3 w3 m3 kind va pick q0 q1 q2 rs hi) ?_
     rw[et]
     exact yov m c0 c1 c2 c3 s1 w1 m1 s2 w2 m2 s3 w3 m3 kind va pick q0 q1 q2 rs h hk ok hW hr
 · have et:zn6 m (c0,c1,c2,c3) (s1,w1,m1,s2,w2,m2,s3,w3,m3) kind va pick=(63,0,0,0,[],0,0,[],0,0,[]):=by
    rw[el]
    unfold yek
    rw[if_neg ok]
    rfl
   obtain⟨hm,hc3,⟨r1,r2,r3⟩,hv⟩:zaz m∧U64 c3∧(TlR (s1,w1,m1)∧TlR (s2,w2,m2)∧TlR (s3,w3,m3))∧U64 va:=h
   have ok:okT (c0,c1,c2,c3) ((s1,w1,m1),(s2,w2,m2),(s3,w3,m3)) kind pick=false:=by simpa using ok
   refine goal true q0 q1 q2 rs (fun i hi=>ztw m c0 c1 c2 c3 s1 w1 m1 s2 w2 m2 s3 w3 m3 kind va pick q0 q1 q2 rs hi) ?_
   rw[et]
   have hq:=zva m c0 c1 c2 c3 s1 w1 m1 s2 w2 m2 s3 w3 m3 kind va pick q0 q1 q2 rs 63 0 0 0 [] 0 0 [] 0 0 []
   conv at hq=>rhs;zeta
   have gb:=zmb (c0,c1,c2,c3) ((s1,w1,m1),(s2,w2,m2),(s3,w3,m3)) kind pick
   simp only at gb
   rw[gb,ok] at hq
   refine zae hq ⟨⟨rfl,rfl,rfl,r1,r2,r3⟩,fun _ => ?_,fun q=>by cases q⟩
   simp
theorem yzp:zar Tryz.prog kZ1 := .cons (by kernel_rfl) yvt <| .nil
end Go.Proofs.YtfiddfbagbaofaaGreat.V
