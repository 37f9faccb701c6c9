/- Runs. Conditions: those in each statement. -/
import Derived.Test.YtfiddfbagbaofaaGreatIH
import Derived.Test.YtfiddfbagbaofaaGreatDE
import Derived.KernelRfl
namespace Go.Proofs.YtfiddfbagbaofaaGreat.V
open Go
set_option linter.unusedVariables false
-- flat
abbrev shV:List Ty:=[.i .u64,.i .i64,.i .i64,.i .u64]
abbrev Evs:=List (Int × Int × Int × Int)
def goR(pl:Bool):Ha→List Int→Ha
 | h,[]=>h
 | h,p::ps=>goR pl (zcy (Rn.ofH h) pl p).h ps
def evR(pl:Bool):Ha→List Int→Evs
 | _,[]=>[]
 | h,p::ps=>(h.2.2.1,h.2.2.2.1,(zcy (Rn.ofH h) pl p).cs,(zcy (Rn.ofH h) pl p).tw)::evR pl (zcy (Rn.ofH h) pl p).h ps
def RbI(pl:Bool)(ps:List Int)(F:Rn)(E:Evs)(i:Nat)(r:Rn)(ev:Evs):Prop:=i≤ps.length∧ps.length≤20000∧(∀p ∈ ps,0≤p∧p≤255)∧HaV r.h∧r.u.getD 0 0=0∧ev.length=i∧goR pl r.h (ps.drop i)=F.h∧ev++evR pl r.h (ps.drop i)=E
def rbZ:List Av:=[.v (.slice none 0 0),.v (.slice none 0 0),.v (.slice none 0 0),.v (.int .u64 0),.v (.int .i64 0),.v (.bool false),.v (.bool false),.v (.int .u64 0),.v (.int .u64 0),.v (.int .i64 0),.v (.int .i64 0),.v (.int .u64 0)]
def rbA(e:Av):List Av:=e::rbZ.tail
def yyu(r:Rn)(b:Nat):List Av:=(zwb r b).take 21
def rbR(r:Rn)(ps:List Int)(ev:Evs):Heap:=[.arr [.i .u8] r.m true,.arr [.i .u64] r.u true,.arr shE r.m1 true,.arr shE r.m2 true,.arr shE r.m3 true,.arr [.i .i64] ps true,.arr shV ev true]
def irbH(b:By)(r:Rn)(ps:List Int)(ev:Evs):Heap:=[.arr [.i .u8] b false,.fix rbZ true (some 31),.fix (yyu r 4++[.sl 9 1 0 ps.length]) true (some 44),.fix (rbA (.sl 10 4 0 ev.length)) true (some 31)]++rbR r ps ev
def yyz(b:By)(pl:Bool)(ps:List Int)(F:Rn)(E:Evs):LoopS where
 α:=Nat × Rn × Evs
 I x:=RbI pl ps F E x.1 x.2.1 x.2.2
 sl x:=slots 106 [(1,.v (.bool pl)),(4,.ptr 1 0),(6,.ptr 2 0),(7,.ptr 3 0),(16,.sl 9 1 0 ps.length),(17,.v (.int .i64 ps.length)),(18,.v (.int .i64 (x.1:Int)))]
 H x:=irbH b x.2.1 ps x.2.2
 fams:=[{ β:=Unit,out:=fun _ _=>True,ex := .ext 0,sl:=fun _=>slots 106 [(4,.ptr 1 0),(6,.ptr 2 0),(7,.ptr 3 0)],H:=fun _=>irbH b F ps E }]
def srbH(b:By)(r:Rn)(ps:List Int)(ev:Evs):Heap:=[.arr [.i .u8] b false,.fix rbZ true (some 31),.fix (List.replicate 21 .any++[.sl 10 1 0 ps.length]) true (some 44),.fix (yyu r 5) true (some 41),.fix (rbA (.sl 11 4 0 ev.length)) true (some 31)]++rbR r ps ev
def yz8(b:By)(pl:Bool)(ps:List Int)(F:Rn)(E:Evs):LoopS where
 α:=Nat × Rn × Evs
 I x:=RbI pl ps F E x.1 x.2.1 x.2.2
 sl x:=slots 80 [(1,.v (.bool pl)),(4,.ptr 1 0),(5,.ptr 2 0),(6,.ptr 3 0),(7,.ptr 4 0),(8,.v (.int .i64 (x.1:Int)))]
 H x:=srbH b x.2.1 ps x.2.2
 fams:=[{ β:=Unit,out:=fun _ _=>True,ex := .ext 0,sl:=fun _=>slots 80 [(4,.ptr 1 0),(6,.ptr 3 0),(7,.ptr 4 0)],H:=fun _=>(((srbH b F ps E).set 2 .dead).set 10 .dead) }]
def kJA0:Known:=[
 (57,zai [byP] [scP] (fun b=>some (zaj b)) zhx),
 (22,zai [byP] [scP] (fun b=>some (zaj b)) zhx),
 (72,zn9 21 stcS),
 (65,zai [haP,bl,i64] [ruP] (fun t=>some (zsu (Rn.ofH t.1) t.2.2)) (fun t=>(zcy (Rn.ofH t.1) t.2.1 t.2.2).t))]
def yxi:Dict:=mkD kJA0 [(76,(2,fun k=>zn9 21 (mkS (mkN k))))] []
abbrev reP:Pm := .st [.sl shV,.sl [.i .u8],.sl [.i .u64],.i .u64,.i .i64,.b,.b,.i .u64,.i .u64,.i .i64,.i .i64,.i .u64]
abbrev Re:=Evs × By × Us × Int × Int × Bool × Bool × Int × Int × Int × Int × Int
def reF(F:Rn)(E:Evs):Re:=(E,F.m,F.u,F.pc,F.mo,F.su,F.mx,F.sa,F.ep,F.em,F.ca,F.tl)
def zp5(b:By)(pl:Bool)(ps:List Int)(F:Rn)(E:Evs)(i:Nat)(r:Rn)(ev:Evs):Prop:=zam Tryz.prog yxi (.one 5 (yyz b pl ps F E)) 1 (zag Tryz.f21 0) (yyz b pl ps F E) (fun x:Nat × Rn × Evs=>ps.length-x.1) (i,r,ev)
def yo0(b:By)(pl:Bool)(ps:List Int)(F:Rn)(E:Evs):Prop:=zal Tryz.prog yxi (.one 5 (yyz b pl ps F E)) Tryz.f21 [byP,bl] [reP] (b,pl) (reF F E)
def zp6(b:By)(pl:Bool)(ps:List Int)(F:Rn)(E:Evs)(i:Nat)(r:Rn)(ev:Evs):Prop:=zam Tryz.prog yxi (.one 5 (yz8 b pl ps F E)) 1 (zag Tryz.f19 0) (yz8 b pl ps F E) (fun x:Nat × Rn × Evs=>ps.length-x.1) (i,r,ev)
def ypc(b:By)(pl:Bool)(ps:List Int)(F:Rn)(E:Evs):Prop:=zal Tryz.prog yxi (.one 5 (yz8 b pl ps F E)) Tryz.f19 [byP,bl] [reP] (b,pl) (reF F E)
set_option linter.unusedVariables false
set_option maxRecDepth 10000
theorem zrz(b:By)(pl:Bool)(ps:List Int)(F:Rn)(E:Evs)(i:Nat)(r:Rn)(ev:Evs):zp5 b pl ps F E i r ev=(
 let A0(a b:Int)(c:Es):=(a,b,c);
 let A1:=(0:Nat)+(↑i:Int).toNat;
 let A2(a:Tm)(b:Hn):=(zeu a b).2;
 let A3:=ps.getD A1 (El.zero (Ty.i IntKind.i64::[]));
 let A4(a:Nat × Rn × Evs):=a.2.1;
 let A5:=(0:Int)=0;
 let A6:=A0 r.19 r.20 r.21;
 let A7:=A0 r.16 r.17 r.18;
 let A8:=Hn.mk r.1 r.2 r.3 r.4 r.5 r.6 r.7 r.8 r.9 r.10 r.11 r.12 (A0 r.13 r.14 r.15,A7,A6) [] [];
 let A9:=Hn.mk r.1 r.2 r.3 r.4 r.5 r.6 r.7 r.8 r.9 r.10 r.11 r.12 (evK (A0 r.13 r.14 r.15,A7,A6) A3) [] [];
 let Aa(a b c:Prop):=a∧b∧c;
 let Ab(a b c d e:Prop):=Aa a b (Aa c d e);
 let Ac(a:Rn):=List.length a.2;
 let Ad(a:Rn):=List.length a.1;
 let Ae(a:Rn):=List.length a.21;
 let Af:=(0:Nat)=0;
 let Ah(a:Rn):=List.length a.18;
 let Ai:=Value.slice none 0 0;
 let Aj(a:Rn):=List.length a.15;
 let Ak:=ps.length;
 let Al(a b c d e f g h i:Prop):=Ab a b c d (Ab e f g h i);
 let Am:=List.length ev;
 let An(a b c d e f g h i j k l m n o p q:Prop):=Al a b c d e f g h (Al i j k l m n o p q);
 let Ao(a:Hn):=a.13.2;
 let Ap(a b c:Prop)(d e:Int)(f g h i j k l m n o p q r s t u v w x y z B C D E F G:Prop):=An a b c (d=e) f g h i j k l m n k o p (An p q r s t u v w x y z B C D E F G);
 let Aq(a:Tl):=List.length a.2.2;
 let Ar:=false=false;
 let Au(a:Tm)(b:Hn):=(zeu a b).1;
 let Aw:=(↑Ak:Int);
 let Ax(a:List (El [Ty.i IntKind.u64,Ty.i IntKind.i64,Ty.i IntKind.i64,Ty.i IntKind.u64])):=List.take 1 (List.drop 0 a);
 let Ay(a b c:Nat):=(Ad r,Ac r,a,b,c);
 let Az:=Ay (Aj r) (Ah r) (Ae r);
 let AB:=(A2 (caT A3) A9).2;
 let AC:=(A2 plT A8).2;
 let AD(a:Nat × Rn × Evs)(c:Hn)(d:Prop):=(pl=pl∧Ap Af (Ak=Ak) (Aw=Aw) (↑a.1:Int) (IntKind.i64.wrap ((↑i:Int)+1)) (b=b) (Ai=Ai) (Ai=Ai) (Ai=Ai) A5 A5 Ar Ar A5 A5 A5 Af (Ad (A4 a)=List.length c.1)
  Af (Ac (A4 a)=List.length c.2) ((A4 a).3=c.3) ((A4 a).4=c.4) ((A4 a).5=c.5) ((A4 a).6=c.6) ((A4 a).7=c.7) ((A4 a).8=c.8) ((A4 a).9=c.9) ((A4 a).10=c.10) ((A4 a).11=c.11) ((A4 a).12=c.12) ((A4 a).13=c.13.1.1) d) ∧
  Aa (RbI pl ps F E a.1 (A4 a) a.2.2) (Ak-a.1<Ak-i) (∀(x1:Unit),True→True);
 let AE(a:Nat × Rn × Evs)(b:Hn)(c:Tm)(d:Hn):=Ap ((A4 a).14=b.13.1.2.1) Af (Aj (A4 a)=Aq b.13.1) (A4 a).16 (Ao b).1.1 ((A4 a).17=(Ao b).1.2.1) Af (Ah (A4 a)=Aq (Ao b).1) ((A4 a).19=(Ao b).2.1)
  ((A4 a).20=(Ao b).2.2.1) Af (Ae (A4 a)=Aq (Ao b).2) Af (Ak=Ak) (List.length a.2.2=Am+(Ax ((r.3,r.4,Au c d,(A2 c d).1)::[])).length) (Ai=Ai) A5 A5 Ar Ar A5 A5 A5 A5 A5 ((A4 a).1=b.1) ((A4 a).2=b.2) ((A4
  a).15=b.13.1.2.2) ((A4 a).18=(Ao b).1.2.2) ((A4 a).21=(Ao b).2.2.2) (ps=ps) (a.2.2=List.take Am ev++Ax ((r.3,r.4,Au c d,(A2 c d).1)::[]));
 let AF:=evK (A0 r.13 r.14 r.15,A7,A6) A3;
 let AG:=Aa (Az=Az) (pl=false) (CaR A8 A3);
 let AH:=Aa (Az=Az) (pl=true) (CaR A8 A3);
 let AI(a:Prop)(b:Nat × Nat × Nat × Nat × Nat)(c:Tm)(d:Hn)(e:(Ty.i IntKind.u64).T × El [Ty.i IntKind.i64,Ty.i IntKind.i64,Ty.i IntKind.u64])(f:Prop):=a→Aa (b=b∧zil c d (r.4,r.5,r.6,r.7)) (Aa ((0:Nat)+(1 :
  Nat)≤(e::[]).length) (Am≤Am) (Am+(Ax (e::[])).length≤1073741824)) f;
 let AJ:=decide ((↑i:Int)<Aw);
 let AK:=Ai=Ai;
 (AJ=true→Ab ((0:Int)≤(↑i:Int)∧(↑i:Int)<Aw) (A1<Ak) (AG∨AH) (AI AG (Ay (Aq AF.1) (Aq AF.2.1) (Aq AF.2.2)) (caT A3) A9 (r.3,r.4,Au (caT A3) A9,(A2 (caT A3) A9).1) (∃(x0:Nat × Rn × Evs),AD x0 AB (AE x0
  AB (caT A3) A9))) (AI AH Az plT A8 (r.3,r.4,Au plT A8,(A2 plT A8).1) (∃(x2:Nat × Rn × Evs),AD x2 AC (AE x2 AC plT A8))))∧(AJ=false→∃(x3:Unit),Ab (b=b) AK AK AK (Al A5 A5 Ar Ar A5 A5 A5 A5 (An A5 Af (Ad F=Ad r) Af
  (Ac F=Ac r) (F.3=r.3) (F.4=r.4) (F.5=r.5) (F.6=r.6) (F.7=r.7) (F.8=r.8) (F.9=r.9) (F.10=r.10) (F.11=r.11) (F.12=r.12) (F.13=r.13) (Ap (F.14=r.14) Af (Aj F=Aj r) F.16 r.16 (F.17=r.17) Af (Ah F=Ah r) (F.19 =
  r.19) (F.20=r.20) Af (Ae F=Ae r) Af (Ak=Ak) (List.length E=Am) AK A5 A5 Ar Ar A5 A5 A5 A5 A5 (F.1=r.1) (F.2=r.2) (F.15=r.15) (F.18=r.18) (F.21=r.21) (ps=ps) (E=ev))))∧True)):=by kernel_rfl
theorem zyi(b:By)(pl:Bool)(ps:List Int)(F:Rn)(E:Evs):yo0 b pl ps F E=(
 let A0:=(zhx b).2;
 let A1(a:Nat × Rn × Evs):=a.2.1;
 let A2:=A0.2.2;
 let A3:=(0:Int)=0;
 let A4:=A2.2.2.2.2;
 let A5:=(0:Nat)=0;
 let A6:=A4.2.2.2.2;
 let A7(a b c:Prop):=a∧b∧c;
 let A8:=A6.2.2.2.2;
 let A9:=Value.slice none 0 0;
 let Aa:=A8.2.2;
 let Ab(a b c d e f g h i j k l m n o p q:Prop):=A7 a b (A7 c d (A7 e f (A7 g h (A7 i j (A7 k l (A7 m n (A7 o p q)))))));
 let Ac(a:By):=List.length a=List.length a;
 let Ad:=Aa.2.2.2;
 let Ae(a:Es)(b:(Cs.sl shE).T):=List.length a=List.length b;
 let Af:=false=false;
 let Ah:=ps.length=List.length Ad.2;
 let Ai:=A9=A9;
 let Aj:=A6.2.2.2.1;
 (Ac b∧zaj b)∧∃(x0:Nat × Rn × Evs),A7 (pl=pl∧Ab A5 Ah ((↑ps.length:Int)=(↑(List.length Ad.2):Int)) ((↑x0.1:Int)=0) (b=b) Ai Ai Ai A3 A3 Af Af A3 A3 A3 A3 (Ab A3 A5 (List.length (A1 x0).1=List.length
  (zhx b).1) A5 (List.length (A1 x0).2=List.length A0.1) ((A1 x0).3=A0.2.1) ((A1 x0).4=A2.1) ((A1 x0).5=A2.2.1) ((A1 x0).6=A2.2.2.1) ((A1 x0).7=A2.2.2.2.1) ((A1 x0).8=A4.1) ((A1 x0).9 =
  A4.2.1) ((A1 x0).10=A4.2.2.1) ((A1 x0).11=A4.2.2.2.1) ((A1 x0).12=A6.1) ((A1 x0).13=A6.2.1) (Ab ((A1 x0).14=A6.2.2.1) A5 (Ae (A1 x0).15 Aj) ((A1 x0).16=A8.1) ((A1 x0).17=A8.2.1) A5
  (Ae (A1 x0).18 Aa.1) ((A1 x0).19=Aa.2.1) ((A1 x0).20=Aa.2.2.1) A5 (Ae (A1 x0).21 Ad.1) A5 Ah A5 (List.length x0.2.2=0) Ai (Ab Ai A3 A3 Af Af A3 A3 A3 A3 A3 ((A1 x0).1=(zhx b).1) ((A1 x0).2 =
  A0.1) ((A1 x0).15=Aj) ((A1 x0).18=Aa.1) ((A1 x0).21=Ad.1) (ps=Ad.2) (x0.2.2=[]))))) (RbI pl ps F E x0.1 (A1 x0) x0.2.2) (∀(x1:Unit),True→A7 A5 (List.length E=List.length E) (Ab A5 (Ac F.1) A5
  (List.length F.2=List.length F.2) (F.3=F.3) (F.4=F.4) (F.5=F.5) (F.6=F.6) (F.7=F.7) (F.9=F.9) (F.10=F.10) (F.11=F.11) (F.12=F.12) (b=b) (E=E) (F.1=F.1) (F.2=F.2)))):=by kernel_rfl
theorem zsa(b:By)(pl:Bool)(ps:List Int)(F:Rn)(E:Evs)(i:Nat)(r:Rn)(ev:Evs):zp6 b pl ps F E i r ev=(
 let A0:=Rn.mk r.1 r.2 r.3 r.4 r.5 r.6 r.7 r.8 r.9 r.10 r.11 r.12 r.13 r.14 r.15 r.16 r.17 r.18 r.19 r.20 r.21 false 0 0 0 [] false false 0 false 0;
 let A1:=(0:Int)=0;
 let A2(a:Nat × Rn × Evs):=a.2.1;
 let A3(a b c:Prop):=a∧b∧c;
 let A4(a b c d e:Prop):=A3 a b (A3 c d e);
 let A5:=Value.slice none 0 0;
 let A6:=(0:Nat)=0;
 let A7(a b:Es):=List.length a=List.length b;
 let A8(a b c d e f g h i:Prop):=A4 a b c d (A4 e f g h i);
 let A9:=List.length ev;
 let Aa(a b c d e f g h i j k l m n o p q:Prop):=A8 a b c d e f g h (A8 i j k l m n o p q);
 let Ab:=ps.length;
 let Ac:=zcy A0 pl (ps.getD ((0:Nat)+(↑i:Int).toNat) (El.zero (Ty.i IntKind.i64::[])));
 let Ad:=(↑i:Int);
 let Ae(a b c d e f:Int)(g h i:Prop)(j k:Int)(l m n:Prop)(o p:Int)(q r s t u v w x y z B:Prop)(C D E F:Es)(G H:Prop):=Aa (a=b) (c=d) (e=f) g h i (j=k) l m n (o=p) q r s t u (Aa (A5=A5) v A1 w (false =
  false) x A1 A1 A1 A1 y z B (C=D) (E=F) G H);
 let Af:=false=false;
 let Ah:=A5=A5;
 let Ai:=decide (Ad<(↑Ab:Int));
 let Aj:=(0:Nat)+(↑i:Int).toNat;
 let Ak:=(r.3,r.4,Ac.24,Ac.25)::[];
 let Al(a b:Rn):=List.length a.1=List.length b.1;
 let Am(a b:Rn):=List.length a.2=List.length b.2;
 let An:=A9+(List.take 1 (List.drop 0 ((r.3,r.4,Ac.24,Ac.25)::[]))).length;
 (Ai=true→A4 ((0:Int)≤Ad∧Ad<(↑Ab:Int)) (Aj<Ab) (Al r r∧A4 (Am r r) (A7 r.15 r.15) (A7 r.18 r.18) (A7 r.21 r.21) (zsu A0 (ps.getD Aj (El.zero (Ty.i IntKind.i64::[]))))) (A3 ((0:Nat)+1≤Ak.length) (A9≤A9)
  (An≤1073741824)) (∃(x0:Nat × Rn × Evs),A3 (pl=pl) ((↑x0.1:Int)=IntKind.i64.wrap (Ad+1)) (A4 (b=b) Ah Ah Ah (A8 A1 A1 Af Af A1 A1 A1 A1 (Aa A1 A6 (Ab=Ab) A6 (Al (A2 x0) Ac) A6 (Am (A2 x0) Ac) ((A2
  x0).3=Ac.3) ((A2 x0).4=Ac.4) ((A2 x0).5=Ac.5) ((A2 x0).6=Ac.6) ((A2 x0).7=Ac.7) ((A2 x0).8=Ac.8) ((A2 x0).9=Ac.9) ((A2 x0).10=Ac.10) ((A2 x0).11=Ac.11) (Ae (A2 x0).12 Ac.12 (A2 x0).13 Ac.13 (A2 x0).14 Ac.14 A6
  (A7 (A2 x0).15 Ac.15) ((A2 x0).16=Ac.16) (A2 x0).17 Ac.17 A6 (A7 (A2 x0).18 Ac.18) ((A2 x0).19=Ac.19) (A2 x0).20 Ac.20 A6 (A7 (A2 x0).21 Ac.21) A6 (List.length x0.2.2=An) Ah A1 Af A1 ((A2 x0).1=Ac.1) ((A2 x0).2=Ac.2)
  ((A2 x0).15=Ac.15) (A2 x0).18 Ac.18 (A2 x0).21 Ac.21 (ps=ps) (x0.2.2=List.take A9 ev++List.take 1 (List.drop 0 Ak))))))∧A3 (RbI pl ps F E x0.1 (A2 x0) x0.2.2) (Ab-x0.1<Ab-i) (∀(x1 :
  Unit),True→True)))∧(Ai=false→∃(x2:Unit),(b=b∧A8 Ah Ah Ah A1 A1 Af Af A1 (Aa A1 A1 A1 A1 A6 (Al F r) A6 (Am F r) (F.3=r.3) (F.4=r.4) (F.5=r.5) (F.6=r.6) (F.7=r.7) (F.8=r.8) (F.9=r.9) (F.10=r.10) (Ae F.11
  r.11 F.12 r.12 F.13 r.13 (F.14=r.14) A6 (A7 F.15 r.15) F.16 r.16 (F.17=r.17) A6 (A7 F.18 r.18) F.19 r.19 (F.20=r.20) A6 (A7 F.21 r.21) A6 (List.length E=A9) Ah A1 Af A1 (F.1=r.1) (F.2=r.2) F.15 r.15 F.18 r.18 (F.21=r.21) (E =
  ev))))∧True)):=by kernel_rfl
theorem zy3(b:By)(pl:Bool)(ps:List Int)(F:Rn)(E:Evs):ypc b pl ps F E=(
 let A0:=(zhx b).2;
 let A1(a:Nat × Rn × Evs):=a.2.1;
 let A2:=A0.2.2;
 let A3:=(0:Int)=0;
 let A4:=A2.2.2.2.2;
 let A5(a b c:Prop):=a∧b∧c;
 let A6(a b c d e:Prop):=A5 a b (A5 c d e);
 let A7:=(0:Nat)=0;
 let A8:=A4.2.2.2.2;
 let A9:=A8.2.2.2;
 let Aa:=Value.slice none 0 0;
 let Ab(a b c d e f g h i:Prop):=A6 a b c d (A6 e f g h i);
 let Ac(a:By):=List.length a=List.length a;
 let Ad:=A9.2.2.2.2;
 let Ae(a b c d e f g h i j k l m n o p q:Prop):=Ab a b c d e f g h (Ab i j k l m n o p q);
 let Af(a:Es)(b:(Cs.sl shE).T):=List.length a=List.length b;
 let Ah:=false=false;
 let Ai:=Ad.2.2.2;
 let Aj:=Aa=Aa;
 let Ak:=Ad.2.2.1;
 let Al:=A9.2.2.2.1;
 (Ac b∧zaj b)∧∃(x0:Nat × Rn × Evs),A5 (A5 (pl=pl) ((↑x0.1:Int)=0) (A6 (b=b) Aj Aj Aj (Ab A3 A3 Ah Ah A3 A3 A3 A3 (Ae A3 A7 (ps.length=List.length Ai) A7 (List.length (A1 x0).1=List.length (zhx b).1) A7
  (List.length (A1 x0).2=List.length A0.1) ((A1 x0).3=A0.2.1) ((A1 x0).4=A2.1) ((A1 x0).5=A2.2.1) ((A1 x0).6=A2.2.2.1) ((A1 x0).7=A2.2.2.2.1) ((A1 x0).8=A4.1) ((A1 x0).9=A4.2.1) ((A1
  x0).10=A4.2.2.1) ((A1 x0).11=A4.2.2.2.1) (Ae ((A1 x0).12=A8.1) ((A1 x0).13=A8.2.1) ((A1 x0).14=A8.2.2.1) A7 (List.length (A1 x0).15=List.length A9.1) ((A1 x0).16=A9.2.1) ((A1 x0).17 =
  A9.2.2.1) A7 (Af (A1 x0).18 Al) ((A1 x0).19=Ad.1) ((A1 x0).20=Ad.2.1) A7 (Af (A1 x0).21 Ak) A7 (List.length x0.2.2=0) Aj (Ae Aj A3 A3 Ah Ah A3 A3 A3 A3 A3 ((A1 x0).1=(zhx b).1) ((A1 x0).2=A0.1)
  ((A1 x0).15=A9.1) ((A1 x0).18=Al) ((A1 x0).21=Ak) (ps=Ai) (x0.2.2=[]))))))) (RbI pl ps F E x0.1 (A1 x0) x0.2.2) (∀(x1:Unit),True→A5 A7 (List.length E=List.length E) (Ae A7 (Ac F.1) A7 (List.length F.2 =
  List.length F.2) (F.3=F.3) (F.4=F.4) (F.5=F.5) (F.6=F.6) (F.7=F.7) (F.9=F.9) (F.10=F.10) (F.11=F.11) (F.12=F.12) (b=b) (E=E) (F.1=F.1) (F.2=F.2)))):=by kernel_rfl
set_option linter.unusedSimpArgs false
set_option linter.unusedVariables false
theorem yw3(u:Us):(u.set 0 0).getD 0 0=0:=by cases u<;>rfl
theorem yzv{M:Tm}{r:Hn}{c:Ct}{nx:Int}(h:(zco M r c nx).1=0):(zco M r c nx).2.2.1.u.getD 0 0=0:=by
 revert h
 unfold zco yp0
 generalize zid M r c=F
 by_cases q:F.1=0
 · rw[if_neg (fun z=>z q)]
   split
   · intro h;exact absurd h (show ¬ (2:Int)=0 by decide)
   · generalize opM M F.2.2 c (zz8 F.2.2 F.2.1) (IntKind.u64.wrap (F.2.2.pc+4))=O
     intro h
     have h:O.1=0:=h
     show (if O.1=0 then O.2.2.1.zero else O.2.2.1).u.getD 0 0=0
     rw[if_pos h]
     exact yw3 _
 · rw[if_pos q]
   intro h
   exact absurd h q
theorem yje{M:Tm}{pl:Bool}{pk:Int}(T:Tel M pl pk){r:Rn}(h:Run pl pk (r.first pl pk))(hk:(r.first pl pk).ks.length+3≤2097152)(hu:r.u.getD 0 0=0):(zcy r pl pk).u.getD 0 0=0:=by
 obtain⟨z1,z2⟩:=zzy T h hk 0
 unfold zcy
 by_cases q:(zbd (r.first pl pk)).cs=0
 · obtain⟨a1,a2,a3⟩:=z1 q
   rw[if_pos q]
   have e:(zco M ((r.first pl pk).hp (r.first pl pk).pc) (r.first pl pk).c 0).2.2.1.u=(zbd (r.first pl pk)).u:=congrArg Hn.u a3
   rw[← e]
   exact yzv a1
 · rw[if_neg q]
   exact hu
theorem yup{h:Ha}(v:HaV h)(hu:(Rn.ofH h).u.getD 0 0=0){pk:Int}(p0:0≤pk)(p1:pk≤255)(pl:Bool):(zcy (Rn.ofH h) pl pk).u.getD 0 0=0:=by
 obtain⟨h1,h2⟩:=zhe v hu p0 p1 pl
 cases pl with
 | false=>exact yje (yjj p0 p1) h1 h2 hu
 | true=>exact yje (yjk pk) h1 h2 hu
theorem RbI.next{pl:Bool}{ps:List Int}{F:Rn}{E:Evs}{i:Nat}{r:Rn}{ev:Evs}(h:RbI pl ps F E i r ev)(hi:i<ps.length):∃p,ps.getD (0+(i:Int).toNat) (El.zero [.i .i64])=p∧0≤p∧p≤255 ∧
 RbI pl ps F E (i+1) (zcy (Rn.ofH r.h) pl p) (ev++[(r.pc,r.mo,(zcy (Rn.ofH r.h) pl p).cs,(zcy (Rn.ofH r.h) pl p).tw)]):=by
 obtain⟨a1,a2,a3,a4,a5,a6,a7,a8⟩:=h
 have e:ps.getD (0+(i:Int).toNat) (El.zero [.i .i64])=ps[i]:=by
  rw[show 0+(i:Int).toNat=i by omega,List.getD_eq_getElem?_getD,List.getElem?_eq_getElem hi]
  rfl
 obtain⟨p0,p1⟩:=a3 ps[i] (List.getElem_mem hi)
 have ed:ps.drop i=ps[i]::ps.drop (i+1):=List.drop_eq_getElem_cons hi
 rw[ed] at a7 a8
 refine⟨ps[i],e,p0,p1,hi,a2,a3,a4.next p0 p1 pl,yup a4 a5 p0 p1 pl,by rw[List.length_append,a6];rfl,a7, ?_⟩
 rw[List.append_assoc]
 exact a8
theorem yuc:zar Tryz.prog kJA0 := .cons (by kernel_rfl) yya (.cons (by kernel_rfl) yu9 (.cons (by kernel_rfl) (zew yz9) (.cons (by kernel_rfl) yhm .nil)))
theorem yen:DictOk Tryz.prog yxi:=zay yuc (.cons (by kernel_rfl) (fun k=>zew (mk_ok (mkN k))) .nil) .nil
theorem ca_of{r:Rn}(v:HaV r.h){pk:Int}(p0:0≤pk)(p1:pk≤255):CaR (Hn.mk r.m r.u r.pc r.mo r.su r.mx r.sa r.tv r.ep r.em r.ca r.tl ((r.s1,r.w1,r.m1),(r.s2,r.w2,r.m2),r.s3,r.w3,r.m3) [] []) pk:=by
 obtain⟨g1,g2,g3⟩:=zdo.1 v.2.2.1
 have l1:=zfi g1
 have l2:=zfi g2
 have l3:=zfi g3
 exact⟨p0,p1,⟨l1.1,Nat.le_trans l1.2 (by decide)⟩,⟨l2.1,Nat.le_trans l2.2 (by decide)⟩,⟨l3.1,Nat.le_trans l3.2 (by decide)⟩⟩
theorem yg4{b:By}{pl:Bool}{ps:List Int}{F:Rn}{E:Evs}{i:Nat}{r:Rn}{ev:Evs}(h:RbI pl ps F E i r ev):zp5 b pl ps F E i r ev:=by
 obtain⟨a1,a2,a3,a4,a5,a6,a7,a8⟩:=id h
 refine zab (zrz b pl ps F E i r ev) ?_
 conv=>zeta
 refine⟨fun c => ?_,fun c => ?_⟩
 · have c:(i:Int)<ps.length:=of_decide_eq_true c
   obtain⟨p,ep,p0,p1,hn⟩:=h.next (by omega)
   rw[ep]
   have hca:=ca_of a4 p0 p1
   have hbd:∀x:Int × Int × Int × Int,0+1≤[x].length∧ev.length≤ev.length∧ev.length+(List.take 1 (List.drop 0 [x])).length≤1073741824:=fun x=>⟨Nat.le_refl _,Nat.le_refl _,by show ev.length+1≤_;omega⟩
   have hw:((i+1:Nat):Int)=IntKind.i64.wrap ((i:Int)+1):=(zaa (by omega) (by omega)).symm
   have hap:∀x:Int × Int × Int × Int,ev++[x]=List.take ev.length ev++List.take 1 (List.drop 0 [x]):=fun x=>by rw[List.take_length];rfl
   refine⟨⟨by omega,c⟩,by omega, ?_,fun d => ?_,fun d => ?_⟩
   · cases pl with
     | false=>exact .inl ⟨rfl,rfl,hca⟩
     | true=>exact .inr ⟨rfl,rfl,hca⟩
   · obtain⟨-,rfl, -⟩:=d
     have e:zeu (caT p) (Hn.mk r.m r.u r.pc r.mo r.su r.mx r.sa r.tv r.ep r.em r.ca r.tl (evK ((r.s1,r.w1,r.m1),(r.s2,r.w2,r.m2),r.s3,r.w3,r.m3) p) [] [])=_:=yvk a4 a5 p0 p1
     obtain⟨h1, -⟩:=zhe a4 a5 p0 p1 false
     have hq:=yiu (yjj p0 p1) h1
     rw[(zz6 r.h p).1,(zz6 r.h p).2] at hq
     rw[e]
     refine⟨⟨rfl,hq⟩,hbd _,(i+1,zcy (Rn.ofH r.h) false p,_), ?_,hn,by show ps.length-(i+1)<_;omega,fun _ _=>trivial⟩
     repeat' apply And.intro
     all_goals first|rfl|exact hw|exact hap _|(rw[List.length_append];rfl)
   · obtain⟨-,rfl, -⟩:=d
     have e:zeu plT (Hn.mk r.m r.u r.pc r.mo r.su r.mx r.sa r.tv r.ep r.em r.ca r.tl ((r.s1,r.w1,r.m1),(r.s2,r.w2,r.m2),r.s3,r.w3,r.m3) [] [])=_:=yvl a4 a5 p0 p1
     obtain⟨h1, -⟩:=zhe a4 a5 p0 p1 true
     have hq:=yiu (yjk p) h1
     rw[(zz7 r.h p).1,(zz7 r.h p).2] at hq
     rw[e]
     refine⟨⟨rfl,hq⟩,hbd _,(i+1,zcy (Rn.ofH r.h) true p,_), ?_,hn,by show ps.length-(i+1)<_;omega,fun _ _=>trivial⟩
     repeat' apply And.intro
     all_goals first|rfl|exact hw|exact hap _|(rw[List.length_append];rfl)
 · have c:¬ (i:Int)<ps.length:=of_decide_eq_false c
   have ed:ps.drop i=[]:=List.drop_eq_nil_of_le (by omega)
   rw[ed] at a7 a8
   have a8:ev++[]=E:=a8
   rw[List.append_nil] at a8
   subst a8
   have a7:r.h=F.h:=a7
   clear h a1 a2 a3 a4 a5
   cases r;cases F;cases a7
   refine⟨(), ?_,trivial⟩
   repeat' apply And.intro
   all_goals rfl
theorem yja{b:By}{pl:Bool}{ps:List Int}{F:Rn}{E:Evs}{i:Nat}{r:Rn}{ev:Evs}(h:RbI pl ps F E i r ev):zp6 b pl ps F E i r ev:=by
 obtain⟨a1,a2,a3,a4,a5,a6,a7,a8⟩:=id h
 refine zab (zsa b pl ps F E i r ev) ?_
 conv=>zeta
 refine⟨fun c => ?_,fun c => ?_⟩
 · have c:(i:Int)<ps.length:=of_decide_eq_true c
   obtain⟨p,ep,p0,p1,hn⟩:=h.next (by omega)
   rw[ep]
   have hbd:∀x:Int × Int × Int × Int,0+1≤[x].length∧ev.length≤ev.length∧ev.length+(List.take 1 (List.drop 0 [x])).length≤1073741824:=fun x=>⟨Nat.le_refl _,Nat.le_refl _,by show ev.length+1≤_;omega⟩
   have hw:((i+1:Nat):Int)=IntKind.i64.wrap ((i:Int)+1):=(zaa (by omega) (by omega)).symm
   have hap:∀x:Int × Int × Int × Int,ev++[x]=List.take ev.length ev++List.take 1 (List.drop 0 [x]):=fun x=>by rw[List.take_length];rfl
   refine⟨⟨by omega,c⟩,by omega,⟨rfl,rfl,rfl,rfl,rfl,a4.step p0 p1⟩,hbd _,(i+1,zcy (Rn.ofH r.h) pl p,_), ?_,hn,by show ps.length-(i+1)<_;omega,fun _ _=>trivial⟩
   repeat' apply And.intro
   all_goals first|rfl|exact hw|exact hap _|(rw[List.length_append];rfl)
 · have c:¬ (i:Int)<ps.length:=of_decide_eq_false c
   have ed:ps.drop i=[]:=List.drop_eq_nil_of_le (by omega)
   rw[ed] at a7 a8
   have a8:ev++[]=E:=a8
   rw[List.append_nil] at a8
   subst a8
   have a7:r.h=F.h:=a7
   clear h a1 a2 a3 a4 a5
   cases r;cases F;cases a7
   refine⟨(), ?_,trivial⟩
   repeat' apply And.intro
   all_goals rfl
def yrp(b:By)(pl:Bool):Rn:=Rn.ofH (goR pl (yrq (zhx b)) (ya3 (zhx b)))
def yro(b:By)(pl:Bool):Evs:=evR pl (yrq (zhx b)) (ya3 (zhx b))
def yco(b:By)(pl:Bool):Re:=reF (yrp b pl) (yro b pl)
theorem yas{b:By}(hb:zaj b)(pl:Bool):RbI pl (ya3 (zhx b)) (yrp b pl) (yro b pl) 0 (Rn.ofH (yrq (zhx b))) []:=by
 obtain⟨v,hp,hl⟩:=yft hb
 exact⟨Nat.zero_le _,hl,hp,v,yyb b,rfl,rfl,rfl⟩
theorem ym7:Sound Tryz.prog 21 (zai [byP,bl] [reP] (fun t=>some (zaj t.1)) (fun t=>yco t.1 t.2)):=by
 refine zbl mixed Tryz.func21 (by kernel_rfl) (b:=zag Tryz.f21 0) (k:=5) (by kernel_rfl) (by kernel_rfl) (by kernel_rfl) yen (fun t h => ?_)
 obtain⟨b,pl⟩:By × Bool:=t
 have hb:zaj b:=h
 refine⟨.one 5 (yyz b pl (ya3 (zhx b)) (yrp b pl) (yro b pl)),yyz b pl (ya3 (zhx b)) (yrp b pl) (yro b pl),fun x:Nat × Rn × Evs=>(ya3 (zhx b)).length-x.1,za3 _ _,fun  (x:Nat × Rn × Evs) hx=>yg4 (i:=x.1) (r:=x.2.1) (ev:=x.2.2) hx, ?_⟩
 refine zab (zyi b pl (ya3 (zhx b)) (yrp b pl) (yro b pl)) ?_
 conv=>zeta
 refine⟨⟨rfl,hb⟩,(0,Rn.ofH (yrq (zhx b)),[]), ?_,yas hb pl,fun _ _ => ?_⟩
 · repeat' apply And.intro
   all_goals rfl
 · repeat' apply And.intro
   all_goals rfl
theorem yn5:Sound Tryz.prog 19 (zai [byP,bl] [reP] (fun t=>some (zaj t.1)) (fun t=>yco t.1 t.2)):=by
 refine zbl mixed Tryz.func19 (by kernel_rfl) (b:=zag Tryz.f19 0) (k:=5) (by kernel_rfl) (by kernel_rfl) (by kernel_rfl) yen (fun t h => ?_)
 obtain⟨b,pl⟩:By × Bool:=t
 have hb:zaj b:=h
 refine⟨.one 5 (yz8 b pl (ya3 (zhx b)) (yrp b pl) (yro b pl)),yz8 b pl (ya3 (zhx b)) (yrp b pl) (yro b pl),fun x:Nat × Rn × Evs=>(ya3 (zhx b)).length-x.1,za3 _ _,fun  (x:Nat × Rn × Evs) hx=>yja (i:=x.1) (r:=x.2.1) (ev:=x.2.2) hx, ?_⟩
 refine zab (zy3 b pl (ya3 (zhx b)) (yrp b pl) (yro b pl)) ?_
 conv=>zeta
 refine⟨⟨rfl,hb⟩,(0,Rn.ofH (yrq (zhx b)),[]), ?_,yas hb pl,fun _ _ => ?_⟩
 · repeat' apply And.intro
   all_goals rfl
 · repeat' apply And.intro
   all_goals rfl
end Go.Proofs.YtfiddfbagbaofaaGreat.V
