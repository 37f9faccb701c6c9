/- The program's step: one instruction. Conditions: those in each statement. -/
import Derived.Test.YtfiddfbagbaofaaGreatIB
import Derived.KernelRfl
namespace Go.Proofs.YtfiddfbagbaofaaGreat.V
open Go
def kIC0(M:Tm):Known:=[
 (218,fetS M false),
 (219,zai [u64,u64,i64] [bl] (fun _=>none) (fun t=>zc5 t.1 t.2.1 t.2.2)),
 (221,accS M false),
 (220,ldS M),
 (222,stS M),
 (156,zai [u64] [bl] (fun s=>some (U64 s)) zbu),
 (zcs+1,yym M)]
def FIC0(M:Tm):Dict:=mkD (kIC0 M) [] [(218,(1,fun _=>fetS M true)),(221,(1,fun _=>accS M true))]
abbrev Fq:=Int × Int × Int × Int × Int × Int
def runX(M:Tm)(c:Ct):Specs:={ Specs.none with
 cut:=fun k=>if k=9 then some (CutS.mk (Fq × Hn × Int) (fun z=>slots 267 [(0,.ptr 0 0),(2,.ptr 1 0),(4,.v (.int .u64 z.1.1)),(5,.v (.int .u64 z.1.2.1)),(6,.v (.int .u64 z.1.2.2.1)),(7,.v (.int .u64 z.1.2.2.2.1)),(8,.v (.int .u64 z.1.2.2.2.2.1)),(9,.sl 3 1 0 z.2.1.u.length),(10,.v (.int .u64 z.1.2.2.2.2.2))]) (fun z=>zh5 M z.2.1 c z.2.2)) else none
 blk:=fun k=>if k=0 then some (CutS.mk (Hn × Int) (fun z=>slots 267 [(9,.sl 3 1 0 z.1.u.length)]) (fun z=>zh5 M z.1 c z.2)) else none }
def yr5(M:Tm)(r:Hn)(c0:Int)(c1 c2:Bool)(c3 nx e v:Int)(z:Hn)(y:Int):Prop:=zku Tryz.prog (FIC0 M) (runX M (c0,c1,c2,c3)) Tryz.f177 [.ptr 0 0] (zh5 M r (c0,c1,c2,c3) nx) [⟨false,.tup [],zh5 M z (c0,c1,c2,c3) y,e=0⟩,⟨true,zjz e v,paH M z,¬ e=0⟩]
set_option linter.unusedVariables false
set_option maxRecDepth 10000
theorem yk5(M:Tm)(r:Hn)(c0:Int)(c1 c2:Bool)(c3 nx e v:Int)(z:Hn)(y:Int):yr5 M r c0 c1 c2 c3 nx e v z y=(
 let A0(a:Fq × Hn × Int):=a.2.1;
 let A1(a:Int):=IntKind.u64.wrap a;
 let A2(a:Fq × Hn × Int):=a.1.2.2;
 let A3(a:Nat):=(0:Nat)+a;
 let A4(a:Hn):=List.length a.2;
 let A5(a b:Int):=bits BinOp.and IntKind.u64 a b;
 let A6(a:Us)(b:Nat):=List.getD a (A3 b) (El.zero (Ty.i IntKind.u64::[]));
 let A7(a:Tl):=List.length a.2.2;
 let A8(a:Hn):=a.13.2.2;
 let A9(a:Fq × Hn × Int):=(A0 a).2;
 let Aa(a:Hn):=a.13.1;
 let Ab(a:Fq × Hn × Int):=(A2 a).2.2.1;
 let Ac(a:Hn):=a.13.2.1;
 let Ad(a:Int × Int × Hn × Qs):=a.2.2.1;
 let Ae(a b c:Prop):=a∧b∧c;
 let Af:=(c0,c1,c2,c3);
 let Ah(a:Fq × Hn × Int)(b c:Int):=zc8 M (A0 a) Af 2 b c;
 let Ai(a:Fq × Hn × Int):=(A2 a).2.1;
 let Aj(a:Fq × Hn × Int):=A6 (A9 a) (A2 a).1.toNat;
 let Ak(a b c d e:Prop):=Ae a b (Ae c d e);
 let Al:=(0:Nat)=0;
 let Am(a:Int):=(2:Int) ^ (min a.toNat 64);
 let An(a:Hn):=List.length a.1;
 let Ao(a:Fq × Hn × Int):=A5 (Ai a) 3;
 let Ap(a:Tl):=a.2.1;
 let Aq(a:Fq × Hn × Int):=A1 ((1:Int)*Am (Ao a));
 let Ar(a:Tl):=a.2.2;
 let Au(a:Fq × Hn × Int):=A1 (Aj a+Ab a);
 let Aw(a b c d e f g h i:Prop):=Ak a b c d (Ak e f g h i);
 let Ax(a:Hn):=A7 (Ac a);
 let Ay(a:Fq × Hn × Int):=A4 (A0 a);
 let Az(a b c d e f g h i j k l m n o p q:Prop):=Aw a b c d e f g h (Aw i j k l m n o p q);
 let AB(a:Hn × Int):=Aa a.1;
 let AC(a:Hn):=A7 (A8 a);
 let AD(a:Fq × Hn × Int):=Aa (A0 a);
 let AE(a:Fq × Hn × Int):=zc8 M (A0 a) Af 1 (Au a) (Aq a);
 let AF(a b c d e f g h i j k l m n o p q:Prop)(r s:Hn)(t:By)(u:Prop)(v w:Tl):=Az Al a b c d e f g h i j k l m Al n (Az o p Al q ((A8 r).1=(A8 s).1) (Ap (A8 r)=Ap (A8 s)) Al (AC r=AC s) (r.1=t) u (Ar v=Ar w)
  (Ar (Ac r)=Ar (Ac s)) (Ar (A8 r)=Ar (A8 s)) (r.14=s.14) (M.2=M.2) (r.15=s.15) (M.3=M.3));
 let AG(a:Hn):=Ap (Ac a);
 let AH(a:Hn):=(Ac a).1;
 let AI(a b c d e f g h i j k l m:Prop)(n o:Tl)(p q:Hn)(r:Prop):=AF a b c d e f g h i j k l m (A7 n=A7 o) (AH p=AH q) (AG p=AG q) (Ax p=Ax q) p q q.1 r n o;
 let AJ(a:Fq × Hn × Int):=a.1.2.1;
 let AK(a:Hn × Int):=A4 a.1;
 let AL(a:Int):=(0:Int)≤a;
 let AM(a:Hn)(b:Nat)(c:Tl):=(An a,b,A7 c,Ax a,AC a);
 let AN(a:Int):=a=0;
 let AO(a:Fq × Hn × Int):=Ad (Ah a (Au a) 8);
 let AP:=(zid M r Af).2.2;
 let AQ(a b c d e f g h i j k l m:Prop)(n:Hn × Int)(o:Fq × Hn × Int)(p:Prop):=AI a b c d e f g h i j k l m (AB n) (AD o) n.1 (A0 o) p;
 let AR(a:Fq × Hn × Int):=(A2 a).2.2.2;
 let AS(a:Fq × Hn × Int):=Ad (AE a);
 let AT(a:Int):=A3 a.toNat;
 let AU(a:Int × Int × Hn × Qs):=a.2.2.2;
 let AV(a:Hn × Int)(b:Fq × Hn × Int):=AK a=Ay b;
 let AW(a b c d e f g h i j k l m:Prop)(n:Tl)(o p:Hn)(q:Prop):=AI a b c d e f g h i j k l m n (Aa o) p o q;
 let AX(a:Fq × Hn × Int):=Ad (Ah a (Au a) (Aq a));
 let AY(a:Int × Int × Hn × Qs):=List.length (AU a);
 let AZ(a b:Tl):=Ap a=Ap b;
 let B0(a:Int)(b:Tl):=a=b.1;
 let B1(a:Fq × Hn × Int):=AM (A0 a) (Ay a) (AD a);
 let B2(a:Hn × Int)(b:Tl):=B0 (AB a).1 b;
 let B3(a:Hn × Int)(b:Tl):=AZ (AB a) b;
 let B4(a:Fq × Hn × Int):=An (A0 a);
 let B5(a:Fq × Hn × Int):=bits BinOp.and IntKind.u64 (Aj a) 65535;
 let B6:=M.1=M.1;
 let B7(a:Hn × Int)(b:Fq × Hn × Int)(c:Int)(d:Nat)(e f:Prop):=Ae Al (AV a b) (Aw (c0=c0) (c1=c1) (c2=c2) (c3=c3) B6 (a.2=c) Al (An a.1=d) e)∧f;
 let B8(a b:Prop)(c:Fq × Hn × Int)(d e:Int)(f:Prop):=Ae B6 (M.2=M.2) a∧Ae b (ylz M (A0 c) Af d (Au c) e) f;
 let B9(a:Hn × Int)(b:Fq × Hn × Int)(c:Nat)(d e:Prop):=B7 a b b.2.2 c d e;
 let Ba(a:Fq × Hn × Int):=AT (AJ a);
 let Bb(a:Int)(b:Fq × Hn × Int):=AL a∧a<(↑(Ay b):Int);
 let Bc(a:Int × Int × Hn × Qs):=AN a.1;
 let Bd(a:Hn × Int)(b:Fq × Hn × Int):=B3 a (AD b);
 let Be(a:Hn × Int)(b:Fq × Hn × Int):=B2 a (AD b);
 let Bf(a:Int)(b:Hn):=a=b.10;
 let Bg(a b:Int):=Value.agg ({ toList:=(Value.int IntKind.i64 a::Value.int IntKind.u64 b::[]) });
 let Bh(a:Fq × Hn × Int):=Ah a (Au a) 8;
 let Bi(a:Hn × Int)(b:Hn):=Bf a.1.10 b;
 let Bj(a:Hn × Int)(b:Fq × Hn × Int):=Bi a (A0 b);
 let Bk(a:Fq × Hn × Int):=(A0 a).3;
 let Bl(a:Hn × Int)(b:Hn):=a.1.8=b.8;
 let Bm(a:Hn × Int)(b:Fq × Hn × Int):=Bl a (A0 b);
 let Bn(a:Hn × Int)(b:Int):=a.1.9=b;
 let Bo(a:Fq × Hn × Int):=M.fe (AJ a != 0,AR a,(A2 a).1 != 0,B5 a) (A0 a).13 (A0 a).14 (A0 a).15;
 let Bp(a:Hn × Int)(b:Fq × Hn × Int):=a.1.3=Bk b;
 let Bq(a:Hn × Int):=a.1.2;
 let Br(a:Hn × Int)(b:Int):=a.1.11=b;
 let Bs(a:Fq × Hn × Int):=(A0 a).9;
 let Bt(a:Hn × Int)(b:Hn):=a.1.5=b.5;
 let Bu(a:Hn × Int)(b:Fq × Hn × Int):=Br a (A0 b).11;
 let Bv(a:Hn × Int)(b:Fq × Hn × Int):=Bt a (A0 b);
 let Bw(a:Hn × Int)(b:Fq × Hn × Int):=Bn a (Bs b);
 let Bx(a:Hn × Int)(b:Int):=a.1.12=b;
 let Bz(a:Hn × Int)(b:Fq × Hn × Int):=Bx a (A0 b).12;
 let BA(a:Fq × Hn × Int):=(A0 a).4;
 let BB(a:Hn × Int)(b:Hn):=a.1.6=b.6;
 let BC(a:Hn × Int)(b:Hn):=a.1.7=b.7;
 let BD:=(zid M r Af).2.1;
 let BE(a:Hn × Int)(b:Fq × Hn × Int):=a.1.4=BA b;
 let BF(a:Hn × Int)(b:Fq × Hn × Int):=BC a (A0 b);
 let BG(a:Hn × Int)(b:Fq × Hn × Int):=BB a (A0 b);
 let BH(a b:Int):=Value.iface (127:TypeId) (Bg a b);
 let BI(a:Fq × Hn × Int)(b:Int)(c d:Prop):=((a.1.1==b)=true→c)∧((a.1.1==b)=false→d);
 let BJ(a:Prop)(b:Value)(c:Hn):=a→False∨(BH e v=b∧Ae Al (An z=An c) (AW (A4 z=A4 c) (z.3=c.3) (z.4=c.4) (z.5=c.5) (z.6=c.6) (z.7=c.7) (z.8=c.8) (z.9=c.9) (Bf z.10 c) (z.11=c.11) (z.12=c.12)
  (B0 (Aa z).1 (Aa c)) (AZ (Aa z) (Aa c)) (Aa z) c z (z.2=c.2)))∧¬AN e;
 let BK(a:Nat × Nat × Nat × Nat × Nat)(b:Fq × Hn × Int):=a=B1 b;
 let BL(a:Fq × Hn × Int):=AU (Bh a);
 let BM(a:Fq × Hn × Int):=A3 (A2 a).1.toNat<Ay a;
 let BN(a:Fq × Hn × Int):=Bb (A2 a).1 a;
 let BO(a:By)(b:Qs):=ldM a 0 0 b;
 let BP(a:Fq × Hn × Int):=Ah a (Au a) (Aq a);
 let BQ(a:Fq × Hn × Int)(b:Int)(c:Prop):=B8 (M.3=M.3) (BK (B1 a) a) a 2 b c;
 let BR(a:Hn × Int)(b:Fq × Hn × Int):=Bq a=A9 b;
 let BS(a:Int):=A5 (BD/a) 7;
 let BT(a:Fq × Hn × Int):=AE a;
 let BU(a:Fq × Hn × Int)(b:Int)(c:Prop)(d:Int)(e f:Prop):=BI a b c (BI a d e f);
 let BV(a b c d e f g h i:Prop)(j:Hn × Int)(k:Hn)(l m n o:Prop)(p:By × Int)(q:Prop):=AF a b c d e f g h i (Br j k.11) (Bx j k.12) (B2 j (Aa k)) (B3 j (Aa k)) l m n o j.1 k p.1 q (AB j) (Aa k);
 let BW(a:Int):=IntKind.i64.wrap a;
 let BX:=(zid M r Af).1;
 let BY(a:Fq × Hn × Int):=(AO a).1;
 let BZ(a:Prop)(b:Fq × Hn × Int)(c d e f:Prop)(g:Int × Int × Hn × Qs)(h:Hn):=a∧Ak (BM b) (AL (Ao b)) (c∨d) (c→e∧f) (BJ d (BH g.1 g.2.1) h);
 let C0(a:Fq × Hn × Int):=Bb (AJ a) a;
 let C1(a:Fq × Hn × Int):=(Ai a).toNat;
 let C2:=M.3=M.3;
 let C3(a:Hn):=AM a (A4 a) (Aa a)=AM a (A4 a) (Aa a);
 let C4(a:Prop):=Ae B6 (M.2=M.2) C2∧Ae (C3 r) (FetR M r Af) a;
 let C5(a:Hn × Int)(b:Us)(c:Fq × Hn × Int)(d:Int):=Bq a=List.set b (Ba c) d;
 let C6(a:Fq × Hn × Int):=Ba a<Ay a;
 let C7(a:Fq × Hn × Int):=A5 (Ab a) 63;
 let C8(a:Fq × Hn × Int):=BQ a 8 (Bc (Bh a));
 let C9(a:Fq × Hn × Int):=BQ a 8 (¬Bc (Bh a));
 let Ca(a:Fq × Hn × Int):=stM (BY a) (A1 (BO (BY a) (BL a)+A6 (AO a).2 (C1 a))) (BL a);
 let Cb(a:Hn)(b:Int × Int × Hn × Qs)(c:By)(d:Qs)(e:Int):=Ak (Ae B6 (M.2=M.2) C2) (C3 a) (AY b=AY b) (InQ c d) (U64 e);
 let Cc(a:Prop)(b:Int)(c d:Nat)(e:Prop):=a→Ae (AL b∧b<(↑c:Int)) (d<c) e;
 let Cd(a:Hn × Int)(b:Hn):=A7 (AB a)=A7 (Aa b);
 let Ce(a:Hn)(b:Int × Int × Hn × Qs)(c:By)(d:Qs):=Ae B6 (M.2=M.2) C2∧Ae (C3 a) (AY b=AY b) (InQ c d);
 let Cf(a:Fq × Hn × Int):=(Bo a).1.1;
 let Cg(a:Hn × Int)(b:Fq × Hn × Int)(c:Prop)(d:Hn × Int→Prop):=B9 a b (B4 b) c (d a);
 let Ch(a b:Int):=Value.iface 127 (Bg a b);
 let Ci(a:Fq × Hn × Int):=(Bo a).1.2.2;
 let Cj(a:Fq × Hn × Int):=(Bo a).1.2.1;
 let Ck(a:Fq × Hn × Int):=stM (AX a).1 (AR a) (AU (BP a));
 let Cl(a:Hn × Int)(b:Hn):=a.1.4=b.4;
 let Cm(a:Hn × Int)(b:Hn):=a.1.3=b.3;
 let Cn := !zc5 (A5 BD 255) (BS (Am 16)) AP.4;
 let Co:=BS (Am 8);
 let Cp(a:Hn × Int)(b:Fq × Hn × Int)(c:Int)(d:Prop)(e:Hn × Int→Prop):=B7 a b (A1 (c+A1 ((4:Int)*Ab b))) (B4 b) d (e a);
 let Cq(a:Hn × Int)(b:Fq × Hn × Int)(c:By × Int)(d:Prop)(e:Hn × Int→Prop):=B9 a b (List.length c.1) d (e a);
 Ae (C4 (AN BX)∨C4 (¬AN BX)) (C4 (AN BX)→AL 8∧Ak (AL 11) (AL 16) (AL 24) (BJ (Cn=true) (Ch 2 BD) AP) (Cc (Cn=false) Co (A4 AP) (AT Co) (∃(x0:Fq × Hn × Int),Az
  (x0.1.1=A5 BD 255) (AJ x0=Co) ((A2 x0).1=BS (Am 11)) (Ai x0=BS (Am 16)) (Ab x0=A1 (BW (IntKind.i8.wrap (BD/Am 24)))) Al (Ay x0=A4 AP) (AR x0=A6 AP.2 Co.toNat) (c0 =
  c0) (c1=c1) (c2=c2) (c3=c3) B6 (x0.2.2=A1 (AP.3+4)) Al (B4 x0=An AP) (AW (Ay x0=A4 AP) (Bk x0=AP.3) (BA x0=AP.4) ((A0 x0).5=AP.5) ((A0 x0).6=AP.6) ((A0 x0).7=AP.7) ((A0 x0).8=AP.8)
  (Bs x0=AP.9) (Bf (A0 x0).10 AP) ((A0 x0).11=AP.11) ((A0 x0).12=AP.12) (B0 (AD x0).1 (Aa AP)) (AZ (AD x0) (Aa AP)) (AD x0) AP (A0 x0) (A9 x0=AP.2))∧∃(x1:Hn × Int→Prop),BU x0 1 (Ae (C0 x0) (C6
  x0) (∃(x2:Hn × Int),Cg x2 x0 (AQ (AV x2 x0) (Bp x2 x0) (BE x2 x0) (Bv x2 x0) (BG x2 x0) (BF x2 x0) (Bm x2 x0) (Bw x2 x0) (Bj x2 x0) (Bu x2 x0) (Bz x2 x0) (Be x2 x0) (Bd x2 x0) x2
  x0 (C5 x2 (A9 x0) x0 (Ab x0))) x1)) 2 (Ae (BN x0) (BM x0) (Ak (Bb (Ai x0) x0) (AT (Ai x0)<Ay x0) (C0 x0) (C6 x0) (∃(x3:Hn × Int),Cg x3 x0 (AQ (AV x3 x0) (Bp x3 x0) (BE x3 x0) (Bv x3
  x0) (BG x3 x0) (BF x3 x0) (Bm x3 x0) (Bw x3 x0) (Bj x3 x0) (Bu x3 x0) (Bz x3 x0) (Be x3 x0) (Bd x3 x0) x3 x0 (C5 x3 (A9 x0) x0 (A1 (Aj x0+A6 (A9 x0) (C1 x0))))) x1))) (BU x0 3
  (Ak (BN x0) (BM x0) (C0 x0) (C6 x0) (∃(x4:Hn × Int),Cg x4 x0 (AQ (AV x4 x0) (Bp x4 x0) (BE x4 x0) (Bv x4 x0) (BG x4 x0) (BF x4 x0) (Bm x4 x0) (Bw x4 x0) (Bj x4 x0) (Bu x4 x0) (Bz
  x4 x0) (Be x4 x0) (Bd x4 x0) x4 x0 (C5 x4 (A9 x0) x0 (Au x0))) x1)) 4 (BN x0∧Ak (BM x0) (AL (C7 x0)) (C0 x0) (C6 x0) (∃(x5:Hn × Int),Cg x5 x0 (AQ (AV x5 x0) (Bp x5 x0) (BE x5
  x0) (Bv x5 x0) (BG x5 x0) (BF x5 x0) (Bm x5 x0) (Bw x5 x0) (Bj x5 x0) (Bu x5 x0) (Bz x5 x0) (Be x5 x0) (Bd x5 x0) x5 x0 (C5 x5 (A9 x0) x0 (A1 (Aj x0*Am (C7 x0))))) x1)) (BU x0 (5 :
  Int) (BZ (BN x0) x0 (B8 C2 (BK (B1 x0) x0) x0 1 (Aq x0) (Bc (BT x0))) (B8 C2 (BK (B1 x0) x0) x0 1 (Aq x0) (¬Bc (BT x0))) (Ce (AS x0) (BT x0) (AS x0).1 (AU (BT x0))) (Ae (C0
  x0) (Ba x0<A4 (AS x0)) (∃(x6:Hn × Int),B9 x6 x0 (An (AS x0)) (AW (AK x6=A4 (AS x0)) (Cm x6 (AS x0)) (Cl x6 (AS x0)) (Bt x6 (AS x0)) (BB x6 (AS x0)) (BC x6 (AS x0)) (Bl x6 (AS x0)) (Bn x6 (AS
  x0).9) (Bi x6 (AS x0)) (Br x6 (AS x0).11) (Bx x6 (AS x0).12) (B2 x6 (Aa (AS x0))) (B3 x6 (Aa (AS x0))) (AB x6) (AS x0) x6.1 (C5 x6 (AS x0).2 x0 (BO (AS x0).1 (AU (BT x0))))) (x1 x6))) (BT x0) (AS
  x0)) 6 (BZ (BN x0) x0 (BQ x0 (Aq x0) (Bc (BP x0))) (BQ x0 (Aq x0) (¬Bc (BP x0))) (Cb (AX x0) (BP x0) (AX x0).1 (AU (BP x0)) (AR x0)) (∃(x7:Hn × Int),Cq x7 x0 (Ck x0) (BV (AK x7=A4
  (AX x0)) (Cm x7 (AX x0)) (Cl x7 (AX x0)) (Bt x7 (AX x0)) (BB x7 (AX x0)) (BC x7 (AX x0)) (Bl x7 (AX x0)) (Bn x7 (AX x0).9) (Bi x7 (AX x0)) x7 (AX x0) (Cd x7 (AX x0)) (AH x7.1=AH (AX x0)) (AG
  x7.1=AG (AX x0)) (Ax x7.1=Ax (AX x0)) (Ck x0) (Bq x7=(AX x0).2)) x1) (BP x0) (AX x0)) (BU x0 7 (Ak (BN x0) (BM x0) (C8 x0∨C9 x0) (C8 x0→Ae (Ce (AO x0) (Bh x0) (BY x0) (BL
  x0)) (Bb (Ai x0) x0) (Ak (AT (Ai x0)<A4 (AO x0)) (Cb (AO x0) (Bh x0) (BY x0) (BL x0) (A1 (BO (BY x0) (BL x0)+A6 (AO x0).2 (C1 x0)))) (C0 x0) (Ba x0<A4 (AO x0)) (∃(x8:Hn × Int),Cq x8 x0
  (Ca x0) (BV (AK x8=A4 (AO x0)) (Cm x8 (AO x0)) (Cl x8 (AO x0)) (Bt x8 (AO x0)) (BB x8 (AO x0)) (BC x8 (AO x0)) (Bl x8 (AO x0)) (Bn x8 (AO x0).9) (Bi x8 (AO x0)) x8 (AO x0) (Cd x8 (AO x0)) (AH
  x8.1=AH (AO x0)) (AG x8.1=AG (AO x0)) (Ax x8.1=Ax (AO x0)) (Ca x0) (C5 x8 (AO x0).2 x0 (BO (BY x0) (BL x0)))) x1))) (BJ (C9 x0) (BH (Bh x0).1 (Bh x0).2.1) (AO x0))) 8 (BN x0
  ∧ Ae (BM x0) ((AR x0 != Aj x0)=true→∃(x9:Hn × Int),Cp x9 x0 (Bk x0) (AQ (AV x9 x0) (Bp x9 x0) (BE x9 x0) (Bv x9 x0) (BG x9 x0) (BF x9 x0) (Bm x9 x0) (Bw x9 x0) (Bj x9 x0) (Bu x9 x0)
  (Bz x9 x0) (Be x9 x0) (Bd x9 x0) x9 x0 (BR x9 x0)) x1) ((AR x0 != Aj x0)=false→∃(x10:Hn × Int),Cg x10 x0 (AQ (AV x10 x0) (Bp x10 x0) (BE x10 x0) (Bv x10 x0) (BG x10 x0) (BF x10 x0)
  (Bm x10 x0) (Bw x10 x0) (Bj x10 x0) (Bu x10 x0) (Bz x10 x0) (Be x10 x0) (Bd x10 x0) x10 x0 (BR x10 x0)) x1)) (BU x0 9 (Ae (U64 (AR x0)) (zbu (AR x0)=true→∃(x11:Hn × Int),Cg x11
  x0 (AQ (AV x11 x0) (Bp x11 x0) (BE x11 x0) (Bv x11 x0) (BG x11 x0) (x11.1.7=AR x0) (Bm x11 x0) (Bw x11 x0) (Bj x11 x0) (Bu x11 x0) (Bz x11 x0) (Be x11 x0) (Bd x11 x0) x11 x0 (BR x11
  x0)) x1) (zbu (AR x0)=false→∃(x10:Hn × Int),Cg x10 x0 (AQ (AV x10 x0) (Bp x10 x0) (BE x10 x0) (Bv x10 x0) (BG x10 x0) (BF x10 x0) (Bm x10 x0) (Bw x10 x0) (Bj x10 x0) (Bu x10 x0)
  (Bz x10 x0) (Be x10 x0) (Bd x10 x0) x10 x0 (BR x10 x0)) x1)) 10 (∃(x12:Hn × Int),Cg x12 x0 (AQ (AV x12 x0) (Bp x12 x0) (BE x12 x0) (x12.1.5=(A5 (AR x0) (1:Int)==1)) (x12.1.6
  = (A5 (AR x0) (2:Int)==2)) (BF x12 x0) (Bm x12 x0) (Bw x12 x0) (Bj x12 x0) (Bu x12 x0) (Bz x12 x0) (Be x12 x0) (Bd x12 x0) x12 x0 (BR x12 x0)) x1) (BU x0 11 (BN x0∧Ae (BM
  x0) (Ak (Ae B6 (M.2=M.2) C2) (BK (B1 x0) x0) (U64 (AR x0)) (U64 (B5 x0)) (∃(x13:Nat),M.inv x13 (A0 x0).13 (A0 x0).14 (A0 x0).15)) (∃(x14:Hn × Int),Cg x14 x0 (Az Al (AV x14 x0) (Bp x14 x0) (BE x14
  x0) (Bv x14 x0) (BG x14 x0) (BF x14 x0) (Bm x14 x0) (Bw x14 x0) (Bj x14 x0) (Bu x14 x0) (Bz x14 x0) (B2 x14 (Cf x0)) (B3 x14 (Cf x0)) Al (A7 (AB x14)=A7 (Cf x0)) (Az (B0 (AH x14.1)
  (Cj x0)) (AG x14.1=Ap (Cj x0)) Al (Ax x14.1=A7 (Cj x0)) (B0 (A8 x14.1).1 (Ci x0)) (AZ (A8 x14.1) (Ci x0)) Al (AC x14.1=A7 (Ci x0)) (x14.1.1=(A0 x0).1) (BR x14 x0) (Ar (AB x14)=Ar (Cf
  x0)) (Ar (Ac x14.1)=Ar (Cj x0)) (Ar (A8 x14.1)=Ar (Ci x0)) (x14.1.14=(Bo x0).2.1) (M.2=M.2) (x14.1.15=(Bo x0).2.2) (M.3=M.3))) x1)) 12 (∃(x15:Hn × Int),Cp x15 x0 (Bs x0) (AQ
  (AV x15 x0) (Bp x15 x0) (Bf x15.1.4 (A0 x0)) (Bv x15 x0) (BG x15 x0) (BF x15 x0) (Bm x15 x0) (Bw x15 x0) (Bj x15 x0) (Bu x15 x0) (Bz x15 x0) (Be x15 x0) (Bd x15 x0) x15 x0 (BR x15
  x0)) x1) (BU x0 13 (∃(x16:Hn × Int),Cg x16 x0 (AQ (AV x16 x0) (Bp x16 x0) (BE x16 x0) (Bv x16 x0) (BG x16 x0) (BF x16 x0) (Bm x16 x0) (Bn x16 (AR x0)) (x16.1.10=BW (Ai x0)) (Bu
  x16 x0) (Bz x16 x0) (Be x16 x0) (Bd x16 x0) x16 x0 (BR x16 x0)) x1) 14 (False∨(BH e v=Ch (BW ((8:Int)+BA x0)) 0∧Ae Al (An z=B4 x0) (AI (A4 z=Ay x0) (z.3=Bk x0) (z.4=BA
  x0) (z.5=(A0 x0).5) (z.6=(A0 x0).6) (z.7=(A0 x0).7) (z.8=(A0 x0).8) (z.9=Bs x0) (Bf z.10 (A0 x0)) (z.11=(A0 x0).11) (z.12=(A0 x0).12) (B0 (Aa z).1 (AD x0)) (AZ (Aa z) (AD x0)) (Aa z) (AD x0) z (A0 x0) (z.2
  = A9 x0)))∧¬AN e) (∃(x10:Hn × Int),Cg x10 x0 (AQ (AV x10 x0) (Bp x10 x0) (BE x10 x0) (Bv x10 x0) (BG x10 x0) (BF x10 x0) (Bm x10 x0) (Bw x10 x0) (Bj x10 x0) (Bu x10 x0) (Bz x10 x0) (Be
  x10 x0) (Bd x10 x0) x10 x0 (BR x10 x0)) x1)))))))∧∀(x17:Hn × Int),Cc (x1 x17) 0 (AK x17) (AT 0) (Aw (c0=c0) (c1=c1) (c2=c2) (c3=c3) B6 (y=x17.2) Al (An z=An x17.1) (AI (A4 z=AK
  x17) (z.3=x17.1.3) (z.4=x17.1.4) (z.5=x17.1.5) (z.6=x17.1.6) (z.7=x17.1.7) (z.8=x17.1.8) (z.9=x17.1.9) (z.10=x17.1.10) (z.11=x17.1.11) (z.12=x17.1.12) ((Aa z).1=(AB x17).1) (AZ (Aa
  z) (AB x17)) (Aa z) (AB x17) z x17.1 (z.2=List.set (Bq x17) (AT 0) 0))∧AN e∨False)))) (BJ (C4 (¬AN BX)) (BH BX BD) AP)):=by kernel_rfl
set_option linter.unusedSimpArgs false
set_option linter.unusedVariables false
def gd(r:Hn)(i:Int):Int:=r.u.getD (0+i.toNat) (El.zero [.i .u64])
def Hn.setU(r:Hn)(a v:Int):Hn:={ r with u:=r.u.set (0+a.toNat) v }
abbrev Oq:=Int × Int × Hn × Int
def ldO(A:Int × Int × Hn × Qs)(a nx:Int):Oq:=if A.1=0 then (0,0,A.2.2.1.setU a (ldM A.2.2.1.m 0 0 A.2.2.2),nx) else (A.1,A.2.1,A.2.2.1,nx)
def stO(A:Int × Int × Hn × Qs)(x nx:Int):Oq:=if A.1=0 then (0,0,{ A.2.2.1 with m:=(stM A.2.2.1.m x A.2.2.2).1 },nx) else (A.1,A.2.1,A.2.2.1,nx)
def amO(A:Int × Int × Hn × Qs)(a d nx:Int):Oq:=if A.1=0 then (0,0,{ A.2.2.1 with m:=(stM A.2.2.1.m (IntKind.u64.wrap (ldM A.2.2.1.m 0 0 A.2.2.2+gd A.2.2.1 d)) A.2.2.2).1,u:=A.2.2.1.u.set (0+a.toNat) (ldM A.2.2.1.m 0 0 A.2.2.2) },nx) else (A.1,A.2.1,A.2.2.1,nx)
def zoc(d:Int):Int:=IntKind.u64.wrap (1*2 ^ min (bits .and .u64 d 3).toNat 64)
def eaM(r:Hn)(f:Fq):Int:=IntKind.u64.wrap (gd r f.2.2.1+f.2.2.2.2.1)
def opM(M:Tm)(r:Hn)(c:Ct)(f:Fq)(nx:Int):Oq :=
 if f.1=1 then (0,0,r.setU f.2.1 f.2.2.2.2.1,nx)
 else if f.1=2 then (0,0,r.setU f.2.1 (IntKind.u64.wrap (gd r f.2.2.1+gd r f.2.2.2.1)),nx)
 else if f.1=3 then (0,0,r.setU f.2.1 (eaM r f),nx)
 else if f.1=4 then (0,0,r.setU f.2.1 (IntKind.u64.wrap (gd r f.2.2.1*2 ^ min (bits .and .u64 f.2.2.2.2.1 63).toNat 64)),nx)
 else if f.1=5 then ldO (zc8 M r c 1 (eaM r f) (zoc f.2.2.2.1)) f.2.1 nx
 else if f.1=6 then stO (zc8 M r c 2 (eaM r f) (zoc f.2.2.2.1)) f.2.2.2.2.2 nx
 else if f.1=7 then amO (zc8 M r c 2 (eaM r f) 8) f.2.1 f.2.2.2.1 nx
 else if f.1=8 then (0,0,r,if f.2.2.2.2.2=gd r f.2.2.1 then nx else IntKind.u64.wrap (r.pc+IntKind.u64.wrap (4*f.2.2.2.2.1)))
 else if f.1=9 then (0,0,if zbu f.2.2.2.2.2=true then { r with sa:=f.2.2.2.2.2 } else r,nx)
 else if f.1=10 then (0,0,{ r with su:=bits .and .u64 f.2.2.2.2.2 1==1,mx:=bits .and .u64 f.2.2.2.2.2 2==2 },nx)
 else if f.1=11 then (0,0,r.upd (M.fe (f.2.1 != 0,f.2.2.2.2.2,f.2.2.1 != 0,bits .and .u64 (gd r f.2.2.1) 65535) r.k r.g1 r.g2),nx)
 else if f.1=12 then (0,0,{ r with mo:=r.em },IntKind.u64.wrap (r.ep+IntKind.u64.wrap (4*f.2.2.2.2.1)))
 else if f.1=13 then (0,0,{ r with ep:=f.2.2.2.2.2,em:=IntKind.i64.wrap f.2.2.2.1 },nx)
 else if f.1=14 then (IntKind.i64.wrap (8+r.mo),0,r,nx)
 else (0,0,r,nx)
def zz8(r:Hn)(w:Int):Fq:=(bits .and .u64 w 255,bits .and .u64 (w/2 ^ min (Int.toNat 8) 64) 7,bits .and .u64 (w/2 ^ min (Int.toNat 11) 64) 7,bits .and .u64 (w/2 ^ min (Int.toNat 16) 64) 7,IntKind.u64.wrap (IntKind.i64.wrap (IntKind.i8.wrap (w/2 ^ min (Int.toNat 24) 64))),gd r (bits .and .u64 (w/2 ^ min (Int.toNat 8) 64) 7))
def Hn.zero(r:Hn):Hn:={ r with u:=r.u.set 0 0 }
def zoe(O:Oq):Oq:=(O.1,O.2.1,(if O.1=0 then O.2.2.1.zero else O.2.2.1),O.2.2.2)
def yp0(M:Tm)(c:Ct)(nx:Int)(F:Int × Int × Hn):Oq :=
 if ¬ F.1=0 then (F.1,F.2.1,F.2.2,nx)
 else if zc5 (zz8 F.2.2 F.2.1).1 (zz8 F.2.2 F.2.1).2.2.2.1 F.2.2.mo=false then (2,F.2.1,F.2.2,nx)
 else zoe (opM M F.2.2 c (zz8 F.2.2 F.2.1) (IntKind.u64.wrap (F.2.2.pc+4)))
def zco(M:Tm)(r:Hn)(c:Ct)(nx:Int):Oq:=yp0 M c nx (zid M r c)
def HnR(r:Hn):Prop:=zaj r.m∧r.u.length=8∧(∀x ∈ r.u,U64 x)∧U64 r.pc∧(0≤r.mo∧r.mo≤2)∧U64 r.sa∧U64 r.tv∧U64 r.ep∧(0≤r.em∧r.em≤2)∧I64 r.ca∧U64 r.tl
def zil(M:Tm)(r:Hn)(c:Ct):Prop:=HnR r∧U64 c.2.2.2∧0≤c.1∧c.1≤2∧∃j,M.inv (j+3) r.k r.g1 r.g2
theorem yt7{M:Tm}(hM:M.Ok Tryz.prog):zar Tryz.prog (kIC0 M) := .cons (by kernel_rfl) (yqm hM false) (.cons (by kernel_rfl) ybq (.cons (by kernel_rfl) (yqc hM false) (.cons (by kernel_rfl) ld_ok (.cons (by kernel_rfl) st_ok (.cons (by kernel_rfl) zno (.consK (.inr ⟨rfl,hM.fe⟩) .nil))))))
theorem ysl{M:Tm}(hM:M.Ok Tryz.prog):DictOk Tryz.prog (FIC0 M):=zay (yt7 hM) .nil (.cons (by kernel_rfl) (fun _=>yqm hM true) (.cons (by kernel_rfl) (fun _=>yqc hM true) .nil))
theorem yqp{m:By}{kind:Int}:∀{qs:Qs},(zq3 m kind qs).1=0→∀q ∈ qs,zgg m q.2.1 q.2.2=true
 | [],_,q,hq=>by cases hq
 | p::qs,h,q,hq=>by
  unfold zq3 at h
  split at h
  · rename_i hp
    rcases List.mem_cons.1 hq with rfl|hq
    · exact hp
    · exact yqp h q hq
  · exfalso
    revert h
    show ¬ afM kind=0
    unfold afM;split<;>(try split)<;>decide
theorem zkz{M:Tm}(hM:M.Ok Tryz.prog){r:Hn}{c:Ct}{kind ea w:Int}{n:Nat}(h:ylz M r c kind ea w)(hi:M.inv (n+2) r.k r.g1 r.g2) :
 (zc8 M r c kind ea w).2.2.1=r.upd ((zc8 M r c kind ea w).2.2.1.k,(zc8 M r c kind ea w).2.2.1.g1,(zc8 M r c kind ea w).2.2.1.g2)∧M.inv n (zc8 M r c kind ea w).2.2.1.k (zc8 M r c kind ea w).2.2.1.g1 (zc8 M r c kind ea w).2.2.1.g2 ∧
 ((zc8 M r c kind ea w).1=0→InQ (zc8 M r c kind ea w).2.2.1.m (zc8 M r c kind ea w).2.2.2):=by
 obtain⟨h1,h2,h3,h4,h5,h6,h7,h8,h9, -⟩:=h
 have hs:=ya5 h7 h8 h9
 have hl:(zbe ea w).length≤2:=hs.1
 obtain⟨o1,o2,o3⟩:=zxx hM h2 h3 h4 h5 h6 (zbe ea w) r [] (n+(2-(zbe ea w).length)) h1 (fun q hq=>(hs.2 q hq).1) (by rw[show n+(2-(zbe ea w).length)+(zbe ea w).length=n+2 by omega];exact hi)
 have o2:=hM.le o2 (Nat.le_add_right n _)
 unfold zc8
 split
 · rename_i hne
   exact⟨o1,o2,fun e=>absurd e hne⟩
 · rename_i he
   have he:(ze2 M c kind r [] (zbe ea w)).1=0:=Classical.not_not.1 he
   refine⟨o1,o2,fun e => ?_⟩
   obtain⟨zs,b1,b2,b3⟩:=o3 he
   have hm:(ze2 M c kind r [] (zbe ea w)).2.2.1.m=r.m:=by
    have:=congrArg Hn.m o1
    exact this
   have hq:QsR (ze2 M c kind r [] (zbe ea w)).2.2.2:=by rw[b3];exact ysd hs b1 b2
   refine⟨hq,by rw[hm];exact h1,fun q hq' => ?_⟩
   obtain⟨-,p1,p2,p3⟩:=hq.2 q hq'
   have:=yqp e q hq'
   rw[hm] at this ⊢
   exact yg1 h1 this p1.1 (by omega) p3
theorem and7{x:Int}(h:U64 x):0≤bits .and .u64 x 7∧bits .and .u64 x 7<8:=by
 rw[zcg 3 7 8 (by decide) (by decide) (by decide) h.1 h.2]
 exact⟨Int.emod_nonneg _ (by decide),Int.emod_lt_of_pos _ (by decide)⟩
theorem zv7{d:Int}(h0:0≤d)(h1:d<8):1≤zoc d∧zoc d≤8:=by
 unfold zoc
 rw[zcg 2 3 4 (by decide) (by decide) (by decide) h0 (by omega)]
 have:d % 4=0∨d % 4=1∨d % 4=2∨d % 4=3:=by omega
 rcases this with e|e|e|e<;>rw[e]<;>decide
theorem zdw(x:Int):U64 (IntKind.u64.wrap x):=by rw[IntKind.wrap_u64];exact⟨Int.emod_nonneg _ (by decide),Int.emod_lt_of_pos _ (by decide)⟩
theorem yi5{x:Int}(n:Nat)(h:U64 x):U64 (x/2 ^ n):=by
 obtain⟨a,b⟩:=zs4 n h.1
 exact⟨a,Int.lt_of_le_of_lt b h.2⟩
theorem yyr{r:Hn}(h:∀x ∈ r.u,U64 x)(i:Int):U64 (gd r i):=by
 unfold gd
 rw[List.getD_eq_getElem?_getD]
 cases e:r.u[0+i.toNat]? with
 | none=>exact⟨by decide,by decide⟩
 | some x=>exact h x (List.mem_of_getElem? e)
theorem yyn{M:Tm}(hM:M.Ok Tryz.prog){r:Hn}{c:Ct}{n:Nat}(hm:zaj r.m)(hp:U64 r.pc)(h2:U64 c.2.2.2)(h3:0≤c.1)(h4:c.1≤2)(hi:M.inv (n+1) r.k r.g1 r.g2) :
 (zid M r c).2.2=r.upd ((zid M r c).2.2.k,(zid M r c).2.2.g1,(zid M r c).2.2.g2)∧M.inv n (zid M r c).2.2.k (zid M r c).2.2.g1 (zid M r c).2.2.g2∧U64 (zid M r c).2.1:=by
 have hok:OkT M n r.m c 0 r.pc r.k r.g1 r.g2:=⟨hm,h2,h3,h4,by decide,by decide,hp,hi⟩
 have hI:=hM.trI hok
 unfold zid
 split
 · exact⟨rfl,hM.le hi (Nat.le_add_right _ _),hp⟩
 · split
   · exact⟨rfl,hI,hp⟩
   · split
     · rename_i hin
       refine⟨rfl,hI, ?_⟩
       unfold ypw
       exact zh1 (fun b hb=>hm.2 b (List.mem_of_mem_drop (List.mem_of_mem_take hb))) (by simp;omega)
     · exact⟨rfl,hI,hp⟩
theorem zkr{r:Hn}(h:HnR r){n:Nat}{v:Int}(hv:U64 v):HnR { r with u:=r.u.set n v }:=by
 obtain⟨h1,h2,h3,h4⟩:=h
 refine⟨h1,by simpa using h2,fun x hx => ?_,h4⟩
 rcases List.mem_or_eq_of_mem_set hx with hx|rfl
 · exact h3 x hx
 · exact hv
theorem yaj1{r:Hn}(h:HnR r)(x:TrS):HnR (r.upd x):=h
theorem yq8{r:Hn}(h:HnR r){m:By}(hm:zaj m):HnR { r with m:=m }:=⟨hm,h.2⟩
theorem or_in{x y:Int}:U64 (bits .or .u64 x y):=by
 unfold bits
 exact zdw _
theorem yui(m:By):∀(qs:Qs)(x s:Int),U64 x→U64 (ldM m x s qs)
 | [],x,s,h=>h
 | q::qs,x,s,h=>yui m qs _ _ or_in
theorem ysy{M:Tm}(hM:M.Ok Tryz.prog){r:Hn}{c:Ct}{kind ea w:Int}{n:Nat}(h:ylz M r c kind ea w)(hi:M.inv (n+2) r.k r.g1 r.g2)(hr:HnR r):HnR (zc8 M r c kind ea w).2.2.1:=by
 rw[(zkz hM h hi).1]
 exact yaj1 hr _
def OutR(M:Tm)(j:Nat)(O:Oq):Prop:=HnR O.2.2.1∧U64 O.2.2.2∧M.inv j O.2.2.1.k O.2.2.1.g1 O.2.2.1.g2
theorem zdp{α:Type}{Q:α→Prop}{c:Prop}[Decidable c]{a b:α}(h1:c→Q a)(h2:¬ c→Q b):Q (if c then a else b):=by
 by_cases h:c
 · rw[if_pos h];exact h1 h
 · rw[if_neg h];exact h2 h
theorem op_in{M:Tm}(hM:M.Ok Tryz.prog){r:Hn}{c:Ct}{f:Fq}{nx:Int}{j:Nat}(h:HnR r)(hc3:U64 c.2.2.2)(hc0:0≤c.1)(hc1:c.1≤2)(hj:M.inv (j+2) r.k r.g1 r.g2)(hd:0≤f.2.2.2.1∧f.2.2.2.1<8)(hi:U64 f.2.2.2.2.1)(hx:U64 f.2.2.2.2.2)(hn:U64 nx)(hl:f.1=13→f.2.2.2.1≤2) :
 HnR (opM M r c f nx).2.2.1∧U64 (opM M r c f nx).2.2.2∧M.inv j (opM M r c f nx).2.2.1.k (opM M r c f nx).2.2.1.g1 (opM M r c f nx).2.2.1.g2:=by
 have hj0:=hM.le hj (Nat.le_add_right j 2)
 obtain⟨w1,w2⟩:=zv7 hd.1 hd.2
 have acc:∀(kind w:Int),0≤kind→kind≤2→1≤w→w≤8→ylz M r c kind (eaM r f) w:=fun kind w k0 k1 w0 w1=>⟨h.1,hc3,hc0,hc1,k0,k1,zdw _,w0,w1,j,hj⟩
 suffices hs:OutR M j (opM M r c f nx) from hs
 unfold opM
 refine zdp (fun e => ?_) (fun _ => ?_)
 · exact⟨zkr h hi,hn,hj0⟩
 refine zdp (fun e => ?_) (fun _ => ?_)
 · exact⟨zkr h (zdw _),hn,hj0⟩
 refine zdp (fun e => ?_) (fun _ => ?_)
 · exact⟨zkr h (zdw _),hn,hj0⟩
 refine zdp (fun e => ?_) (fun _ => ?_)
 · exact⟨zkr h (zdw _),hn,hj0⟩
 refine zdp (fun e => ?_) (fun _ => ?_)
 · have hA:=acc 1 _ (by decide) (by decide) w1 w2
   have hR:=ysy hM hA hj h
   obtain⟨-,a2,a3⟩:=zkz hM hA hj
   unfold ldO
   split
   · exact⟨zkr hR (yui _ _ _ _ ⟨by decide,by decide⟩),hn,a2⟩
   · exact⟨hR,hn,a2⟩
 refine zdp (fun e => ?_) (fun _ => ?_)
 · have hA:=acc 2 _ (by decide) (by decide) w1 w2
   have hR:=ysy hM hA hj h
   obtain⟨-,a2,a3⟩:=zkz hM hA hj
   unfold stO
   split
   · rename_i e
     have hQ:=a3 e
     exact⟨yq8 hR (yol _ _ _ hQ.2.1 hx (zxj hQ)).1,hn,a2⟩
   · exact⟨hR,hn,a2⟩
 refine zdp (fun e => ?_) (fun _ => ?_)
 · have hA:=acc 2 8 (by decide) (by decide) (by decide) (by decide)
   have hR:=ysy hM hA hj h
   obtain⟨-,a2,a3⟩:=zkz hM hA hj
   unfold amO
   split
   · rename_i e
     have hQ:=a3 e
     exact⟨zkr (yq8 hR (yol _ _ _ hQ.2.1 (zdw _) (zxj hQ)).1) (yui _ _ _ _ ⟨by decide,by decide⟩),hn,a2⟩
   · exact⟨hR,hn,a2⟩
 refine zdp (fun e => ?_) (fun _ => ?_)
 · refine⟨h, ?_,hj0⟩
   show U64 (if _ then _ else _)
   split
   · exact hn
   · exact zdw _
 refine zdp (fun e => ?_) (fun _ => ?_)
 · refine⟨?_,hn, ?_⟩
   · show HnR (if _ then _ else _)
     split
     · obtain⟨a1,a2,a3,a4,a5,a6,a7⟩:=h
       exact⟨a1,a2,a3,a4,a5,hx,a7⟩
     · exact h
   · split<;>exact hj0
 refine zdp (fun e => ?_) (fun _ => ?_)
 · exact⟨h,hn,hj0⟩
 refine zdp (fun e => ?_) (fun _ => ?_)
 · exact⟨h,hn,hM.feI hx hj0⟩
 refine zdp (fun e => ?_) (fun _ => ?_)
 · obtain⟨a1,a2,a3,a4,a5,a6,a7,a8,a9,a10⟩:=h
   exact⟨⟨a1,a2,a3,a4,a9,a6,a7,a8,a9,a10⟩,zdw _,hj0⟩
 refine zdp (fun e => ?_) (fun _ => ?_)
 · have hl:=hl e
   obtain⟨a1,a2,a3,a4,a5,a6,a7,a8,a9,a10⟩:=h
   have ew:IntKind.i64.wrap f.2.2.2.1=f.2.2.2.1:=zaa (by omega) (by omega)
   exact⟨⟨a1,a2,a3,a4,a5,a6,a7,hx,(by show 0≤IntKind.i64.wrap f.2.2.2.1∧IntKind.i64.wrap f.2.2.2.1≤2;rw[ew];exact⟨hd.1,hl⟩),a10⟩,hn,hj0⟩
 refine zdp (fun e => ?_) (fun _ => ?_)
 · exact⟨h,hn,hj0⟩
 · exact⟨h,hn,hj0⟩
theorem yzw{M:Tm}(hM:M.Ok Tryz.prog){r:Hn}{c0:Int}{c1 c2:Bool}{c3 nx e v:Int}{z:Hn}{y:Int}(h:zil M r (c0,c1,c2,c3))(hw:zco M r (c0,c1,c2,c3) nx=(e,v,z,y)):yr5 M r c0 c1 c2 c3 nx e v z y:=by
 obtain⟨h1,hc3,hc0,hc1,j,hj⟩:=h
 have hc3:U64 c3:=hc3
 have hc0:0≤c0:=hc0
 have hc1:c0≤2:=hc1
 obtain⟨f1,f2,f3⟩:=yyn hM (c:=(c0,c1,c2,c3)) (n:=j+2) h1.1 h1.2.2.2.1 hc3 hc0 hc1 hj
 have hFR:FetR M r (c0,c1,c2,c3):=⟨h1.2.2.2.1,_,h1.1,hc3,hc0,hc1,by decide,by decide,h1.2.2.2.1,hj⟩
 refine zab (yk5 M r c0 c1 c2 c3 nx e v z y) ?_
 conv=>zeta
 unfold zco at hw
 generalize zid M r (c0,c1,c2,c3)=F at *
 obtain⟨fe,wd,r1⟩:=F
 dsimp only at f1 f2 f3
 have h1:HnR r1:=by rw[f1];exact h1
 have hj:=f2
 clear f1 f2
 have hoA:=and7 (yi5 (min (Int.toNat 8) 64) f3)
 have hoB:=and7 (yi5 (min (Int.toNat 11) 64) f3)
 have hoD:=and7 (yi5 (min (Int.toNat 16) 64) f3)
 have hoI:=zdw (IntKind.i64.wrap (IntKind.i8.wrap (wd/2 ^ min (Int.toNat 24) 64)))
 have hoX:=yyr h1.2.2.1 (bits .and .u64 (wd/2 ^ min (Int.toNat 8) 64) 7)
 have hul:r1.u.length=8:=h1.2.1
 refine⟨?_,fun q=>⟨by decide,by decide,by decide,by decide,fun q2 => .inr ?_,fun q2=>⟨⟨hoA.1, ?_⟩, ?_,(zz8 r1 wd,r1,IntKind.u64.wrap (r1.pc+4)), ?_, ?_⟩⟩,fun q => .inr ?_⟩
 · have e:fe=0∨¬ fe=0:=by omega
   exact e.imp (fun e=>⟨⟨rfl,rfl,rfl⟩,rfl,hFR,e⟩) (fun e=>⟨⟨rfl,rfl,rfl⟩,rfl,hFR,e⟩)
 · have q:fe=0:=q.2.2.2
   have q2:zc5 (zz8 r1 wd).1 (zz8 r1 wd).2.2.2.1 r1.mo=false:=by simpa[zz8] using q2
   unfold yp0 at hw
   rw[if_neg (fun n=>n q),if_pos q2] at hw
   cases hw
   exact⟨(by
    repeat' apply And.intro
    all_goals rfl),by decide⟩
 · show bits .and .u64 (wd/2 ^ min (Int.toNat 8) 64) 7<(r1.u.length:Int)
   rw[hul];exact hoA.2
 · show 0+(bits .and .u64 (wd/2 ^ min (Int.toNat 8) 64) 7).toNat<r1.u.length
   rw[hul];omega
 · repeat' apply And.intro
   all_goals rfl
 rotate_left
 · have q:¬ fe=0:=q.2.2.2
   unfold yp0 at hw
   rw[if_pos q] at hw
   cases hw
   exact⟨(by
    repeat' apply And.intro
    all_goals rfl),q⟩
 have q:fe=0:=q.2.2.2
 have q2:¬ zc5 (zz8 r1 wd).1 (zz8 r1 wd).2.2.2.1 r1.mo=false:=by simpa[zz8] using q2
 unfold yp0 at hw
 rw[if_neg (fun n=>n q),if_neg q2] at hw
 dsimp only at hw
 clear q hFR
 have hf:zz8 r1 wd=(bits .and .u64 wd 255,bits .and .u64 (wd/2 ^ min (Int.toNat 8) 64) 7,bits .and .u64 (wd/2 ^ min (Int.toNat 11) 64) 7,bits .and .u64 (wd/2 ^ min (Int.toNat 16) 64) 7,IntKind.u64.wrap (IntKind.i64.wrap (IntKind.i8.wrap (wd/2 ^ min (Int.toNat 24) 64))),gd r1 (bits .and .u64 (wd/2 ^ min (Int.toNat 8) 64) 7)):=rfl
 rw[hf] at hw q2 ⊢
 clear hf
 dsimp only at q2
 generalize gd r1 (bits .and .u64 (wd/2 ^ min (Int.toNat 8) 64) 7)=xa at *
 generalize bits .and .u64 (wd/2 ^ min (Int.toNat 8) 64) 7=a at *
 generalize bits .and .u64 (wd/2 ^ min (Int.toNat 11) 64) 7=b at *
 generalize bits .and .u64 (wd/2 ^ min (Int.toNat 16) 64) 7=d at *
 generalize IntKind.u64.wrap (IntKind.i64.wrap (IntKind.i8.wrap (wd/2 ^ min (Int.toNat 24) 64)))=imm at *
 generalize bits .and .u64 wd 255=op at *
 have hnx:=zdw (r1.pc+4)
 generalize IntKind.u64.wrap (r1.pc+4)=nx1 at *
 have hl13:op=13→d≤2:=fun e=>by
  subst e
  cases hlg:zc5 13 d r1.mo with
  | false=>rw[hlg] at q2;exact absurd rfl q2
  | true =>
   have:((r1.mo==2)&&decide (d≤2))=true:=hlg
   simp only[Bool.and_eq_true,decide_eq_true_eq] at this
   exact this.2
 generalize hO:opM M r1 (c0,c1,c2,c3) (op,a,b,d,imm,xa) nx1=O at *
 obtain⟨oe,ov,oz,oy⟩:=O
 have ha:0≤a∧a<(r1.u.length:Int)∧0+a.toNat<r1.u.length:=by rw[hul];omega
 have hb:0≤b∧b<(r1.u.length:Int)∧0+b.toNat<r1.u.length:=by rw[hul];omega
 have hd:0≤d∧d<(r1.u.length:Int)∧0+d.toNat<r1.u.length:=by rw[hul];omega
 have hd8:d<8:=hoD.2
 have hxa:=hoX
 have h63:0≤bits .and .u64 imm 63:=by rw[zcg 6 63 64 (by decide) (by decide) (by decide) hoI.1 hoI.2];exact Int.emod_nonneg _ (by decide)
 have hsh:0≤bits .and .u64 d 3:=by rw[zcg 2 3 4 (by decide) (by decide) (by decide) hd.1 (by omega)];exact Int.emod_nonneg _ (by decide)
 have hf3:U64 (bits .and .u64 (gd r1 b) 65535):=by
  obtain⟨g0,g1⟩:=yyr h1.2.2.1 b
  rw[zcg 16 65535 65536 (by decide) (by decide) (by decide) g0 g1]
  exact⟨Int.emod_nonneg _ (by decide),Int.lt_of_lt_of_le (Int.emod_lt_of_pos _ (by decide)) (by decide)⟩
 have bad:¬ oe=0→e=oe∧v=ov∧z=oz∧True:=fun n=>by
  unfold zoe at hw
  rw[if_neg n] at hw
  cases hw
  exact⟨rfl,rfl,rfl,trivial⟩
 have good:oe=0→e=0∧z=oz.zero∧y=oy:=fun n=>by
  unfold zoe at hw
  rw[if_pos n] at hw
  cases hw
  exact⟨n,rfl,rfl⟩
 clear hw
 refine⟨fun w=>oe=0∧w=(oz,oy), ?_,fun w hw => ?_⟩
 rotate_left
 · obtain⟨n,rfl⟩:=hw
   obtain⟨rfl,rfl,rfl⟩:=good n
   have hol:oz.u.length=8:=by
    have:=(op_in hM (c:=(c0,c1,c2,c3)) (f:=(op,a,b,d,imm,xa)) (nx:=nx1) h1 hc3 hc0 hc1 hj hoD hoI hxa hnx hl13).1.2.1
    rw[hO] at this
    exact this
   refine⟨⟨by decide, ?_⟩, ?_,.inl ⟨?_,rfl⟩⟩
   · show (0:Int)<oz.u.length
     omega
   · show 0+Int.toNat 0<oz.u.length
     rw[hol];decide
   · repeat' apply And.intro
     all_goals first|rfl|exact List.length_set
 have n1:∀k:Int,(op==k)=true→op=k:=fun k h=>by simpa using h
 have n0:∀k:Int,(op==k)=false→¬ op=k:=fun k h=>by simpa using h
 refine⟨fun q1 => ?_,fun p1=>⟨fun q2 => ?_,fun p2=>⟨fun q3 => ?_,fun p3=>⟨fun q4 => ?_,fun p4=>⟨fun q5 => ?_,fun p5=>⟨fun q6 => ?_,fun p6=>⟨fun q7 => ?_,fun p7=>⟨fun q8 => ?_,fun p8=>⟨fun q9 => ?_,fun p9=>⟨fun q10 => ?_,fun p10=>⟨fun q11 => ?_,fun p11=>⟨fun q12 => ?_,fun p12=>⟨fun q13 => ?_,fun p13=>⟨fun q14 => ?_,fun p14 => ?_⟩⟩⟩⟩⟩⟩⟩⟩⟩⟩⟩⟩⟩⟩
 · have q0:=n1 _ q1
   subst q0
   have hO':=hO
   rw[show opM M r1 (c0,c1,c2,c3) (1,a,b,d,imm,xa) nx1=_ from rfl] at hO'
   cases hO'
   exact⟨⟨ha.1,ha.2.1⟩,ha.2.2,(_,_),(by
    repeat' apply And.intro
    all_goals first|rfl|exact List.length_set|exact List.length_set.trans hul|exact hul),rfl,rfl⟩
 · have q0:=n1 _ q2
   subst q0
   have hO':=hO
   rw[show opM M r1 (c0,c1,c2,c3) (2,a,b,d,imm,xa) nx1=_ from rfl] at hO'
   cases hO'
   exact⟨⟨hb.1,hb.2.1⟩,hb.2.2,⟨hd.1,hd.2.1⟩,hd.2.2,⟨ha.1,ha.2.1⟩,ha.2.2,(_,_),(by
    repeat' apply And.intro
    all_goals first|rfl|exact List.length_set|exact List.length_set.trans hul|exact hul),rfl,rfl⟩
 · have q0:=n1 _ q3
   subst q0
   have hO':=hO
   rw[show opM M r1 (c0,c1,c2,c3) (3,a,b,d,imm,xa) nx1=_ from rfl] at hO'
   cases hO'
   exact⟨⟨hb.1,hb.2.1⟩,hb.2.2,⟨ha.1,ha.2.1⟩,ha.2.2,(_,_),(by
    repeat' apply And.intro
    all_goals first|rfl|exact List.length_set|exact List.length_set.trans hul|exact hul),rfl,rfl⟩
 · have q0:=n1 _ q4
   subst q0
   have hO':=hO
   rw[show opM M r1 (c0,c1,c2,c3) (4,a,b,d,imm,xa) nx1=_ from rfl] at hO'
   cases hO'
   exact⟨⟨hb.1,hb.2.1⟩,hb.2.2,h63,⟨ha.1,ha.2.1⟩,ha.2.2,(_,_),(by
    repeat' apply And.intro
    all_goals first|rfl|exact List.length_set|exact List.length_set.trans hul|exact hul),rfl,rfl⟩
 · have q0:=n1 _ q5
   subst q0
   have hA:ylz M r1 (c0,c1,c2,c3) 1 (eaM r1 (5,a,b,d,imm,xa)) (zoc d):=⟨h1.1,hc3,hc0,hc1,by decide,by decide,zdw _,(zv7 hd.1 hd8).1,(zv7 hd.1 hd8).2,j,hj⟩
   obtain⟨a1,a2,a3⟩:=zkz hM hA hj
   have hO':=hO
   rw[show opM M r1 (c0,c1,c2,c3) (5,a,b,d,imm,xa) nx1=ldO (zc8 M r1 (c0,c1,c2,c3) 1 (eaM r1 (5,a,b,d,imm,xa)) (zoc d)) a nx1 from rfl] at hO'
   refine⟨⟨hb.1,hb.2.1⟩,hb.2.2,hsh, ?_,fun q => ?_,fun q => .inr ?_⟩
   · have e:(zc8 M r1 (c0,c1,c2,c3) 1 (eaM r1 (5,a,b,d,imm,xa)) (zoc d)).1=0∨¬ (zc8 M r1 (c0,c1,c2,c3) 1 (eaM r1 (5,a,b,d,imm,xa)) (zoc d)).1=0:=by omega
     exact e.imp (fun e=>⟨⟨rfl,rfl,rfl⟩,rfl,hA,e⟩) (fun e=>⟨⟨rfl,rfl,rfl⟩,rfl,hA,e⟩)
   · have q0:(zc8 M r1 (c0,c1,c2,c3) 1 (eaM r1 (5,a,b,d,imm,xa)) (zoc d)).1=0:=q.2.2.2
     have hQ:=a3 q0
     have hul:(zc8 M r1 (c0,c1,c2,c3) 1 (eaM r1 (5,a,b,d,imm,xa)) (zoc d)).2.2.1.u.length=r1.u.length:=by rw[a1];rfl
     unfold ldO at hO'
     rw[if_pos q0] at hO'
     cases hO'
     exact⟨⟨⟨rfl,rfl,rfl⟩,rfl,rfl,hQ⟩,⟨ha.1,ha.2.1⟩,Nat.lt_of_lt_of_eq ha.2.2 hul.symm,(_,_),(by
     repeat' apply And.intro
     all_goals first|rfl|exact List.length_set|exact List.length_set.trans hul|exact hul),rfl,rfl⟩
   · have q0:¬ (zc8 M r1 (c0,c1,c2,c3) 1 (eaM r1 (5,a,b,d,imm,xa)) (zoc d)).1=0:=q.2.2.2
     unfold ldO at hO'
     rw[if_neg q0] at hO'
     cases hO'
     obtain⟨f1,f2,f3,f4⟩:=bad q0
     cases f1;cases f2;cases f3
     exact⟨(by
      repeat' apply And.intro
      all_goals rfl),q0⟩
 · have q0:=n1 _ q6
   subst q0
   have hA:ylz M r1 (c0,c1,c2,c3) 2 (eaM r1 (6,a,b,d,imm,xa)) (zoc d):=⟨h1.1,hc3,hc0,hc1,by decide,by decide,zdw _,(zv7 hd.1 hd8).1,(zv7 hd.1 hd8).2,j,hj⟩
   obtain⟨a1,a2,a3⟩:=zkz hM hA hj
   have hO':=hO
   rw[show opM M r1 (c0,c1,c2,c3) (6,a,b,d,imm,xa) nx1=stO (zc8 M r1 (c0,c1,c2,c3) 2 (eaM r1 (6,a,b,d,imm,xa)) (zoc d)) xa nx1 from rfl] at hO'
   refine⟨⟨hb.1,hb.2.1⟩,hb.2.2,hsh, ?_,fun q => ?_,fun q => .inr ?_⟩
   · have e:(zc8 M r1 (c0,c1,c2,c3) 2 (eaM r1 (6,a,b,d,imm,xa)) (zoc d)).1=0∨¬ (zc8 M r1 (c0,c1,c2,c3) 2 (eaM r1 (6,a,b,d,imm,xa)) (zoc d)).1=0:=by omega
     exact e.imp (fun e=>⟨⟨rfl,rfl,rfl⟩,rfl,hA,e⟩) (fun e=>⟨⟨rfl,rfl,rfl⟩,rfl,hA,e⟩)
   · have q0:(zc8 M r1 (c0,c1,c2,c3) 2 (eaM r1 (6,a,b,d,imm,xa)) (zoc d)).1=0:=q.2.2.2
     have hQ:=a3 q0
     have hul:(zc8 M r1 (c0,c1,c2,c3) 2 (eaM r1 (6,a,b,d,imm,xa)) (zoc d)).2.2.1.u.length=r1.u.length:=by rw[a1];rfl
     unfold stO at hO'
     rw[if_pos q0] at hO'
     cases hO'
     exact⟨⟨⟨rfl,rfl,rfl⟩,rfl,rfl,hQ,hxa⟩,(_,_),(by
     repeat' apply And.intro
     all_goals first|rfl|exact List.length_set|exact List.length_set.trans hul|exact hul),rfl,rfl⟩
   · have q0:¬ (zc8 M r1 (c0,c1,c2,c3) 2 (eaM r1 (6,a,b,d,imm,xa)) (zoc d)).1=0:=q.2.2.2
     unfold stO at hO'
     rw[if_neg q0] at hO'
     cases hO'
     obtain⟨f1,f2,f3,f4⟩:=bad q0
     cases f1;cases f2;cases f3
     exact⟨(by
      repeat' apply And.intro
      all_goals rfl),q0⟩
 · have q0:=n1 _ q7
   subst q0
   have hA:ylz M r1 (c0,c1,c2,c3) 2 (eaM r1 (7,a,b,d,imm,xa)) 8:=⟨h1.1,hc3,hc0,hc1,by decide,by decide,zdw _,by decide,by decide,j,hj⟩
   obtain⟨a1,a2,a3⟩:=zkz hM hA hj
   have hO':=hO
   rw[show opM M r1 (c0,c1,c2,c3) (7,a,b,d,imm,xa) nx1=amO (zc8 M r1 (c0,c1,c2,c3) 2 (eaM r1 (7,a,b,d,imm,xa)) 8) a d nx1 from rfl] at hO'
   refine⟨⟨hb.1,hb.2.1⟩,hb.2.2, ?_,fun q => ?_,fun q => .inr ?_⟩
   · have e:(zc8 M r1 (c0,c1,c2,c3) 2 (eaM r1 (7,a,b,d,imm,xa)) 8).1=0∨¬ (zc8 M r1 (c0,c1,c2,c3) 2 (eaM r1 (7,a,b,d,imm,xa)) 8).1=0:=by omega
     exact e.imp (fun e=>⟨⟨rfl,rfl,rfl⟩,rfl,hA,e⟩) (fun e=>⟨⟨rfl,rfl,rfl⟩,rfl,hA,e⟩)
   · have q0:(zc8 M r1 (c0,c1,c2,c3) 2 (eaM r1 (7,a,b,d,imm,xa)) 8).1=0:=q.2.2.2
     have hQ:=a3 q0
     have hul:(zc8 M r1 (c0,c1,c2,c3) 2 (eaM r1 (7,a,b,d,imm,xa)) 8).2.2.1.u.length=r1.u.length:=by rw[a1];rfl
     unfold amO at hO'
     rw[if_pos q0] at hO'
     cases hO'
     exact⟨⟨⟨rfl,rfl,rfl⟩,rfl,rfl,hQ⟩,⟨hd.1,hd.2.1⟩,Nat.lt_of_lt_of_eq hd.2.2 hul.symm,⟨⟨rfl,rfl,rfl⟩,rfl,rfl,hQ,zdw _⟩,⟨ha.1,ha.2.1⟩,Nat.lt_of_lt_of_eq ha.2.2 hul.symm,(_,_),(by
     repeat' apply And.intro
     all_goals first|rfl|exact List.length_set|exact List.length_set.trans hul|exact hul),rfl,rfl⟩
   · have q0:¬ (zc8 M r1 (c0,c1,c2,c3) 2 (eaM r1 (7,a,b,d,imm,xa)) 8).1=0:=q.2.2.2
     unfold amO at hO'
     rw[if_neg q0] at hO'
     cases hO'
     obtain⟨f1,f2,f3,f4⟩:=bad q0
     cases f1;cases f2;cases f3
     exact⟨(by
      repeat' apply And.intro
      all_goals rfl),q0⟩
 · have q0:=n1 _ q8
   subst q0
   refine⟨⟨hb.1,hb.2.1⟩,hb.2.2,fun q => ?_,fun q => ?_⟩
   · have q:¬ xa=gd r1 b:=by simpa[gd] using q
     have hO':=hO
     rw[show opM M r1 (c0,c1,c2,c3) (8,a,b,d,imm,xa) nx1=(0,0,r1,if xa=gd r1 b then nx1 else IntKind.u64.wrap (r1.pc+IntKind.u64.wrap (4*imm))) from rfl,if_neg q] at hO'
     cases hO'
     exact⟨(_,_),(by
     repeat' apply And.intro
     all_goals first|rfl|exact List.length_set|exact List.length_set.trans hul|exact hul),rfl,rfl⟩
   · have q:xa=gd r1 b:=by simpa[gd] using q
     have hO':=hO
     rw[show opM M r1 (c0,c1,c2,c3) (8,a,b,d,imm,xa) nx1=(0,0,r1,if xa=gd r1 b then nx1 else IntKind.u64.wrap (r1.pc+IntKind.u64.wrap (4*imm))) from rfl,if_pos q] at hO'
     cases hO'
     exact⟨(_,_),(by
     repeat' apply And.intro
     all_goals first|rfl|exact List.length_set|exact List.length_set.trans hul|exact hul),rfl,rfl⟩
 · have q0:=n1 _ q9
   subst q0
   refine⟨hxa,fun q => ?_,fun q => ?_⟩
   · have hO':=hO
     rw[show opM M r1 (c0,c1,c2,c3) (9,a,b,d,imm,xa) nx1=(0,0,(if zbu xa=true then { r1 with sa:=xa } else r1),nx1) from rfl,if_pos q] at hO'
     cases hO'
     exact⟨(_,_),(by
     repeat' apply And.intro
     all_goals first|rfl|exact List.length_set|exact List.length_set.trans hul|exact hul),rfl,rfl⟩
   · have hO':=hO
     rw[show opM M r1 (c0,c1,c2,c3) (9,a,b,d,imm,xa) nx1=(0,0,(if zbu xa=true then { r1 with sa:=xa } else r1),nx1) from rfl,if_neg (by rw[q];decide)] at hO'
     cases hO'
     exact⟨(_,_),(by
     repeat' apply And.intro
     all_goals first|rfl|exact List.length_set|exact List.length_set.trans hul|exact hul),rfl,rfl⟩
 · have q0:=n1 _ q10
   subst q0
   have hO':=hO
   rw[show opM M r1 (c0,c1,c2,c3) (10,a,b,d,imm,xa) nx1=_ from rfl] at hO'
   cases hO'
   exact⟨(_,_),(by
    repeat' apply And.intro
    all_goals first|rfl|exact List.length_set|exact List.length_set.trans hul|exact hul),rfl,rfl⟩
 · have q0:=n1 _ q11
   subst q0
   have hO':=hO
   rw[show opM M r1 (c0,c1,c2,c3) (11,a,b,d,imm,xa) nx1=_ from rfl] at hO'
   cases hO'
   exact⟨⟨hb.1,hb.2.1⟩,hb.2.2,⟨⟨rfl,rfl,rfl⟩,rfl,hxa,hf3,⟨_,hj⟩⟩,(_,_),(by
    repeat' apply And.intro
    all_goals first|rfl|exact List.length_set|exact List.length_set.trans hul|exact hul),rfl,rfl⟩
 · have q0:=n1 _ q12
   subst q0
   have hO':=hO
   rw[show opM M r1 (c0,c1,c2,c3) (12,a,b,d,imm,xa) nx1=_ from rfl] at hO'
   cases hO'
   exact⟨(_,_),(by
    repeat' apply And.intro
    all_goals first|rfl|exact List.length_set|exact List.length_set.trans hul|exact hul),rfl,rfl⟩
 · have q0:=n1 _ q13
   subst q0
   have hO':=hO
   rw[show opM M r1 (c0,c1,c2,c3) (13,a,b,d,imm,xa) nx1=_ from rfl] at hO'
   cases hO'
   exact⟨(_,_),(by
    repeat' apply And.intro
    all_goals first|rfl|exact List.length_set|exact List.length_set.trans hul|exact hul),rfl,rfl⟩
 · have q0:=n1 _ q14
   subst q0
   have hO':=hO
   rw[show opM M r1 (c0,c1,c2,c3) (14,a,b,d,imm,xa) nx1=(IntKind.i64.wrap (8+r1.mo),0,r1,nx1) from rfl] at hO'
   cases hO'
   have hne:¬ IntKind.i64.wrap (8+r1.mo)=0:=by have:=h1.2.2.2.2.1;rw[zaa (by omega) (by omega)];omega
   obtain⟨f1,f2,f3,f4⟩:=bad hne
   cases f1;cases f2;cases f3
   exact .inr ⟨(by
    repeat' apply And.intro
    all_goals rfl),hne⟩
 · have n1:=n0 _ p1
   have n2:=n0 _ p2
   have n3:=n0 _ p3
   have n4:=n0 _ p4
   have n5:=n0 _ p5
   have n6:=n0 _ p6
   have n7:=n0 _ p7
   have n8:=n0 _ p8
   have n9:=n0 _ p9
   have n10:=n0 _ p10
   have n11:=n0 _ p11
   have n12:=n0 _ p12
   have n13:=n0 _ p13
   have n14:=n0 _ p14
   have hO':=hO
   have e0:opM M r1 (c0,c1,c2,c3) (op,a,b,d,imm,xa) nx1=(0,0,r1,nx1):=by
    unfold opM
    rw[if_neg n1,if_neg n2,if_neg n3,if_neg n4,if_neg n5,if_neg n6,if_neg n7,if_neg n8,if_neg n9,if_neg n10,if_neg n11,if_neg n12,if_neg n13,if_neg n14]
   rw[e0] at hO'
   cases hO'
   exact⟨(_,_),(by
    repeat' apply And.intro
    all_goals first|rfl|exact List.length_set|exact List.length_set.trans hul|exact hul),rfl,rfl⟩
end Go.Proofs.YtfiddfbagbaofaaGreat.V
