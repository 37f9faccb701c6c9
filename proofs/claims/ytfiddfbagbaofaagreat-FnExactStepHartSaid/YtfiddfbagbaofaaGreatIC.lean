/- The program's step: one instruction. Conditions: those in each statement. -/
import Derived.Test.YtfiddfbagbaofaaGreatIB
import Derived.KernelRfl
namespace Go.Proofs.YtfiddfbagbaofaaGreat.V
open Go
def kIC0(M:Tm):Known:=[
 (218,fetS M false),
 (219,zad [u64,u64,i64] [bl] (fun _=>none) (fun t=>zcz t.1 t.2.1 t.2.2)),
 (221,accS M false),
 (220,ldS M),
 (222,stS M),
 (156,zad [u64] [bl] (fun s=>some (U64 s)) zbh),
 (zco+1,yy4 M)]
def FIC0(M:Tm):Dict:=mkD (kIC0 M) [] [(218,(1,fun _=>fetS M true)),(221,(1,fun _=>accS M true))]
abbrev Fq:=Int × Int × Int × Int × Int × Int
def runX(M:Tm)(c:Ct):Specs:={ Specs.none with
 cut:=fun k=>if k=9 then some (CutS.mk (Fq × Hn × Int) (fun z=>slots 267 [(0,.ptr 0 0),(2,.ptr 1 0),(4,.v (.int .u64 z.1.1)),(5,.v (.int .u64 z.1.2.1)),(6,.v (.int .u64 z.1.2.2.1)),(7,.v (.int .u64 z.1.2.2.2.1)),(8,.v (.int .u64 z.1.2.2.2.2.1)),(9,.sl 3 1 0 z.2.1.u.length),(10,.v (.int .u64 z.1.2.2.2.2.2))]) (fun z=>zhn M z.2.1 c z.2.2)) else none
 blk:=fun k=>if k=0 then some (CutS.mk (Hn × Int) (fun z=>slots 267 [(9,.sl 3 1 0 z.1.u.length)]) (fun z=>zhn M z.1 c z.2)) else none }
def ys1(M:Tm)(r:Hn)(c0:Int)(c1 c2:Bool)(c3 nx e v:Int)(z:Hn)(y:Int):Prop:=zkd Tryz.prog (FIC0 M) (runX M (c0,c1,c2,c3)) Tryz.f177 [.ptr 0 0] (zhn M r (c0,c1,c2,c3) nx) [⟨false,.tup [],zhn M z (c0,c1,c2,c3) y,e=0⟩,⟨true,zji e v,paH M z,¬ e=0⟩]
set_option linter.unusedVariables false
set_option maxRecDepth 10000
theorem yk5(M:Tm)(r:Hn)(c0:Int)(c1 c2:Bool)(c3 nx e v:Int)(z:Hn)(y:Int):ys1 M r c0 c1 c2 c3 nx e v z y=(
 let A0(a:Fq × Hn × Int):=a.snd.fst;
 let A1(a:Int):=IntKind.u64.wrap a;
 let A2(a:Fq × Hn × Int):=a.fst.snd.snd;
 let A3(a:Nat):=(0:Nat)+a;
 let A4(a:Hn):=List.length a.2;
 let A5(a b:Int):=bits BinOp.and IntKind.u64 a b;
 let A6(a:Us)(b:Nat):=List.getD a (A3 b) (El.zero (Ty.i IntKind.u64::[]));
 let A7(a:Tl):=List.length a.snd.snd;
 let A8(a:Hn):=a.13.snd.snd;
 let A9(a:Fq × Hn × Int):=(A0 a).2;
 let Aa(a:Hn):=a.13.fst;
 let Ab(a:Fq × Hn × Int):=(A2 a).snd.snd.fst;
 let Ac(a:Hn):=a.13.snd.fst;
 let Ad(a:Int × Int × Hn × Qs):=a.snd.snd.fst;
 let Ae(a b c:Prop):=a∧b∧c;
 let Af:=(c0,c1,c2,c3);
 let Ah(a:Fq × Hn × Int)(b c:Int):=zc2 M (A0 a) Af (2:Int) b c;
 let Ai(a:Fq × Hn × Int):=(A2 a).snd.fst;
 let Aj(a:Fq × Hn × Int):=A6 (A9 a) (A2 a).fst.toNat;
 let Ak(a b c d e:Prop):=Ae a b (Ae c d e);
 let Al:=(0:Nat)=(0:Nat);
 let Am(a:Int):=(2:Int) ^ (min a.toNat (64:Nat));
 let An(a:Hn):=List.length a.1;
 let Ao(a:Fq × Hn × Int):=A5 (Ai a) (3:Int);
 let Ap(a:Tl):=a.snd.fst;
 let Aq(a:Fq × Hn × Int):=A1 ((1:Int)*Am (Ao a));
 let Ar(a:Tl):=a.snd.snd;
 let Au(a:Fq × Hn × Int):=A1 (Aj a+Ab a);
 let Aw(a b c d e f g h i:Prop):=Ak a b c d (Ak e f g h i);
 let Ax(a:Hn):=A7 (Ac a);
 let Ay(a:Fq × Hn × Int):=A4 (A0 a);
 let Az(a b c d e f g h i j k l m n o p q:Prop):=Aw a b c d e f g h (Aw i j k l m n o p q);
 let AB(a:Hn × Int):=Aa a.fst;
 let AC(a:Hn):=A7 (A8 a);
 let AD(a:Fq × Hn × Int):=Aa (A0 a);
 let AE(a:Fq × Hn × Int):=zc2 M (A0 a) Af (1:Int) (Au a) (Aq a);
 let AF(a b c d e f g h i j k l m n o p q:Prop)(r s:Hn)(t:By)(u:Prop)(v w:Tl):=Az Al a b c d e f g h i j k l m Al n (Az o p Al q ((A8 r).fst=(A8 s).fst) (Ap (A8 r)=Ap (A8 s)) Al (AC r=AC s) (r.1=t) u (Ar v=Ar w)
  (Ar (Ac r)=Ar (Ac s)) (Ar (A8 r)=Ar (A8 s)) (r.14=s.14) (M.2=M.2) (r.15=s.15) (M.3=M.3));
 let AG(a:Hn):=Ap (Ac a);
 let AH(a:Hn):=(Ac a).fst;
 let AI(a b c d e f g h i j k l m:Prop)(n o:Tl)(p q:Hn)(r:Prop):=AF a b c d e f g h i j k l m (A7 n=A7 o) (AH p=AH q) (AG p=AG q) (Ax p=Ax q) p q q.1 r n o;
 let AJ(a:Fq × Hn × Int):=a.fst.snd.fst;
 let AK(a:Hn × Int):=A4 a.fst;
 let AL(a:Int):=(0:Int)≤a;
 let AM(a:Hn)(b:Nat)(c:Tl):=(An a,b,A7 c,Ax a,AC a);
 let AN(a:Int):=a=(0:Int);
 let AO(a:Fq × Hn × Int):=Ad (Ah a (Au a) (8:Int));
 let AP:=(zh7 M r Af).snd.snd;
 let AQ(a b c d e f g h i j k l m:Prop)(n:Hn × Int)(o:Fq × Hn × Int)(p:Prop):=AI a b c d e f g h i j k l m (AB n) (AD o) n.fst (A0 o) p;
 let AR(a:Fq × Hn × Int):=(A2 a).snd.snd.snd;
 let AS(a:Fq × Hn × Int):=Ad (AE a);
 let AT(a:Int):=A3 a.toNat;
 let AU(a:Int × Int × Hn × Qs):=a.snd.snd.snd;
 let AV(a:Hn × Int)(b:Fq × Hn × Int):=AK a=Ay b;
 let AW(a b c d e f g h i j k l m:Prop)(n:Tl)(o p:Hn)(q:Prop):=AI a b c d e f g h i j k l m n (Aa o) p o q;
 let AX(a:Fq × Hn × Int):=Ad (Ah a (Au a) (Aq a));
 let AY(a:Int × Int × Hn × Qs):=List.length (AU a);
 let AZ(a b:Tl):=Ap a=Ap b;
 let A157(a:Int)(b:Tl):=a=b.fst;
 let A158(a:Fq × Hn × Int):=AM (A0 a) (Ay a) (AD a);
 let A159(a:Hn × Int)(b:Tl):=A157 (AB a).fst b;
 let A160(a:Hn × Int)(b:Tl):=AZ (AB a) b;
 let A161(a:Fq × Hn × Int):=An (A0 a);
 let A162(a:Fq × Hn × Int):=bits BinOp.and IntKind.u64 (Aj a) (65535:Int);
 let A163:=M.1=M.1;
 let A164(a:Hn × Int)(b:Fq × Hn × Int)(c:Int)(d:Nat)(e f:Prop):=Ae Al (AV a b) (Aw (c0=c0) (c1=c1) (c2=c2) (c3=c3) A163 (a.snd=c) Al (An a.fst=d) e)∧f;
 let A165(a b:Prop)(c:Fq × Hn × Int)(d e:Int)(f:Prop):=Ae A163 (M.2=M.2) a∧Ae b (yl7 M (A0 c) Af d (Au c) e) f;
 let A166(a:Hn × Int)(b:Fq × Hn × Int)(c:Nat)(d e:Prop):=A164 a b b.snd.snd c d e;
 let A167(a:Fq × Hn × Int):=AT (AJ a);
 let A168(a:Int)(b:Fq × Hn × Int):=AL a∧a<(↑(Ay b):Int);
 let A169(a:Int × Int × Hn × Qs):=AN a.fst;
 let A170(a:Hn × Int)(b:Fq × Hn × Int):=A160 a (AD b);
 let A171(a:Hn × Int)(b:Fq × Hn × Int):=A159 a (AD b);
 let A172(a:Int)(b:Hn):=a=b.10;
 let A173(a b:Int):=Value.agg ({ toList:=(Value.int IntKind.i64 a::Value.int IntKind.u64 b::[]) });
 let A174(a:Fq × Hn × Int):=Ah a (Au a) (8:Int);
 let A175(a:Hn × Int)(b:Hn):=A172 a.fst.10 b;
 let A176(a:Hn × Int)(b:Fq × Hn × Int):=A175 a (A0 b);
 let A177(a:Fq × Hn × Int):=(A0 a).3;
 let A178(a:Hn × Int)(b:Hn):=a.fst.8=b.8;
 let A179(a:Hn × Int)(b:Fq × Hn × Int):=A178 a (A0 b);
 let A180(a:Hn × Int)(b:Int):=a.fst.9=b;
 let A181(a:Fq × Hn × Int):=M.fe (AJ a != (0:Int),AR a,(A2 a).fst != (0:Int),A162 a) (A0 a).13 (A0 a).14 (A0 a).15;
 let A182(a:Hn × Int)(b:Fq × Hn × Int):=a.fst.3=A177 b;
 let A183(a:Hn × Int):=a.fst.2;
 let A184(a:Hn × Int)(b:Int):=a.fst.11=b;
 let A185(a:Fq × Hn × Int):=(A0 a).9;
 let A186(a:Hn × Int)(b:Hn):=a.fst.5=b.5;
 let A187(a:Hn × Int)(b:Fq × Hn × Int):=A184 a (A0 b).11;
 let A188(a:Hn × Int)(b:Fq × Hn × Int):=A186 a (A0 b);
 let A189(a:Hn × Int)(b:Fq × Hn × Int):=A180 a (A185 b);
 let A190(a:Hn × Int)(b:Int):=a.fst.12=b;
 let A191(a:Hn × Int)(b:Fq × Hn × Int):=A190 a (A0 b).12;
 let A192(a:Fq × Hn × Int):=(A0 a).4;
 let A193(a:Hn × Int)(b:Hn):=a.fst.6=b.6;
 let A194(a:Hn × Int)(b:Hn):=a.fst.7=b.7;
 let A195:=(zh7 M r Af).snd.fst;
 let A196(a:Hn × Int)(b:Fq × Hn × Int):=a.fst.4=A192 b;
 let A197(a:Hn × Int)(b:Fq × Hn × Int):=A194 a (A0 b);
 let A198(a:Hn × Int)(b:Fq × Hn × Int):=A193 a (A0 b);
 let A199(a b:Int):=Value.iface (127:TypeId) (A173 a b);
 let A200(a:Fq × Hn × Int)(b:Int)(c d:Prop):=((a.fst.fst==b)=true→c)∧((a.fst.fst==b)=false→d);
 let A201(a:Prop)(b:Value)(c:Hn):=a→False∨(A199 e v=b∧Ae Al (An z=An c) (AW (A4 z=A4 c) (z.3=c.3) (z.4=c.4) (z.5=c.5) (z.6=c.6) (z.7=c.7) (z.8=c.8) (z.9=c.9) (A172 z.10 c) (z.11=c.11) (z.12=c.12)
  (A157 (Aa z).fst (Aa c)) (AZ (Aa z) (Aa c)) (Aa z) c z (z.2=c.2)))∧¬AN e;
 let A202(a:Nat × Nat × Nat × Nat × Nat)(b:Fq × Hn × Int):=a=A158 b;
 let A203(a:Fq × Hn × Int):=AU (A174 a);
 let A204(a:Fq × Hn × Int):=A3 (A2 a).fst.toNat<Ay a;
 let A205(a:Fq × Hn × Int):=A168 (A2 a).fst a;
 let A206(a:By)(b:Qs):=ldM a (0:Int) (0:Int) b;
 let A207(a:Fq × Hn × Int):=Ah a (Au a) (Aq a);
 let A208(a:Fq × Hn × Int)(b:Int)(c:Prop):=A165 (M.3=M.3) (A202 (A158 a) a) a (2:Int) b c;
 let A209(a:Hn × Int)(b:Fq × Hn × Int):=A183 a=A9 b;
 let A210(a:Int):=A5 (A195/a) (7:Int);
 let A211(a:Fq × Hn × Int):=AE a;
 let A212(a:Fq × Hn × Int)(b:Int)(c:Prop)(d:Int)(e f:Prop):=A200 a b c (A200 a d e f);
 let A213(a b c d e f g h i:Prop)(j:Hn × Int)(k:Hn)(l m n o:Prop)(p:By × Int)(q:Prop):=AF a b c d e f g h i (A184 j k.11) (A190 j k.12) (A159 j (Aa k)) (A160 j (Aa k)) l m n o j.fst k p.fst q (AB j) (Aa k);
 let A214(a:Int):=IntKind.i64.wrap a;
 let A215:=(zh7 M r Af).fst;
 let A216(a:Fq × Hn × Int):=(AO a).1;
 let A217(a:Prop)(b:Fq × Hn × Int)(c d e f:Prop)(g:Int × Int × Hn × Qs)(h:Hn):=a∧Ak (A204 b) (AL (Ao b)) (c∨d) (c→e∧f) (A201 d (A199 g.fst g.snd.fst) h);
 let A218(a:Fq × Hn × Int):=A168 (AJ a) a;
 let A219(a:Fq × Hn × Int):=(Ai a).toNat;
 let A220:=M.3=M.3;
 let A221(a:Hn):=AM a (A4 a) (Aa a)=AM a (A4 a) (Aa a);
 let A222(a:Prop):=Ae A163 (M.2=M.2) A220∧Ae (A221 r) (FetR M r Af) a;
 let A223(a:Hn × Int)(b:Us)(c:Fq × Hn × Int)(d:Int):=A183 a=List.set b (A167 c) d;
 let A224(a:Fq × Hn × Int):=A167 a<Ay a;
 let A225(a:Fq × Hn × Int):=A5 (Ab a) (63:Int);
 let A226(a:Fq × Hn × Int):=A208 a (8:Int) (A169 (A174 a));
 let A227(a:Fq × Hn × Int):=A208 a (8:Int) (¬A169 (A174 a));
 let A228(a:Fq × Hn × Int):=stM (A216 a) (A1 (A206 (A216 a) (A203 a)+A6 (AO a).2 (A219 a))) (A203 a);
 let A229(a:Hn)(b:Int × Int × Hn × Qs)(c:By)(d:Qs)(e:Int):=Ak (Ae A163 (M.2=M.2) A220) (A221 a) (AY b=AY b) (InQ c d) (U64 e);
 let A230(a:Prop)(b:Int)(c d:Nat)(e:Prop):=a→Ae (AL b∧b<(↑c:Int)) (d<c) e;
 let A231(a:Hn × Int)(b:Hn):=A7 (AB a)=A7 (Aa b);
 let A232(a:Hn)(b:Int × Int × Hn × Qs)(c:By)(d:Qs):=Ae A163 (M.2=M.2) A220∧Ae (A221 a) (AY b=AY b) (InQ c d);
 let A233(a:Fq × Hn × Int):=(A181 a).fst.fst;
 let A234(a:Hn × Int)(b:Fq × Hn × Int)(c:Prop)(d:Hn × Int→Prop):=A166 a b (A161 b) c (d a);
 let A235(a b:Int):=Value.iface (127:Nat) (A173 a b);
 let A236(a:Fq × Hn × Int):=(A181 a).fst.snd.snd;
 let A237(a:Fq × Hn × Int):=(A181 a).fst.snd.fst;
 let A238(a:Fq × Hn × Int):=stM (AX a).1 (AR a) (AU (A207 a));
 let A239(a:Hn × Int)(b:Hn):=a.fst.4=b.4;
 let A240(a:Hn × Int)(b:Hn):=a.fst.3=b.3;
 let A241 := !zcz (A5 A195 (255:Int)) (A210 (Am (16:Int))) AP.4;
 let A242:=A210 (Am (8:Int));
 let A243(a:Hn × Int)(b:Fq × Hn × Int)(c:Int)(d:Prop)(e:Hn × Int→Prop):=A164 a b (A1 (c+A1 ((4:Int)*Ab b))) (A161 b) d (e a);
 let A244(a:Hn × Int)(b:Fq × Hn × Int)(c:By × Int)(d:Prop)(e:Hn × Int→Prop):=A166 a b (List.length c.fst) d (e a);
 Ae (A222 (AN A215)∨A222 (¬AN A215)) (A222 (AN A215)→AL (8:Int)∧Ak (AL (11:Int)) (AL (16:Int)) (AL (24:Int)) (A201 (A241=true) (A235 (2:Int) A195) AP) (A230 (A241=false) A242 (A4 AP) (AT A242) (∃(x0':Fq × Hn × Int),Az
  (x0'.fst.fst=A5 A195 (255:Int)) (AJ x0'=A242) ((A2 x0').fst=A210 (Am (11:Int))) (Ai x0'=A210 (Am (16:Int))) (Ab x0'=A1 (A214 (IntKind.i8.wrap (A195/Am (24:Int))))) Al (Ay x0'=A4 AP) (AR x0'=A6 AP.2 A242.toNat) (c0 =
  c0) (c1=c1) (c2=c2) (c3=c3) A163 (x0'.snd.snd=A1 (AP.3+(4:Int))) Al (A161 x0'=An AP) (AW (Ay x0'=A4 AP) (A177 x0'=AP.3) (A192 x0'=AP.4) ((A0 x0').5=AP.5) ((A0 x0').6=AP.6) ((A0 x0').7=AP.7) ((A0 x0').8=AP.8)
  (A185 x0'=AP.9) (A172 (A0 x0').10 AP) ((A0 x0').11=AP.11) ((A0 x0').12=AP.12) (A157 (AD x0').fst (Aa AP)) (AZ (AD x0') (Aa AP)) (AD x0') AP (A0 x0') (A9 x0'=AP.2))∧∃(x1':Hn × Int→Prop),A212 x0' (1:Int) (Ae (A218 x0') (A224
  x0') (∃(x2':Hn × Int),A234 x2' x0' (AQ (AV x2' x0') (A182 x2' x0') (A196 x2' x0') (A188 x2' x0') (A198 x2' x0') (A197 x2' x0') (A179 x2' x0') (A189 x2' x0') (A176 x2' x0') (A187 x2' x0') (A191 x2' x0') (A171 x2' x0') (A170 x2' x0') x2'
  x0' (A223 x2' (A9 x0') x0' (Ab x0'))) x1')) (2:Int) (Ae (A205 x0') (A204 x0') (Ak (A168 (Ai x0') x0') (AT (Ai x0')<Ay x0') (A218 x0') (A224 x0') (∃(x3':Hn × Int),A234 x3' x0' (AQ (AV x3' x0') (A182 x3' x0') (A196 x3' x0') (A188 x3'
  x0') (A198 x3' x0') (A197 x3' x0') (A179 x3' x0') (A189 x3' x0') (A176 x3' x0') (A187 x3' x0') (A191 x3' x0') (A171 x3' x0') (A170 x3' x0') x3' x0' (A223 x3' (A9 x0') x0' (A1 (Aj x0'+A6 (A9 x0') (A219 x0'))))) x1'))) (A212 x0' (3:Int)
  (Ak (A205 x0') (A204 x0') (A218 x0') (A224 x0') (∃(x4':Hn × Int),A234 x4' x0' (AQ (AV x4' x0') (A182 x4' x0') (A196 x4' x0') (A188 x4' x0') (A198 x4' x0') (A197 x4' x0') (A179 x4' x0') (A189 x4' x0') (A176 x4' x0') (A187 x4' x0') (A191
  x4' x0') (A171 x4' x0') (A170 x4' x0') x4' x0' (A223 x4' (A9 x0') x0' (Au x0'))) x1')) (4:Int) (A205 x0'∧Ak (A204 x0') (AL (A225 x0')) (A218 x0') (A224 x0') (∃(x5':Hn × Int),A234 x5' x0' (AQ (AV x5' x0') (A182 x5' x0') (A196 x5'
  x0') (A188 x5' x0') (A198 x5' x0') (A197 x5' x0') (A179 x5' x0') (A189 x5' x0') (A176 x5' x0') (A187 x5' x0') (A191 x5' x0') (A171 x5' x0') (A170 x5' x0') x5' x0' (A223 x5' (A9 x0') x0' (A1 (Aj x0'*Am (A225 x0'))))) x1')) (A212 x0' (5 :
  Int) (A217 (A205 x0') x0' (A165 A220 (A202 (A158 x0') x0') x0' (1:Int) (Aq x0') (A169 (A211 x0'))) (A165 A220 (A202 (A158 x0') x0') x0' (1:Int) (Aq x0') (¬A169 (A211 x0'))) (A232 (AS x0') (A211 x0') (AS x0').1 (AU (A211 x0'))) (Ae (A218
  x0') (A167 x0'<A4 (AS x0')) (∃(x6':Hn × Int),A166 x6' x0' (An (AS x0')) (AW (AK x6'=A4 (AS x0')) (A240 x6' (AS x0')) (A239 x6' (AS x0')) (A186 x6' (AS x0')) (A193 x6' (AS x0')) (A194 x6' (AS x0')) (A178 x6' (AS x0')) (A180 x6' (AS
  x0').9) (A175 x6' (AS x0')) (A184 x6' (AS x0').11) (A190 x6' (AS x0').12) (A159 x6' (Aa (AS x0'))) (A160 x6' (Aa (AS x0'))) (AB x6') (AS x0') x6'.fst (A223 x6' (AS x0').2 x0' (A206 (AS x0').1 (AU (A211 x0'))))) (x1' x6'))) (A211 x0') (AS
  x0')) (6:Int) (A217 (A205 x0') x0' (A208 x0' (Aq x0') (A169 (A207 x0'))) (A208 x0' (Aq x0') (¬A169 (A207 x0'))) (A229 (AX x0') (A207 x0') (AX x0').1 (AU (A207 x0')) (AR x0')) (∃(x7':Hn × Int),A244 x7' x0' (A238 x0') (A213 (AK x7'=A4
  (AX x0')) (A240 x7' (AX x0')) (A239 x7' (AX x0')) (A186 x7' (AX x0')) (A193 x7' (AX x0')) (A194 x7' (AX x0')) (A178 x7' (AX x0')) (A180 x7' (AX x0').9) (A175 x7' (AX x0')) x7' (AX x0') (A231 x7' (AX x0')) (AH x7'.fst=AH (AX x0')) (AG
  x7'.fst=AG (AX x0')) (Ax x7'.fst=Ax (AX x0')) (A238 x0') (A183 x7'=(AX x0').2)) x1') (A207 x0') (AX x0')) (A212 x0' (7:Int) (Ak (A205 x0') (A204 x0') (A226 x0'∨A227 x0') (A226 x0'→Ae (A232 (AO x0') (A174 x0') (A216 x0') (A203
  x0')) (A168 (Ai x0') x0') (Ak (AT (Ai x0')<A4 (AO x0')) (A229 (AO x0') (A174 x0') (A216 x0') (A203 x0') (A1 (A206 (A216 x0') (A203 x0')+A6 (AO x0').2 (A219 x0')))) (A218 x0') (A167 x0'<A4 (AO x0')) (∃(x8':Hn × Int),A244 x8' x0'
  (A228 x0') (A213 (AK x8'=A4 (AO x0')) (A240 x8' (AO x0')) (A239 x8' (AO x0')) (A186 x8' (AO x0')) (A193 x8' (AO x0')) (A194 x8' (AO x0')) (A178 x8' (AO x0')) (A180 x8' (AO x0').9) (A175 x8' (AO x0')) x8' (AO x0') (A231 x8' (AO x0')) (AH
  x8'.fst=AH (AO x0')) (AG x8'.fst=AG (AO x0')) (Ax x8'.fst=Ax (AO x0')) (A228 x0') (A223 x8' (AO x0').2 x0' (A206 (A216 x0') (A203 x0')))) x1'))) (A201 (A227 x0') (A199 (A174 x0').fst (A174 x0').snd.fst) (AO x0'))) (8:Int) (A205 x0'
  ∧ Ae (A204 x0') ((AR x0' != Aj x0')=true→∃(x9':Hn × Int),A243 x9' x0' (A177 x0') (AQ (AV x9' x0') (A182 x9' x0') (A196 x9' x0') (A188 x9' x0') (A198 x9' x0') (A197 x9' x0') (A179 x9' x0') (A189 x9' x0') (A176 x9' x0') (A187 x9' x0')
  (A191 x9' x0') (A171 x9' x0') (A170 x9' x0') x9' x0' (A209 x9' x0')) x1') ((AR x0' != Aj x0')=false→∃(x10':Hn × Int),A234 x10' x0' (AQ (AV x10' x0') (A182 x10' x0') (A196 x10' x0') (A188 x10' x0') (A198 x10' x0') (A197 x10' x0')
  (A179 x10' x0') (A189 x10' x0') (A176 x10' x0') (A187 x10' x0') (A191 x10' x0') (A171 x10' x0') (A170 x10' x0') x10' x0' (A209 x10' x0')) x1')) (A212 x0' (9:Int) (Ae (U64 (AR x0')) (zbh (AR x0')=true→∃(x11':Hn × Int),A234 x11'
  x0' (AQ (AV x11' x0') (A182 x11' x0') (A196 x11' x0') (A188 x11' x0') (A198 x11' x0') (x11'.fst.7=AR x0') (A179 x11' x0') (A189 x11' x0') (A176 x11' x0') (A187 x11' x0') (A191 x11' x0') (A171 x11' x0') (A170 x11' x0') x11' x0' (A209 x11'
  x0')) x1') (zbh (AR x0')=false→∃(x10':Hn × Int),A234 x10' x0' (AQ (AV x10' x0') (A182 x10' x0') (A196 x10' x0') (A188 x10' x0') (A198 x10' x0') (A197 x10' x0') (A179 x10' x0') (A189 x10' x0') (A176 x10' x0') (A187 x10' x0')
  (A191 x10' x0') (A171 x10' x0') (A170 x10' x0') x10' x0' (A209 x10' x0')) x1')) (10:Int) (∃(x12':Hn × Int),A234 x12' x0' (AQ (AV x12' x0') (A182 x12' x0') (A196 x12' x0') (x12'.fst.5=(A5 (AR x0') (1:Int)==(1:Int))) (x12'.fst.6
  = (A5 (AR x0') (2:Int)==(2:Int))) (A197 x12' x0') (A179 x12' x0') (A189 x12' x0') (A176 x12' x0') (A187 x12' x0') (A191 x12' x0') (A171 x12' x0') (A170 x12' x0') x12' x0' (A209 x12' x0')) x1') (A212 x0' (11:Int) (A205 x0'∧Ae (A204
  x0') (Ak (Ae A163 (M.2=M.2) A220) (A202 (A158 x0') x0') (U64 (AR x0')) (U64 (A162 x0')) (∃(x13':Nat),M.inv x13' (A0 x0').13 (A0 x0').14 (A0 x0').15)) (∃(x14':Hn × Int),A234 x14' x0' (Az Al (AV x14' x0') (A182 x14' x0') (A196 x14'
  x0') (A188 x14' x0') (A198 x14' x0') (A197 x14' x0') (A179 x14' x0') (A189 x14' x0') (A176 x14' x0') (A187 x14' x0') (A191 x14' x0') (A159 x14' (A233 x0')) (A160 x14' (A233 x0')) Al (A7 (AB x14')=A7 (A233 x0')) (Az (A157 (AH x14'.fst)
  (A237 x0')) (AG x14'.fst=Ap (A237 x0')) Al (Ax x14'.fst=A7 (A237 x0')) (A157 (A8 x14'.fst).fst (A236 x0')) (AZ (A8 x14'.fst) (A236 x0')) Al (AC x14'.fst=A7 (A236 x0')) (x14'.fst.1=(A0 x0').1) (A209 x14' x0') (Ar (AB x14')=Ar (A233
  x0')) (Ar (Ac x14'.fst)=Ar (A237 x0')) (Ar (A8 x14'.fst)=Ar (A236 x0')) (x14'.fst.14=(A181 x0').snd.fst) (M.2=M.2) (x14'.fst.15=(A181 x0').snd.snd) (M.3=M.3))) x1')) (12:Int) (∃(x15':Hn × Int),A243 x15' x0' (A185 x0') (AQ
  (AV x15' x0') (A182 x15' x0') (A172 x15'.fst.4 (A0 x0')) (A188 x15' x0') (A198 x15' x0') (A197 x15' x0') (A179 x15' x0') (A189 x15' x0') (A176 x15' x0') (A187 x15' x0') (A191 x15' x0') (A171 x15' x0') (A170 x15' x0') x15' x0' (A209 x15'
  x0')) x1') (A212 x0' (13:Int) (∃(x16':Hn × Int),A234 x16' x0' (AQ (AV x16' x0') (A182 x16' x0') (A196 x16' x0') (A188 x16' x0') (A198 x16' x0') (A197 x16' x0') (A179 x16' x0') (A180 x16' (AR x0')) (x16'.fst.10=A214 (Ai x0')) (A187
  x16' x0') (A191 x16' x0') (A171 x16' x0') (A170 x16' x0') x16' x0' (A209 x16' x0')) x1') (14:Int) (False∨(A199 e v=A235 (A214 ((8:Int)+A192 x0')) (0:Int)∧Ae Al (An z=A161 x0') (AI (A4 z=Ay x0') (z.3=A177 x0') (z.4=A192
  x0') (z.5=(A0 x0').5) (z.6=(A0 x0').6) (z.7=(A0 x0').7) (z.8=(A0 x0').8) (z.9=A185 x0') (A172 z.10 (A0 x0')) (z.11=(A0 x0').11) (z.12=(A0 x0').12) (A157 (Aa z).fst (AD x0')) (AZ (Aa z) (AD x0')) (Aa z) (AD x0') z (A0 x0') (z.2
  = A9 x0')))∧¬AN e) (∃(x10':Hn × Int),A234 x10' x0' (AQ (AV x10' x0') (A182 x10' x0') (A196 x10' x0') (A188 x10' x0') (A198 x10' x0') (A197 x10' x0') (A179 x10' x0') (A189 x10' x0') (A176 x10' x0') (A187 x10' x0') (A191 x10' x0') (A171
  x10' x0') (A170 x10' x0') x10' x0' (A209 x10' x0')) x1')))))))∧∀(x17':Hn × Int),A230 (x1' x17') (0:Int) (AK x17') (AT (0:Int)) (Aw (c0=c0) (c1=c1) (c2=c2) (c3=c3) A163 (y=x17'.snd) Al (An z=An x17'.fst) (AI (A4 z=AK
  x17') (z.3=x17'.fst.3) (z.4=x17'.fst.4) (z.5=x17'.fst.5) (z.6=x17'.fst.6) (z.7=x17'.fst.7) (z.8=x17'.fst.8) (z.9=x17'.fst.9) (z.10=x17'.fst.10) (z.11=x17'.fst.11) (z.12=x17'.fst.12) ((Aa z).fst=(AB x17').fst) (AZ (Aa
  z) (AB x17')) (Aa z) (AB x17') z x17'.fst (z.2=List.set (A183 x17') (AT (0:Int)) (0:Int)))∧AN e∨False)))) (A201 (A222 (¬AN A215)) (A199 A215 A195) AP)):=by kernel_rfl
set_option linter.unusedSimpArgs false
set_option linter.unusedVariables false
def gd(r:Hn)(i:Int):Int:=r.u.getD (0+i.toNat) (El.zero [.i .u64])
def Hn.setU(r:Hn)(a v:Int):Hn:={ r with u:=r.u.set (0+a.toNat) v }
abbrev Oq:=Int × Int × Hn × Int
def ldO(A:Int × Int × Hn × Qs)(a nx:Int):Oq:=if A.1=0 then (0,0,A.2.2.1.setU a (ldM A.2.2.1.m 0 0 A.2.2.2),nx) else (A.1,A.2.1,A.2.2.1,nx)
def stO(A:Int × Int × Hn × Qs)(x nx:Int):Oq:=if A.1=0 then (0,0,{ A.2.2.1 with m:=(stM A.2.2.1.m x A.2.2.2).1 },nx) else (A.1,A.2.1,A.2.2.1,nx)
def amO(A:Int × Int × Hn × Qs)(a d nx:Int):Oq:=if A.1=0 then (0,0,{ A.2.2.1 with m:=(stM A.2.2.1.m (IntKind.u64.wrap (ldM A.2.2.1.m 0 0 A.2.2.2+gd A.2.2.1 d)) A.2.2.2).1,u:=A.2.2.1.u.set (0+a.toNat) (ldM A.2.2.1.m 0 0 A.2.2.2) },nx) else (A.1,A.2.1,A.2.2.1,nx)
def znw(d:Int):Int:=IntKind.u64.wrap (1*2 ^ min (bits .and .u64 d 3).toNat 64)
def eaM(r:Hn)(f:Fq):Int:=IntKind.u64.wrap (gd r f.2.2.1+f.2.2.2.2.1)
def opM(M:Tm)(r:Hn)(c:Ct)(f:Fq)(nx:Int):Oq :=
 if f.1=1 then (0,0,r.setU f.2.1 f.2.2.2.2.1,nx)
 else if f.1=2 then (0,0,r.setU f.2.1 (IntKind.u64.wrap (gd r f.2.2.1+gd r f.2.2.2.1)),nx)
 else if f.1=3 then (0,0,r.setU f.2.1 (eaM r f),nx)
 else if f.1=4 then (0,0,r.setU f.2.1 (IntKind.u64.wrap (gd r f.2.2.1*2 ^ min (bits .and .u64 f.2.2.2.2.1 63).toNat 64)),nx)
 else if f.1=5 then ldO (zc2 M r c 1 (eaM r f) (znw f.2.2.2.1)) f.2.1 nx
 else if f.1=6 then stO (zc2 M r c 2 (eaM r f) (znw f.2.2.2.1)) f.2.2.2.2.2 nx
 else if f.1=7 then amO (zc2 M r c 2 (eaM r f) 8) f.2.1 f.2.2.2.1 nx
 else if f.1=8 then (0,0,r,if f.2.2.2.2.2=gd r f.2.2.1 then nx else IntKind.u64.wrap (r.pc+IntKind.u64.wrap (4*f.2.2.2.2.1)))
 else if f.1=9 then (0,0,if zbh f.2.2.2.2.2=true then { r with sa:=f.2.2.2.2.2 } else r,nx)
 else if f.1=10 then (0,0,{ r with su:=bits .and .u64 f.2.2.2.2.2 1==1,mx:=bits .and .u64 f.2.2.2.2.2 2==2 },nx)
 else if f.1=11 then (0,0,r.upd (M.fe (f.2.1 != 0,f.2.2.2.2.2,f.2.2.1 != 0,bits .and .u64 (gd r f.2.2.1) 65535) r.k r.g1 r.g2),nx)
 else if f.1=12 then (0,0,{ r with mo:=r.em },IntKind.u64.wrap (r.ep+IntKind.u64.wrap (4*f.2.2.2.2.1)))
 else if f.1=13 then (0,0,{ r with ep:=f.2.2.2.2.2,em:=IntKind.i64.wrap f.2.2.2.1 },nx)
 else if f.1=14 then (IntKind.i64.wrap (8+r.mo),0,r,nx)
 else (0,0,r,nx)
def ybx(r:Hn)(w:Int):Fq:=(bits .and .u64 w 255,bits .and .u64 (w/2 ^ min (Int.toNat 8) 64) 7,bits .and .u64 (w/2 ^ min (Int.toNat 11) 64) 7,bits .and .u64 (w/2 ^ min (Int.toNat 16) 64) 7,IntKind.u64.wrap (IntKind.i64.wrap (IntKind.i8.wrap (w/2 ^ min (Int.toNat 24) 64))),gd r (bits .and .u64 (w/2 ^ min (Int.toNat 8) 64) 7))
def Hn.zero(r:Hn):Hn:={ r with u:=r.u.set 0 0 }
def zny(O:Oq):Oq:=(O.1,O.2.1,(if O.1=0 then O.2.2.1.zero else O.2.2.1),O.2.2.2)
def yta(M:Tm)(c:Ct)(nx:Int)(F:Int × Int × Hn):Oq :=
 if ¬ F.1=0 then (F.1,F.2.1,F.2.2,nx)
 else if zcz (ybx F.2.2 F.2.1).1 (ybx F.2.2 F.2.1).2.2.2.1 F.2.2.mo=false then (2,F.2.1,F.2.2,nx)
 else zny (opM M F.2.2 c (ybx F.2.2 F.2.1) (IntKind.u64.wrap (F.2.2.pc+4)))
def zcr(M:Tm)(r:Hn)(c:Ct)(nx:Int):Oq:=yta M c nx (zh7 M r c)
def HnR(r:Hn):Prop:=zaz r.m∧r.u.length=8∧(∀x ∈ r.u,U64 x)∧U64 r.pc∧(0≤r.mo∧r.mo≤2)∧U64 r.sa∧U64 r.tv∧U64 r.ep∧(0≤r.em∧r.em≤2)∧I64 r.ca∧U64 r.tl
def zh4(M:Tm)(r:Hn)(c:Ct):Prop:=HnR r∧U64 c.2.2.2∧0≤c.1∧c.1≤2∧∃j,M.inv (j+3) r.k r.g1 r.g2
theorem yu2{M:Tm}(hM:M.Ok Tryz.prog):zar Tryz.prog (kIC0 M) := .cons (by kernel_rfl) (yrf hM false) (.cons (by kernel_rfl) ybk (.cons (by kernel_rfl) (yq6 hM false) (.cons (by kernel_rfl) ld_ok (.cons (by kernel_rfl) st_ok (.cons (by kernel_rfl) zts (.consK (.inr ⟨rfl,hM.fe⟩) .nil))))))
theorem ytj{M:Tm}(hM:M.Ok Tryz.prog):DictOk Tryz.prog (FIC0 M):=zaw (yu2 hM) .nil (.cons (by kernel_rfl) (fun _=>yrf hM true) (.cons (by kernel_rfl) (fun _=>yq6 hM true) .nil))
theorem yrj{m:By}{kind:Int}:∀{qs:Qs},(zqi m kind qs).1=0→∀q ∈ qs,zf1 m q.2.1 q.2.2=true
 | [],_,q,hq=>by cases hq
 | p::qs,h,q,hq=>by
  unfold zqi at h
  split at h
  · rename_i hp
    rcases List.mem_cons.1 hq with rfl|hq
    · exact hp
    · exact yrj h q hq
  · exfalso
    revert h
    show ¬ afM kind=0
    unfold afM;split<;>(try split)<;>decide
theorem zkh{M:Tm}(hM:M.Ok Tryz.prog){r:Hn}{c:Ct}{kind ea w:Int}{n:Nat}(h:yl7 M r c kind ea w)(hi:M.inv (n+2) r.k r.g1 r.g2) :
 (zc2 M r c kind ea w).2.2.1=r.upd ((zc2 M r c kind ea w).2.2.1.k,(zc2 M r c kind ea w).2.2.1.g1,(zc2 M r c kind ea w).2.2.1.g2)∧M.inv n (zc2 M r c kind ea w).2.2.1.k (zc2 M r c kind ea w).2.2.1.g1 (zc2 M r c kind ea w).2.2.1.g2 ∧
 ((zc2 M r c kind ea w).1=0→InQ (zc2 M r c kind ea w).2.2.1.m (zc2 M r c kind ea w).2.2.2):=by
 obtain⟨h1,h2,h3,h4,h5,h6,h7,h8,h9, -⟩:=h
 have hs:=yaz h7 h8 h9
 have hl:(zba ea w).length≤2:=hs.1
 obtain⟨o1,o2,o3⟩:=zxl hM h2 h3 h4 h5 h6 (zba ea w) r [] (n+(2-(zba ea w).length)) h1 (fun q hq=>(hs.2 q hq).1) (by rw[show n+(2-(zba ea w).length)+(zba ea w).length=n+2 by omega];exact hi)
 have o2:=hM.le o2 (Nat.le_add_right n _)
 unfold zc2
 split
 · rename_i hne
   exact⟨o1,o2,fun e=>absurd e hne⟩
 · rename_i he
   have he:(zeq M c kind r [] (zba ea w)).1=0:=Classical.not_not.1 he
   refine⟨o1,o2,fun e => ?_⟩
   obtain⟨zs,b1,b2,b3⟩:=o3 he
   have hm:(zeq M c kind r [] (zba ea w)).2.2.1.m=r.m:=by
    have:=congrArg Hn.m o1
    exact this
   have hq:QsR (zeq M c kind r [] (zba ea w)).2.2.2:=by rw[b3];exact ytb hs b1 b2
   refine⟨hq,by rw[hm];exact h1,fun q hq' => ?_⟩
   obtain⟨-,p1,p2,p3⟩:=hq.2 q hq'
   have:=yrj e q hq'
   rw[hm] at this ⊢
   exact yg2 h1 this p1.1 (by omega) p3
theorem and7{x:Int}(h:U64 x):0≤bits .and .u64 x 7∧bits .and .u64 x 7<8:=by
 rw[zb9 3 7 8 (by decide) (by decide) (by decide) h.1 h.2]
 exact⟨Int.emod_nonneg _ (by decide),Int.emod_lt_of_pos _ (by decide)⟩
theorem zvu{d:Int}(h0:0≤d)(h1:d<8):1≤znw d∧znw d≤8:=by
 unfold znw
 rw[zb9 2 3 4 (by decide) (by decide) (by decide) h0 (by omega)]
 have:d % 4=0∨d % 4=1∨d % 4=2∨d % 4=3:=by omega
 rcases this with e|e|e|e<;>rw[e]<;>decide
theorem zdk(x:Int):U64 (IntKind.u64.wrap x):=by rw[IntKind.wrap_u64];exact⟨Int.emod_nonneg _ (by decide),Int.emod_lt_of_pos _ (by decide)⟩
theorem yi0{x:Int}(n:Nat)(h:U64 x):U64 (x/2 ^ n):=by
 obtain⟨a,b⟩:=zsg n h.1
 exact⟨a,Int.lt_of_le_of_lt b h.2⟩
theorem yy9{r:Hn}(h:∀x ∈ r.u,U64 x)(i:Int):U64 (gd r i):=by
 unfold gd
 rw[List.getD_eq_getElem?_getD]
 cases e:r.u[0+i.toNat]? with
 | none=>exact⟨by decide,by decide⟩
 | some x=>exact h x (List.mem_of_getElem? e)
theorem yy5{M:Tm}(hM:M.Ok Tryz.prog){r:Hn}{c:Ct}{n:Nat}(hm:zaz r.m)(hp:U64 r.pc)(h2:U64 c.2.2.2)(h3:0≤c.1)(h4:c.1≤2)(hi:M.inv (n+1) r.k r.g1 r.g2) :
 (zh7 M r c).2.2=r.upd ((zh7 M r c).2.2.k,(zh7 M r c).2.2.g1,(zh7 M r c).2.2.g2)∧M.inv n (zh7 M r c).2.2.k (zh7 M r c).2.2.g1 (zh7 M r c).2.2.g2∧U64 (zh7 M r c).2.1:=by
 have hok:OkT M n r.m c 0 r.pc r.k r.g1 r.g2:=⟨hm,h2,h3,h4,by decide,by decide,hp,hi⟩
 have hI:=hM.trI hok
 unfold zh7
 split
 · exact⟨rfl,hM.le hi (Nat.le_add_right _ _),hp⟩
 · split
   · exact⟨rfl,hI,hp⟩
   · split
     · rename_i hin
       refine⟨rfl,hI, ?_⟩
       unfold yqp
       exact zi8 (fun b hb=>hm.2 b (List.mem_of_mem_drop (List.mem_of_mem_take hb))) (by simp;omega)
     · exact⟨rfl,hI,hp⟩
theorem zj9{r:Hn}(h:HnR r){n:Nat}{v:Int}(hv:U64 v):HnR { r with u:=r.u.set n v }:=by
 obtain⟨h1,h2,h3,h4⟩:=h
 refine⟨h1,by simpa using h2,fun x hx => ?_,h4⟩
 rcases List.mem_or_eq_of_mem_set hx with hx|rfl
 · exact h3 x hx
 · exact hv
theorem yaw1{r:Hn}(h:HnR r)(x:TrS):HnR (r.upd x):=h
theorem yr4{r:Hn}(h:HnR r){m:By}(hm:zaz m):HnR { r with m:=m }:=⟨hm,h.2⟩
theorem or_in{x y:Int}:U64 (bits .or .u64 x y):=by
 unfold bits
 exact zdk _
theorem yvc(m:By):∀(qs:Qs)(x s:Int),U64 x→U64 (ldM m x s qs)
 | [],x,s,h=>h
 | q::qs,x,s,h=>yvc m qs _ _ or_in
theorem ytv{M:Tm}(hM:M.Ok Tryz.prog){r:Hn}{c:Ct}{kind ea w:Int}{n:Nat}(h:yl7 M r c kind ea w)(hi:M.inv (n+2) r.k r.g1 r.g2)(hr:HnR r):HnR (zc2 M r c kind ea w).2.2.1:=by
 rw[(zkh hM h hi).1]
 exact yaw1 hr _
def OutR(M:Tm)(j:Nat)(O:Oq):Prop:=HnR O.2.2.1∧U64 O.2.2.2∧M.inv j O.2.2.1.k O.2.2.1.g1 O.2.2.1.g2
theorem zdd{α:Type}{Q:α→Prop}{c:Prop}[Decidable c]{a b:α}(h1:c→Q a)(h2:¬ c→Q b):Q (if c then a else b):=by
 by_cases h:c
 · rw[if_pos h];exact h1 h
 · rw[if_neg h];exact h2 h
theorem op_in{M:Tm}(hM:M.Ok Tryz.prog){r:Hn}{c:Ct}{f:Fq}{nx:Int}{j:Nat}(h:HnR r)(hc3:U64 c.2.2.2)(hc0:0≤c.1)(hc1:c.1≤2)(hj:M.inv (j+2) r.k r.g1 r.g2)(hd:0≤f.2.2.2.1∧f.2.2.2.1<8)(hi:U64 f.2.2.2.2.1)(hx:U64 f.2.2.2.2.2)(hn:U64 nx)(hl:f.1=13→f.2.2.2.1≤2) :
 HnR (opM M r c f nx).2.2.1∧U64 (opM M r c f nx).2.2.2∧M.inv j (opM M r c f nx).2.2.1.k (opM M r c f nx).2.2.1.g1 (opM M r c f nx).2.2.1.g2:=by
 have hj0:=hM.le hj (Nat.le_add_right j 2)
 obtain⟨w1,w2⟩:=zvu hd.1 hd.2
 have acc:∀(kind w:Int),0≤kind→kind≤2→1≤w→w≤8→yl7 M r c kind (eaM r f) w:=fun kind w k0 k1 w0 w1=>⟨h.1,hc3,hc0,hc1,k0,k1,zdk _,w0,w1,j,hj⟩
 suffices hs:OutR M j (opM M r c f nx) from hs
 unfold opM
 refine zdd (fun e => ?_) (fun _ => ?_)
 · exact⟨zj9 h hi,hn,hj0⟩
 refine zdd (fun e => ?_) (fun _ => ?_)
 · exact⟨zj9 h (zdk _),hn,hj0⟩
 refine zdd (fun e => ?_) (fun _ => ?_)
 · exact⟨zj9 h (zdk _),hn,hj0⟩
 refine zdd (fun e => ?_) (fun _ => ?_)
 · exact⟨zj9 h (zdk _),hn,hj0⟩
 refine zdd (fun e => ?_) (fun _ => ?_)
 · have hA:=acc 1 _ (by decide) (by decide) w1 w2
   have hR:=ytv hM hA hj h
   obtain⟨-,a2,a3⟩:=zkh hM hA hj
   unfold ldO
   split
   · exact⟨zj9 hR (yvc _ _ _ _ ⟨by decide,by decide⟩),hn,a2⟩
   · exact⟨hR,hn,a2⟩
 refine zdd (fun e => ?_) (fun _ => ?_)
 · have hA:=acc 2 _ (by decide) (by decide) w1 w2
   have hR:=ytv hM hA hj h
   obtain⟨-,a2,a3⟩:=zkh hM hA hj
   unfold stO
   split
   · rename_i e
     have hQ:=a3 e
     exact⟨yr4 hR (yoz _ _ _ hQ.2.1 hx (zw5 hQ)).1,hn,a2⟩
   · exact⟨hR,hn,a2⟩
 refine zdd (fun e => ?_) (fun _ => ?_)
 · have hA:=acc 2 8 (by decide) (by decide) (by decide) (by decide)
   have hR:=ytv hM hA hj h
   obtain⟨-,a2,a3⟩:=zkh hM hA hj
   unfold amO
   split
   · rename_i e
     have hQ:=a3 e
     exact⟨zj9 (yr4 hR (yoz _ _ _ hQ.2.1 (zdk _) (zw5 hQ)).1) (yvc _ _ _ _ ⟨by decide,by decide⟩),hn,a2⟩
   · exact⟨hR,hn,a2⟩
 refine zdd (fun e => ?_) (fun _ => ?_)
 · refine⟨h, ?_,hj0⟩
   show U64 (if _ then _ else _)
   split
   · exact hn
   · exact zdk _
 refine zdd (fun e => ?_) (fun _ => ?_)
 · refine⟨?_,hn, ?_⟩
   · show HnR (if _ then _ else _)
     split
     · obtain⟨a1,a2,a3,a4,a5,a6,a7⟩:=h
       exact⟨a1,a2,a3,a4,a5,hx,a7⟩
     · exact h
   · split<;>exact hj0
 refine zdd (fun e => ?_) (fun _ => ?_)
 · exact⟨h,hn,hj0⟩
 refine zdd (fun e => ?_) (fun _ => ?_)
 · exact⟨h,hn,hM.feI hx hj0⟩
 refine zdd (fun e => ?_) (fun _ => ?_)
 · obtain⟨a1,a2,a3,a4,a5,a6,a7,a8,a9,a10⟩:=h
   exact⟨⟨a1,a2,a3,a4,a9,a6,a7,a8,a9,a10⟩,zdk _,hj0⟩
 refine zdd (fun e => ?_) (fun _ => ?_)
 · have hl:=hl e
   obtain⟨a1,a2,a3,a4,a5,a6,a7,a8,a9,a10⟩:=h
   have ew:IntKind.i64.wrap f.2.2.2.1=f.2.2.2.1:=zac (by omega) (by omega)
   exact⟨⟨a1,a2,a3,a4,a5,a6,a7,hx,(by show 0≤IntKind.i64.wrap f.2.2.2.1∧IntKind.i64.wrap f.2.2.2.1≤2;rw[ew];exact⟨hd.1,hl⟩),a10⟩,hn,hj0⟩
 refine zdd (fun e => ?_) (fun _ => ?_)
 · exact⟨h,hn,hj0⟩
 · exact⟨h,hn,hj0⟩
theorem yz9{M:Tm}(hM:M.Ok Tryz.prog){r:Hn}{c0:Int}{c1 c2:Bool}{c3 nx e v:Int}{z:Hn}{y:Int}(h:zh4 M r (c0,c1,c2,c3))(hw:zcr M r (c0,c1,c2,c3) nx=(e,v,z,y)):ys1 M r c0 c1 c2 c3 nx e v z y:=by
 obtain⟨h1,hc3,hc0,hc1,j,hj⟩:=h
 have hc3:U64 c3:=hc3
 have hc0:0≤c0:=hc0
 have hc1:c0≤2:=hc1
 obtain⟨f1,f2,f3⟩:=yy5 hM (c:=(c0,c1,c2,c3)) (n:=j+2) h1.1 h1.2.2.2.1 hc3 hc0 hc1 hj
 have hFR:FetR M r (c0,c1,c2,c3):=⟨h1.2.2.2.1,_,h1.1,hc3,hc0,hc1,by decide,by decide,h1.2.2.2.1,hj⟩
 refine zae (yk5 M r c0 c1 c2 c3 nx e v z y) ?_
 conv=>zeta
 unfold zcr at hw
 generalize zh7 M r (c0,c1,c2,c3)=F at *
 obtain⟨fe,wd,r1⟩:=F
 dsimp only at f1 f2 f3
 have h1:HnR r1:=by rw[f1];exact h1
 have hj:=f2
 clear f1 f2
 have hoA:=and7 (yi0 (min (Int.toNat 8) 64) f3)
 have hoB:=and7 (yi0 (min (Int.toNat 11) 64) f3)
 have hoD:=and7 (yi0 (min (Int.toNat 16) 64) f3)
 have hoI:=zdk (IntKind.i64.wrap (IntKind.i8.wrap (wd/2 ^ min (Int.toNat 24) 64)))
 have hoX:=yy9 h1.2.2.1 (bits .and .u64 (wd/2 ^ min (Int.toNat 8) 64) 7)
 have hul:r1.u.length=8:=h1.2.1
 refine⟨?_,fun q=>⟨by decide,by decide,by decide,by decide,fun q2 => .inr ?_,fun q2=>⟨⟨hoA.1, ?_⟩, ?_,(ybx r1 wd,r1,IntKind.u64.wrap (r1.pc+4)), ?_, ?_⟩⟩,fun q => .inr ?_⟩
 · have e:fe=0∨¬ fe=0:=by omega
   exact e.imp (fun e=>⟨⟨rfl,rfl,rfl⟩,rfl,hFR,e⟩) (fun e=>⟨⟨rfl,rfl,rfl⟩,rfl,hFR,e⟩)
 · have q:fe=0:=q.2.2.2
   have q2:zcz (ybx r1 wd).1 (ybx r1 wd).2.2.2.1 r1.mo=false:=by simpa[ybx] using q2
   unfold yta at hw
   rw[if_neg (fun n=>n q),if_pos q2] at hw
   cases hw
   exact⟨(by
    repeat' apply And.intro
    all_goals rfl),by decide⟩
 · show bits .and .u64 (wd/2 ^ min (Int.toNat 8) 64) 7<(r1.u.length:Int)
   rw[hul];exact hoA.2
 · show 0+(bits .and .u64 (wd/2 ^ min (Int.toNat 8) 64) 7).toNat<r1.u.length
   rw[hul];omega
 · repeat' apply And.intro
   all_goals rfl
 rotate_left
 · have q:¬ fe=0:=q.2.2.2
   unfold yta at hw
   rw[if_pos q] at hw
   cases hw
   exact⟨(by
    repeat' apply And.intro
    all_goals rfl),q⟩
 have q:fe=0:=q.2.2.2
 have q2:¬ zcz (ybx r1 wd).1 (ybx r1 wd).2.2.2.1 r1.mo=false:=by simpa[ybx] using q2
 unfold yta at hw
 rw[if_neg (fun n=>n q),if_neg q2] at hw
 dsimp only at hw
 clear q hFR
 have hf:ybx r1 wd=(bits .and .u64 wd 255,bits .and .u64 (wd/2 ^ min (Int.toNat 8) 64) 7,bits .and .u64 (wd/2 ^ min (Int.toNat 11) 64) 7,bits .and .u64 (wd/2 ^ min (Int.toNat 16) 64) 7,IntKind.u64.wrap (IntKind.i64.wrap (IntKind.i8.wrap (wd/2 ^ min (Int.toNat 24) 64))),gd r1 (bits .and .u64 (wd/2 ^ min (Int.toNat 8) 64) 7)):=rfl
 rw[hf] at hw q2 ⊢
 clear hf
 dsimp only at q2
 generalize gd r1 (bits .and .u64 (wd/2 ^ min (Int.toNat 8) 64) 7)=xa at *
 generalize bits .and .u64 (wd/2 ^ min (Int.toNat 8) 64) 7=a at *
 generalize bits .and .u64 (wd/2 ^ min (Int.toNat 11) 64) 7=b at *
 generalize bits .and .u64 (wd/2 ^ min (Int.toNat 16) 64) 7=d at *
 generalize IntKind.u64.wrap (IntKind.i64.wrap (IntKind.i8.wrap (wd/2 ^ min (Int.toNat 24) 64)))=imm at *
 generalize bits .and .u64 wd 255=op at *
 have hnx:=zdk (r1.pc+4)
 generalize IntKind.u64.wrap (r1.pc+4)=nx1 at *
 have hl13:op=13→d≤2:=fun e=>by
  subst e
  cases hlg:zcz 13 d r1.mo with
  | false=>rw[hlg] at q2;exact absurd rfl q2
  | true =>
   have:((r1.mo==2)&&decide (d≤2))=true:=hlg
   simp only[Bool.and_eq_true,decide_eq_true_eq] at this
   exact this.2
 generalize hO:opM M r1 (c0,c1,c2,c3) (op,a,b,d,imm,xa) nx1=O at *
 obtain⟨oe,ov,oz,oy⟩:=O
 have ha:0≤a∧a<(r1.u.length:Int)∧0+a.toNat<r1.u.length:=by rw[hul];omega
 have hb:0≤b∧b<(r1.u.length:Int)∧0+b.toNat<r1.u.length:=by rw[hul];omega
 have hd:0≤d∧d<(r1.u.length:Int)∧0+d.toNat<r1.u.length:=by rw[hul];omega
 have hd8:d<8:=hoD.2
 have hxa:=hoX
 have h63:0≤bits .and .u64 imm 63:=by rw[zb9 6 63 64 (by decide) (by decide) (by decide) hoI.1 hoI.2];exact Int.emod_nonneg _ (by decide)
 have hsh:0≤bits .and .u64 d 3:=by rw[zb9 2 3 4 (by decide) (by decide) (by decide) hd.1 (by omega)];exact Int.emod_nonneg _ (by decide)
 have hf3:U64 (bits .and .u64 (gd r1 b) 65535):=by
  obtain⟨g0,g1⟩:=yy9 h1.2.2.1 b
  rw[zb9 16 65535 65536 (by decide) (by decide) (by decide) g0 g1]
  exact⟨Int.emod_nonneg _ (by decide),Int.lt_of_lt_of_le (Int.emod_lt_of_pos _ (by decide)) (by decide)⟩
 have bad:¬ oe=0→e=oe∧v=ov∧z=oz∧True:=fun n=>by
  unfold zny at hw
  rw[if_neg n] at hw
  cases hw
  exact⟨rfl,rfl,rfl,trivial⟩
 have good:oe=0→e=0∧z=oz.zero∧y=oy:=fun n=>by
  unfold zny at hw
  rw[if_pos n] at hw
  cases hw
  exact⟨n,rfl,rfl⟩
 clear hw
 refine⟨fun w=>oe=0∧w=(oz,oy), ?_,fun w hw => ?_⟩
 rotate_left
 · obtain⟨n,rfl⟩:=hw
   obtain⟨rfl,rfl,rfl⟩:=good n
   have hol:oz.u.length=8:=by
    have:=(op_in hM (c:=(c0,c1,c2,c3)) (f:=(op,a,b,d,imm,xa)) (nx:=nx1) h1 hc3 hc0 hc1 hj hoD hoI hxa hnx hl13).1.2.1
    rw[hO] at this
    exact this
   refine⟨⟨by decide, ?_⟩, ?_,.inl ⟨?_,rfl⟩⟩
   · show (0:Int)<oz.u.length
     omega
   · show 0+Int.toNat 0<oz.u.length
     rw[hol];decide
   · repeat' apply And.intro
     all_goals first|rfl|exact List.length_set
 have n1:∀k:Int,(op==k)=true→op=k:=fun k h=>by simpa using h
 have n0:∀k:Int,(op==k)=false→¬ op=k:=fun k h=>by simpa using h
 refine⟨fun q1 => ?_,fun p1=>⟨fun q2 => ?_,fun p2=>⟨fun q3 => ?_,fun p3=>⟨fun q4 => ?_,fun p4=>⟨fun q5 => ?_,fun p5=>⟨fun q6 => ?_,fun p6=>⟨fun q7 => ?_,fun p7=>⟨fun q8 => ?_,fun p8=>⟨fun q9 => ?_,fun p9=>⟨fun q10 => ?_,fun p10=>⟨fun q11 => ?_,fun p11=>⟨fun q12 => ?_,fun p12=>⟨fun q13 => ?_,fun p13=>⟨fun q14 => ?_,fun p14 => ?_⟩⟩⟩⟩⟩⟩⟩⟩⟩⟩⟩⟩⟩⟩
 · have q0:=n1 _ q1
   subst q0
   have hO':=hO
   rw[show opM M r1 (c0,c1,c2,c3) (1,a,b,d,imm,xa) nx1=_ from rfl] at hO'
   cases hO'
   exact⟨⟨ha.1,ha.2.1⟩,ha.2.2,(_,_),(by
    repeat' apply And.intro
    all_goals first|rfl|exact List.length_set|exact List.length_set.trans hul|exact hul),rfl,rfl⟩
 · have q0:=n1 _ q2
   subst q0
   have hO':=hO
   rw[show opM M r1 (c0,c1,c2,c3) (2,a,b,d,imm,xa) nx1=_ from rfl] at hO'
   cases hO'
   exact⟨⟨hb.1,hb.2.1⟩,hb.2.2,⟨hd.1,hd.2.1⟩,hd.2.2,⟨ha.1,ha.2.1⟩,ha.2.2,(_,_),(by
    repeat' apply And.intro
    all_goals first|rfl|exact List.length_set|exact List.length_set.trans hul|exact hul),rfl,rfl⟩
 · have q0:=n1 _ q3
   subst q0
   have hO':=hO
   rw[show opM M r1 (c0,c1,c2,c3) (3,a,b,d,imm,xa) nx1=_ from rfl] at hO'
   cases hO'
   exact⟨⟨hb.1,hb.2.1⟩,hb.2.2,⟨ha.1,ha.2.1⟩,ha.2.2,(_,_),(by
    repeat' apply And.intro
    all_goals first|rfl|exact List.length_set|exact List.length_set.trans hul|exact hul),rfl,rfl⟩
 · have q0:=n1 _ q4
   subst q0
   have hO':=hO
   rw[show opM M r1 (c0,c1,c2,c3) (4,a,b,d,imm,xa) nx1=_ from rfl] at hO'
   cases hO'
   exact⟨⟨hb.1,hb.2.1⟩,hb.2.2,h63,⟨ha.1,ha.2.1⟩,ha.2.2,(_,_),(by
    repeat' apply And.intro
    all_goals first|rfl|exact List.length_set|exact List.length_set.trans hul|exact hul),rfl,rfl⟩
 · have q0:=n1 _ q5
   subst q0
   have hA:yl7 M r1 (c0,c1,c2,c3) 1 (eaM r1 (5,a,b,d,imm,xa)) (znw d):=⟨h1.1,hc3,hc0,hc1,by decide,by decide,zdk _,(zvu hd.1 hd8).1,(zvu hd.1 hd8).2,j,hj⟩
   obtain⟨a1,a2,a3⟩:=zkh hM hA hj
   have hO':=hO
   rw[show opM M r1 (c0,c1,c2,c3) (5,a,b,d,imm,xa) nx1=ldO (zc2 M r1 (c0,c1,c2,c3) 1 (eaM r1 (5,a,b,d,imm,xa)) (znw d)) a nx1 from rfl] at hO'
   refine⟨⟨hb.1,hb.2.1⟩,hb.2.2,hsh, ?_,fun q => ?_,fun q => .inr ?_⟩
   · have e:(zc2 M r1 (c0,c1,c2,c3) 1 (eaM r1 (5,a,b,d,imm,xa)) (znw d)).1=0∨¬ (zc2 M r1 (c0,c1,c2,c3) 1 (eaM r1 (5,a,b,d,imm,xa)) (znw d)).1=0:=by omega
     exact e.imp (fun e=>⟨⟨rfl,rfl,rfl⟩,rfl,hA,e⟩) (fun e=>⟨⟨rfl,rfl,rfl⟩,rfl,hA,e⟩)
   · have q0:(zc2 M r1 (c0,c1,c2,c3) 1 (eaM r1 (5,a,b,d,imm,xa)) (znw d)).1=0:=q.2.2.2
     have hQ:=a3 q0
     have hul:(zc2 M r1 (c0,c1,c2,c3) 1 (eaM r1 (5,a,b,d,imm,xa)) (znw d)).2.2.1.u.length=r1.u.length:=by rw[a1];rfl
     unfold ldO at hO'
     rw[if_pos q0] at hO'
     cases hO'
     exact⟨⟨⟨rfl,rfl,rfl⟩,rfl,rfl,hQ⟩,⟨ha.1,ha.2.1⟩,Nat.lt_of_lt_of_eq ha.2.2 hul.symm,(_,_),(by
     repeat' apply And.intro
     all_goals first|rfl|exact List.length_set|exact List.length_set.trans hul|exact hul),rfl,rfl⟩
   · have q0:¬ (zc2 M r1 (c0,c1,c2,c3) 1 (eaM r1 (5,a,b,d,imm,xa)) (znw d)).1=0:=q.2.2.2
     unfold ldO at hO'
     rw[if_neg q0] at hO'
     cases hO'
     obtain⟨f1,f2,f3,f4⟩:=bad q0
     cases f1;cases f2;cases f3
     exact⟨(by
      repeat' apply And.intro
      all_goals rfl),q0⟩
 · have q0:=n1 _ q6
   subst q0
   have hA:yl7 M r1 (c0,c1,c2,c3) 2 (eaM r1 (6,a,b,d,imm,xa)) (znw d):=⟨h1.1,hc3,hc0,hc1,by decide,by decide,zdk _,(zvu hd.1 hd8).1,(zvu hd.1 hd8).2,j,hj⟩
   obtain⟨a1,a2,a3⟩:=zkh hM hA hj
   have hO':=hO
   rw[show opM M r1 (c0,c1,c2,c3) (6,a,b,d,imm,xa) nx1=stO (zc2 M r1 (c0,c1,c2,c3) 2 (eaM r1 (6,a,b,d,imm,xa)) (znw d)) xa nx1 from rfl] at hO'
   refine⟨⟨hb.1,hb.2.1⟩,hb.2.2,hsh, ?_,fun q => ?_,fun q => .inr ?_⟩
   · have e:(zc2 M r1 (c0,c1,c2,c3) 2 (eaM r1 (6,a,b,d,imm,xa)) (znw d)).1=0∨¬ (zc2 M r1 (c0,c1,c2,c3) 2 (eaM r1 (6,a,b,d,imm,xa)) (znw d)).1=0:=by omega
     exact e.imp (fun e=>⟨⟨rfl,rfl,rfl⟩,rfl,hA,e⟩) (fun e=>⟨⟨rfl,rfl,rfl⟩,rfl,hA,e⟩)
   · have q0:(zc2 M r1 (c0,c1,c2,c3) 2 (eaM r1 (6,a,b,d,imm,xa)) (znw d)).1=0:=q.2.2.2
     have hQ:=a3 q0
     have hul:(zc2 M r1 (c0,c1,c2,c3) 2 (eaM r1 (6,a,b,d,imm,xa)) (znw d)).2.2.1.u.length=r1.u.length:=by rw[a1];rfl
     unfold stO at hO'
     rw[if_pos q0] at hO'
     cases hO'
     exact⟨⟨⟨rfl,rfl,rfl⟩,rfl,rfl,hQ,hxa⟩,(_,_),(by
     repeat' apply And.intro
     all_goals first|rfl|exact List.length_set|exact List.length_set.trans hul|exact hul),rfl,rfl⟩
   · have q0:¬ (zc2 M r1 (c0,c1,c2,c3) 2 (eaM r1 (6,a,b,d,imm,xa)) (znw d)).1=0:=q.2.2.2
     unfold stO at hO'
     rw[if_neg q0] at hO'
     cases hO'
     obtain⟨f1,f2,f3,f4⟩:=bad q0
     cases f1;cases f2;cases f3
     exact⟨(by
      repeat' apply And.intro
      all_goals rfl),q0⟩
 · have q0:=n1 _ q7
   subst q0
   have hA:yl7 M r1 (c0,c1,c2,c3) 2 (eaM r1 (7,a,b,d,imm,xa)) 8:=⟨h1.1,hc3,hc0,hc1,by decide,by decide,zdk _,by decide,by decide,j,hj⟩
   obtain⟨a1,a2,a3⟩:=zkh hM hA hj
   have hO':=hO
   rw[show opM M r1 (c0,c1,c2,c3) (7,a,b,d,imm,xa) nx1=amO (zc2 M r1 (c0,c1,c2,c3) 2 (eaM r1 (7,a,b,d,imm,xa)) 8) a d nx1 from rfl] at hO'
   refine⟨⟨hb.1,hb.2.1⟩,hb.2.2, ?_,fun q => ?_,fun q => .inr ?_⟩
   · have e:(zc2 M r1 (c0,c1,c2,c3) 2 (eaM r1 (7,a,b,d,imm,xa)) 8).1=0∨¬ (zc2 M r1 (c0,c1,c2,c3) 2 (eaM r1 (7,a,b,d,imm,xa)) 8).1=0:=by omega
     exact e.imp (fun e=>⟨⟨rfl,rfl,rfl⟩,rfl,hA,e⟩) (fun e=>⟨⟨rfl,rfl,rfl⟩,rfl,hA,e⟩)
   · have q0:(zc2 M r1 (c0,c1,c2,c3) 2 (eaM r1 (7,a,b,d,imm,xa)) 8).1=0:=q.2.2.2
     have hQ:=a3 q0
     have hul:(zc2 M r1 (c0,c1,c2,c3) 2 (eaM r1 (7,a,b,d,imm,xa)) 8).2.2.1.u.length=r1.u.length:=by rw[a1];rfl
     unfold amO at hO'
     rw[if_pos q0] at hO'
     cases hO'
     exact⟨⟨⟨rfl,rfl,rfl⟩,rfl,rfl,hQ⟩,⟨hd.1,hd.2.1⟩,Nat.lt_of_lt_of_eq hd.2.2 hul.symm,⟨⟨rfl,rfl,rfl⟩,rfl,rfl,hQ,zdk _⟩,⟨ha.1,ha.2.1⟩,Nat.lt_of_lt_of_eq ha.2.2 hul.symm,(_,_),(by
     repeat' apply And.intro
     all_goals first|rfl|exact List.length_set|exact List.length_set.trans hul|exact hul),rfl,rfl⟩
   · have q0:¬ (zc2 M r1 (c0,c1,c2,c3) 2 (eaM r1 (7,a,b,d,imm,xa)) 8).1=0:=q.2.2.2
     unfold amO at hO'
     rw[if_neg q0] at hO'
     cases hO'
     obtain⟨f1,f2,f3,f4⟩:=bad q0
     cases f1;cases f2;cases f3
     exact⟨(by
      repeat' apply And.intro
      all_goals rfl),q0⟩
 · have q0:=n1 _ q8
   subst q0
   refine⟨⟨hb.1,hb.2.1⟩,hb.2.2,fun q => ?_,fun q => ?_⟩
   · have q:¬ xa=gd r1 b:=by simpa[gd] using q
     have hO':=hO
     rw[show opM M r1 (c0,c1,c2,c3) (8,a,b,d,imm,xa) nx1=(0,0,r1,if xa=gd r1 b then nx1 else IntKind.u64.wrap (r1.pc+IntKind.u64.wrap (4*imm))) from rfl,if_neg q] at hO'
     cases hO'
     exact⟨(_,_),(by
     repeat' apply And.intro
     all_goals first|rfl|exact List.length_set|exact List.length_set.trans hul|exact hul),rfl,rfl⟩
   · have q:xa=gd r1 b:=by simpa[gd] using q
     have hO':=hO
     rw[show opM M r1 (c0,c1,c2,c3) (8,a,b,d,imm,xa) nx1=(0,0,r1,if xa=gd r1 b then nx1 else IntKind.u64.wrap (r1.pc+IntKind.u64.wrap (4*imm))) from rfl,if_pos q] at hO'
     cases hO'
     exact⟨(_,_),(by
     repeat' apply And.intro
     all_goals first|rfl|exact List.length_set|exact List.length_set.trans hul|exact hul),rfl,rfl⟩
 · have q0:=n1 _ q9
   subst q0
   refine⟨hxa,fun q => ?_,fun q => ?_⟩
   · have hO':=hO
     rw[show opM M r1 (c0,c1,c2,c3) (9,a,b,d,imm,xa) nx1=(0,0,(if zbh xa=true then { r1 with sa:=xa } else r1),nx1) from rfl,if_pos q] at hO'
     cases hO'
     exact⟨(_,_),(by
     repeat' apply And.intro
     all_goals first|rfl|exact List.length_set|exact List.length_set.trans hul|exact hul),rfl,rfl⟩
   · have hO':=hO
     rw[show opM M r1 (c0,c1,c2,c3) (9,a,b,d,imm,xa) nx1=(0,0,(if zbh xa=true then { r1 with sa:=xa } else r1),nx1) from rfl,if_neg (by rw[q];decide)] at hO'
     cases hO'
     exact⟨(_,_),(by
     repeat' apply And.intro
     all_goals first|rfl|exact List.length_set|exact List.length_set.trans hul|exact hul),rfl,rfl⟩
 · have q0:=n1 _ q10
   subst q0
   have hO':=hO
   rw[show opM M r1 (c0,c1,c2,c3) (10,a,b,d,imm,xa) nx1=_ from rfl] at hO'
   cases hO'
   exact⟨(_,_),(by
    repeat' apply And.intro
    all_goals first|rfl|exact List.length_set|exact List.length_set.trans hul|exact hul),rfl,rfl⟩
 · have q0:=n1 _ q11
   subst q0
   have hO':=hO
   rw[show opM M r1 (c0,c1,c2,c3) (11,a,b,d,imm,xa) nx1=_ from rfl] at hO'
   cases hO'
   exact⟨⟨hb.1,hb.2.1⟩,hb.2.2,⟨⟨rfl,rfl,rfl⟩,rfl,hxa,hf3,⟨_,hj⟩⟩,(_,_),(by
    repeat' apply And.intro
    all_goals first|rfl|exact List.length_set|exact List.length_set.trans hul|exact hul),rfl,rfl⟩
 · have q0:=n1 _ q12
   subst q0
   have hO':=hO
   rw[show opM M r1 (c0,c1,c2,c3) (12,a,b,d,imm,xa) nx1=_ from rfl] at hO'
   cases hO'
   exact⟨(_,_),(by
    repeat' apply And.intro
    all_goals first|rfl|exact List.length_set|exact List.length_set.trans hul|exact hul),rfl,rfl⟩
 · have q0:=n1 _ q13
   subst q0
   have hO':=hO
   rw[show opM M r1 (c0,c1,c2,c3) (13,a,b,d,imm,xa) nx1=_ from rfl] at hO'
   cases hO'
   exact⟨(_,_),(by
    repeat' apply And.intro
    all_goals first|rfl|exact List.length_set|exact List.length_set.trans hul|exact hul),rfl,rfl⟩
 · have q0:=n1 _ q14
   subst q0
   have hO':=hO
   rw[show opM M r1 (c0,c1,c2,c3) (14,a,b,d,imm,xa) nx1=(IntKind.i64.wrap (8+r1.mo),0,r1,nx1) from rfl] at hO'
   cases hO'
   have hne:¬ IntKind.i64.wrap (8+r1.mo)=0:=by have:=h1.2.2.2.2.1;rw[zac (by omega) (by omega)];omega
   obtain⟨f1,f2,f3,f4⟩:=bad hne
   cases f1;cases f2;cases f3
   exact .inr ⟨(by
    repeat' apply And.intro
    all_goals rfl),hne⟩
 · have n1:=n0 _ p1
   have n2:=n0 _ p2
   have n3:=n0 _ p3
   have n4:=n0 _ p4
   have n5:=n0 _ p5
   have n6:=n0 _ p6
   have n7:=n0 _ p7
   have n8:=n0 _ p8
   have n9:=n0 _ p9
   have n10:=n0 _ p10
   have n11:=n0 _ p11
   have n12:=n0 _ p12
   have n13:=n0 _ p13
   have n14:=n0 _ p14
   have hO':=hO
   have e0:opM M r1 (c0,c1,c2,c3) (op,a,b,d,imm,xa) nx1=(0,0,r1,nx1):=by
    unfold opM
    rw[if_neg n1,if_neg n2,if_neg n3,if_neg n4,if_neg n5,if_neg n6,if_neg n7,if_neg n8,if_neg n9,if_neg n10,if_neg n11,if_neg n12,if_neg n13,if_neg n14]
   rw[e0] at hO'
   cases hO'
   exact⟨(_,_),(by
    repeat' apply And.intro
    all_goals first|rfl|exact List.length_set|exact List.length_set.trans hul|exact hul),rfl,rfl⟩
end Go.Proofs.YtfiddfbagbaofaaGreat.V
