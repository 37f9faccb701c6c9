/- Drawn scripts. Conditions: those in each statement. Printed by wip/T/genekp.py. -/
import Derived.Test.YtfiddfbagbaofaaGreatEJ
import Derived.KernelRfl
namespace Go.Proofs.YtfiddfbagbaofaaGreat.V
open Go
abbrev Rw:=Option Addr × Nat × Nat
structure Sk where
 ys:By
 i:Int
 h:Int
 u:Bool
 w:Bool
 a6:Int
 a7:Int
 a8:Int
 a9:Int
 a10:Int
 a11:Int
 a12:Int
 a14:Int
 a15:Int
 a16:Int
 a18:Int
 a19:Int
 a20:Int
 a23:Int
 a24:Int
 a25:Int
 a26:Int
 a27:Int
 a29:Int
 hs:By
 cd:By
 rs:List Rw
 F:Fz
def skV(z:Sk)(k:Nat):Av :=
 if k=21 then .sl 3 1 0 z.rs.length else if k=22 then .sl 4 1 0 z.hs.length else if k=28 then .sl 4 1 0 z.cd.length
 else if k=6 then .v (.int .i64 z.a6)
 else if k=7 then .v (.int .i64 z.a7)
 else if k=8 then .v (.int .i64 z.a8)
 else if k=9 then .v (.int .i64 z.a9)
 else if k=10 then .v (.int .i64 z.a10)
 else if k=11 then .v (.int .i64 z.a11)
 else if k=12 then .v (.int .u64 z.a12)
 else if k=14 then .v (.int .u64 z.a14)
 else if k=15 then .v (.int .u64 z.a15)
 else if k=16 then .v (.int .u64 z.a16)
 else if k=18 then .v (.int .u64 z.a18)
 else if k=19 then .v (.int .u64 z.a19)
 else if k=20 then .v (.int .i64 z.a20)
 else if k=23 then .v (.int .u64 z.a23)
 else if k=24 then .v (.int .i64 z.a24)
 else if k=25 then .v (.int .i64 z.a25)
 else if k=26 then .v (.int .u64 z.a26)
 else if k=27 then .v (.int .i64 z.a27)
 else if k=29 then .v (.int .i64 z.a29)
 else .any
def yl5(z:Sk)(l:List Nat):List Av:=slots 334 ([(0,.ptr 0 0),(3,.v (.bool z.u)),(4,.v (.bool z.w)),(5,.sl 2 1 0 z.ys.length)]++l.map fun k=>(k,skV z k))
def skH(m:By)(z:Sk)(l:List Nat):Heap:=zff m z.i z.h++[.arr [.i .u8] z.ys true]++(cond (l.contains 21) [.arr [.sv] z.rs true] [])++(cond (l.contains 22) [.arr [.i .u8] z.hs true] [])++(cond (l.contains 28) [.arr [.i .u8] z.cd true] [])
def skAt(m:By)(l:List Nat):CutW:={ β:=Sk,sl:=fun z=>yl5 z l,H:=fun z=>skH m z l,F:=fun z=>z.F }
def ScA(m:By)(L N:Nat)(z:Sk):Prop:=zbe m z.i∧InB z.ys∧z.ys.length=L∧(0≤z.a11∧z.a11≤20002)∧(U64 z.a12∧U64 z.a14∧U64 z.a15∧U64 z.a16∧U64 z.a18∧U64 z.a19∧U64 z.a23∧U64 z.a26)∧(InB z.hs∧z.hs.length≤8)∧(InB z.cd∧112≤z.cd.length)∧z.rs.length=N∧∀y ∈ z.rs,∃xs,z.F y xs∧InB xs∧xs.length≤300
def yr3:List (Nat × List Nat):=[(9,[6,7]),(13,[8]),(16,[8,9]),(18,[8,9]),(23,[11]),(25,[11]),(29,[11,12]),(35,[11,14]),(42,[11,14,15,16,18]),(55,[11,21,22]),(59,[11,21,23]),(77,[11,21,23,24,25,26]),(80,[11,21,23,24,25,26,27]),(82,[11,21,23,24,25,26,27])]
def ywk:List (Nat × List Nat):=[(20,[8,9,10]),(26,[11]),(30,[11,12]),(31,[11]),(36,[11,14]),(44,[11,14,15,16,18,19]),(45,[11,14,16,18,19]),(46,[11,14,18,19]),(47,[11,14,19]),(48,[11,14,19]),(49,[11,19]),(51,[11,20]),(52,[11]),(56,[11,21,22]),(60,[11,21,23]),(61,[11,21,23]),(62,[11,21,23]),(63,[11,21,23]),(64,[11,21,23]),(65,[11,21,23]),(66,[11,21,23]),(67,[11,21,23]),(68,[11,21,23]),(83,[11,21,23,24,25,26,27]),(84,[11,21]),(85,[11,21,28]),(86,[11,21])]
def skGh:List (Nat × Nat × Nat):=[(56,3,184),(60,4,193),(61,3,198),(62,7,207),(63,3,212),(64,4,218),(65,6,226),(66,4,232),(67,8,242),(68,6,250),(83,9,296),(85,4,305)]
def ywm(r:Nat):Option (Nat→Gh) :=
 if r=79 then none else if r=81 then none
 else if r=90 then some (fun i=>if i=4 then .thaw 324 else .std)
 else match skGh.lookup r with
  | some g=>some (fun i=>if i=g.1 then .freeze g.2 else .std)
  | none=>some (fun _ => .std)
def skL0(m:By):LoopW where
 α:=Sk
 I z:=ScA m z.a6.toNat 0 z∧0≤z.a6∧z.a6≤3
 sl z:=yl5 z [6]
 H z:=skH m z [6]
 F z:=z.F
 fams:=[{ β:=Sk,out:=fun _ z=>ScA m 3 0 z,ex := .ext 0,sl:=fun z=>yl5 z [],H:=fun z=>skH m z [],F:=fun z=>z.F }]
def skL1(m:By):LoopW where
 α:=Sk
 I z:=ScA m 87 (10+8*(z.a24-5)).toNat z∧5≤z.a24∧z.a24≤8
 sl z:=yl5 z [11,21,23,24]
 H z:=skH m z [11,21,23,24]
 F z:=z.F
 fams:=[{ β:=Sk,out:=fun _ z=>ScA m 87 34 z,ex := .ext 2,sl:=fun z=>yl5 z [11,21],H:=fun z=>skH m z [11,21],F:=fun z=>z.F }]
def skL2(m:By):LoopW where
 α:=Sk
 I z:=ScA m 87 (10+8*(z.a24-5)+z.a25).toNat z∧(5≤z.a24∧z.a24≤7)∧0≤z.a25∧z.a25≤8
 sl z:=yl5 z [11,21,23,24,25]
 H z:=skH m z [11,21,23,24,25]
 F z:=z.F
 fams:=[{ β:=Sk,out:=fun x z=>ScA m 87 (10+8*(x.a24-5)+8).toNat z∧z.a24=x.a24,ex := .ext 4,sl:=fun z=>yl5 z [11,21,23,24],H:=fun z=>skH m z [11,21,23,24],F:=fun z=>z.F }]
def skL3(m:By):LoopW where
 α:=Sk
 I z:=ScA m z.ys.length 35 z∧0≤z.a29∧z.a29≤35∧((z.ys.length:Int)≤100+300*z.a29∧88≤z.ys.length)
 sl z:=yl5 z [11,21,29]
 H z:=skH m z [11,21,29]
 F z:=z.F
 fams:=[{ β:=Sk,out:=fun _ z=>ScA m z.ys.length z.rs.length z∧(z.ys.length≤11000∧88≤z.ys.length),ex := .ext 6,sl:=fun z=>yl5 z [11],H:=fun z=>skH m z [11],F:=fun z=>z.F }]
def ywl(m:By)(k:Nat):Option LoopW:=if k=5 then some (skL0 m) else if k=70 then some (skL1 m) else if k=73 then some (skL2 m) else if k=88 then some (skL3 m) else none
def skX(m:By):SpecW:={ plan:=ywm,loop:=ywl m,cond:=fun k=>match yr3.lookup k with|some l=>some (skAt m l)|none=>none,cut:=fun k=>match ywk.lookup k with|some l=>some (skAt m l)|none=>none }
abbrev script1:RelS:=zvo [] [byP] ([]:By) (fun _=>True) (fun _ (y:By)=>InB y∧80≤y.length∧y.length≤20000)
def kRun:Known:=[(211,zag [i64,bsP] [byP] (fun t=>some (SzR t.2.length)) (fun t=>zjx t.1 t.2))]
def FEK:Dict:=mkD (kRun++(kEC0++yvr++kEB2++kB3++kA4)) [] []
def yrr:List (FuncId × RelS):=(214,prog1)::zu1
def zzu(m:By)(z:Sk):Prop:=zd5 Tryz.prog FEK (Rels.of yrr) (skX m) 2 (zai Tryz.f167 0) (skL0 m) (fun z:Sk=>(3-z.a6).toNat) z
def zzv(m:By)(z:Sk):Prop:=zd5 Tryz.prog FEK (Rels.of yrr) (skX m) 2 (zai Tryz.f167 1) (skL1 m) (fun z:Sk=>(8-z.a24).toNat) z
def zzw(m:By)(z:Sk):Prop:=zd5 Tryz.prog FEK (Rels.of yrr) (skX m) 2 (zai Tryz.f167 2) (skL2 m) (fun z:Sk=>(8-z.a25).toNat) z
def zzx(m:By)(z:Sk):Prop:=zd5 Tryz.prog FEK (Rels.of yrr) (skX m) 2 (zai Tryz.f167 3) (skL3 m) (fun z:Sk=>(35-z.a29).toNat) z
def ypg(m:By)(i h:Int):Prop:=vcR Tryz.prog FEK (Rels.of yrr) (skX m) Tryz.f167 script1 [.ptr 0 0] (zff m i h)
set_option linter.unusedVariables false
set_option maxRecDepth 10000
theorem zuv :
 let A0(a:Sk):=List.length a.1;
 let A1(a:Int):=IntKind.i64.wrap a;
 let A2(a:Nat):=a=(0:Nat);
 let A3(a b c:Prop):=a∧b∧c;
 let A4(a:Sk):=a.27.length;
 let A5:=A2 (0:Nat);
 let A6(a:By)(b:Nat):=List.length a=b;
 let A7(a b c d e:Prop):=A3 a b (A3 c d e);
 let A8(a b:By):=A6 a (List.length b);
 let A9(a:Int):=IntKind.u64.wrap a;
 let Aa(a:Int):=a/(256:Int);
 let Ab(a:Prop)(b c:Int)(d e f:Prop):=A7 a (b=c) d e f;
 let Ac:=Int.ofNat (0:Nat);
 let Ad(a:By)(b:Int × Int):=zbe a b.fst;
 let Ae(a:Int):=zc6 a (8:Int).toNat;
 let Af(a:By):=List.take (List.length a) (List.drop (0:Nat) a);
 let Ah(a:Sk)(b:Fz):=zj1 a.28 b;
 let Ai(a:Nat):=(0:Nat)+a;
 let Aj(a:Int)(b:By):=List.length (zjx a b);
 let Ak(a:Sk)(b:Nat):=A0 a=b;
 let Al(a:List (El [Ty.sv])):=List.take (1:Nat) (List.drop (0:Nat) a);
 let Am(a b:Sk):=Ak a (A0 b);
 let An(a b c d:Prop):=a∧A3 b c d;
 let Ao(a b:Int):=A1 (a+b);
 let Ap(a:Prop)(b c:Sk)(d:Prop):=A3 a (Ah b c.28) d;
 let Aq(a:PmT [byP] × Int × Int):=List.length a.fst;
 let Ar(a b:Int):=Ao a (A1 ((8:Int)*b));
 let Au(a:Sk)(b:List (El [Ty.i IntKind.u8])):=A0 a+b.length;
 let Aw(a b:Int):=Ar (A1 ((64:Int)*a)) b;
 let Ax(a b:Prop)(c:Nat):=A3 a b (c≤(1073741824:Nat));
 let Ay(a b:Nat):=Ai a≤b;
 let Az(a:Option Addr × Nat × Nat):=(a.fst,a.snd.fst,a.snd.snd)::[];
 let AB(a:By)(b:PmT [i64] × Int × Int):=Ad a b.snd;
 let AC(a:By)(b:Prop)(c:Int):=An (A8 a a) b ((1:Int)≤c) (c≤(100000:Int));
 let AD(a:Int):=Aa (Aa a);
 let AE(a:Int)(b:List (El [Ty.i IntKind.u8])):=IntKind.u8.wrap a::b;
 let AF(a:Nat)(b:List (El [Ty.i IntKind.u8])):=List.take a (List.drop (0:Nat) b);
 let AG(a b:Sk):=a.4=b.4;
 let AH(a:By)(b:Sk):=zbe a b.2;
 let AI(a:PmT [u64] × Int × Int):=zc6 a.fst (8:Nat);
 let AJ(a b:Sk):=a.5=b.5;
 let AK(a b:Sk):=a.11=b.11;
 let AL:=(0:Int).toNat;
 let AM(a:Prop)(b c:Int)(d:Prop)(e:By)(f:Sk)(g h:Int)(i:Prop):=Ab a b c d A5 (Ab (A8 e e) f.2 g (f.3=h) (e=e) i);
 let AN(a b:Sk)(c d e:Prop):=A3 (AG a b) (AJ a b) (A7 A5 c (AK a b) d e);
 let AO(a b:Sk):=A4 a=A4 b;
 let AP(a:By)(b:PmT [bl] × Int × Int):=Ad a b.snd;
 let AQ(a b:Sk)(c:Prop):=AN a b (Am a b) A5 c;
 let AR(a:Prop)(b c:Int)(d:By)(e:Sk)(f g:Int)(h:Sk)(i:Prop):=Ab a b c A5 (A8 d d) (Ab (e.2=f) e.3 g (d=d) (e.1=h.1) i);
 let AS(a:Sk)(b:Option Addr × Nat × Nat):=A4 a+(Al (Az b)).length;
 let AT(a b:Sk)(c:Prop)(d e:Int)(f:Prop)(g:By)(h i:Int)(j:Prop)(k:Sk→Prop):=Ap (An (AG a b) (AJ a b) A5 (AM c d e f g a h i j)) a b (k a);
 let AU(a b:Sk)(c:Prop)(d e f g:Int)(h:By)(i j:Int)(k:Prop)(l:Sk→Prop):=AT a b c d e (f=g) h i j k l;
 let AV(a b:Sk)(c:Option Addr × Nat × Nat)(d:Int)(e:By)(f g:Int)(h:Option Addr × Nat × Nat→List Int→Prop)(i:Sk→Prop):=A3 (AQ a b (AR (A4 a=AS b c) a.19 d e a f g b (a.27=List.take (A4 b) b.27++Al (Az c))))
  (zj1 a.28 h) (i a);
 let AW(a:Int)(b c:Prop):=A3 (U64 a) b c;
 let AX(a b c:Prop):=a→b∧c;
 let AY:=(8:Int)≤(8:PmT [i64]);
 let AZ(a:Int):=(0:Int)≤a;
 let A157(a:By)(b:Sk)(c:Int):=AC a (AH a b) c;
 let A158(a b c d e f g h i:Prop):=A7 a b c d (A7 e f g h i);
 let A159(a:Sk)(b:List (El [Ty.i IntKind.u8])):=List.take (A0 a) a.1++b;
 let A160:=(112:Int).toNat;
 let A161(a:Sk):=(↑(A4 a):Int);
 let A162(a:By)(b:PmT [i64] × Int × Int)(c:Int):=A3 (AB a b) ((0:Int)≤b.fst) (b.fst<c);
 let A163(a:Sk):=A0 a≤A0 a;
 let A164:=(0:PmT [i64])≤(8:Int);
 let A165(a:Int):=zc6 (A9 a) (8:Nat);
 let A166(a:PmT [bl] × Int × Int):=a.snd.snd;
 let A167(a b:Nat)(c:Sk)(d:Nat):=Ax (Ay a b) (A163 c) d;
 let A168(a:Prop)(b c:Int)(d e:Prop)(f g h i:Int)(j:By)(k:Sk)(l m:Int)(n:Sk)(o:Prop):=Ab a b c d e (AR (f=g) h i j k l m n o);
 let A169(a b:Sk)(c:Option Addr × Nat × Nat)(d:By)(e:PmT [u64] × Int × Int)(f:Option Addr × Nat × Nat→List Int→Prop)(g:Sk→Prop):=AV a b c b.19 d e.snd.fst e.snd.snd f g;
 let A170(a b:Sk)(c d e f:Int)(g:By)(h i:Int)(j:Sk→Prop):=AU a b (Am a b) c d e f g h i (a.1=b.1) j;
 let A171(a:PmT [bl] × Int × Int):=a.snd.fst;
 let A172(a b:Sk)(c:List (El [Ty.i IntKind.u8])):=a.1=A159 b c;
 let A173(a:Prop)(b:By)(c:Prop)(d:Int)(e:Prop):=AX a (AC b c d) e;
 let A174(a:PmT [i64] × Int × Int):=a.snd.snd;
 let A175(a:Int):=(4:Int)*a;
 let A176(a:Sk):=(88:Nat)≤A0 a;
 let A177(a:PmT [i64] × Int × Int):=a.snd.fst;
 let A178(a b c d:Prop):=a→A3 b c d;
 let A179(a:By)(b:Int)(c:Sk):=ScA a (87:Nat) b.toNat c;
 let A180(a:PmT [i64] × Int × Int):=A1 ((1:Int)+a.fst);
 let A181(a b:Sk)(c:Int):=Ak a (Au b (Af (Ae c)));
 let A182(a b:Sk)(c:Int):=A172 a b (Af (Ae c));
 let A183(a:Int):=AF (1:Nat) (AE a []);
 let A184(a:By)(b c d e:Int)(f:Prop):=Ab (A8 a a) b c (d=e) (a=a) f;
 let A185(a:PmT [i64] × Int × Int):=zng (A180 a) (2:Int);
 let A186(a:Int)(b:By):=zjx (Aw a (1:Int)) b;
 let A187(a:Prop)(b:By)(c:Sk)(d:Int)(e:Prop):=AX a (A157 b c d) e;
 let A188(a:Prop)(b c:Int)(d:Prop)(e:By)(f:Sk)(g h:Int)(i:Sk)(j:Int):=AM a b c d e f g h (A182 f i j);
 let A189(a:Prop)(b:By)(c d:Prop):=AX a (A3 (A8 b b) c True) d;
 let A190(a b:Sk):=a.27=b.27;
 let A191(a:Sk):=zc6 (A9 a.11) (2:Int).toNat;
 let A192(a:Prop)(b c:Sk)(d:Sk→Prop):=Ap a b c (d b);
 let A193(a b:Sk)(c:Int)(d:By)(e f:Int)(g:Sk→Prop):=Ap (AQ a b (A168 (AO a b) a.19 b.19 (a.20=b.20) (a.21=b.21) a.22 b.22 a.23 c d a e f b (A190 a b))) a b (g a);
 let A194(a:Int)(b:Sk):=A167 (List.length (Ae a)) (List.length (Ae a)) b (Au b (Af (Ae a)));
 let A195(a:Int)(b:PmT [u64] × Int × Int):=Aj (Aw a (0:Int)) (AI b);
 let A196(a:Int)(b:By):=Aj (Aw a (1:Int)) b;
 let A197(a b:Int):=(a-b).toNat;
 let A198(a:PmT [bl] × Int × Int):=a.fst=true;
 let A199(a:Int):=a+(8:Int);
 let A200(a:Int)(b:PmT [u64] × Int × Int):=zjx (Aw a (0:Int)) (AI b);
 let A201(a b:Sk)(c d:Prop)(e:By)(f g h i:Int)(j:Prop)(k:Sk→Prop):=A192 (A3 (AG a b) (AJ a b) (A7 A5 c d A5 (A184 e f g h i j))) a b k;
 let A202(a:Int)(b:List (El [Ty.i IntKind.u8])):=a % (256:Int)::Aa a % (256:Int)::b;
 let A203(a:Int)(b:List (El [Ty.i IntKind.u8])):=AF (2:Nat) (AE a b);
 let A204:=Int.ofNat (12:Nat);
 let A205(a:By)(b:PmT [u64] × Int × Int):=Ad a b.snd∧U64 b.fst;
 let A206(a:Sk):=(10:Int)+(8:Int)*(a.20-(5:Int));
 let A207(a:Sk):=zc6 a.19 (8:Nat);
 let A208(a b:Int):=Ao a (A1 b);
 let A209(a:Option Addr × Nat × Nat)(b:Sk)(c:Prop):=Ax (Ay (1:Nat) (Az a).length) (A4 b≤A4 b) (AS b a)∧c;
 let A210(a b:Sk)(c:List (El [Ty.i IntKind.u8])):=Ak a (Au b c);
 let A211(a b:Sk):=a.1=b.1;
 let A212:=Int.ofNat (1:Nat);
 let A213(a:By)(b:Sk):=ScA a (87:Nat) (34:Nat) b;
 let A214(a b c d:Prop):=(a∧(b→c))∧d;
 let A215(a:By):=Ay (List.length a) (List.length a);
 let A216(a:Prop)(b:PmT [bl] × Int × Int)(c d:Prop):=A214 a (b.fst=false) c d;
 let A217(a:Int):=Ao a (1:Int);
 let A218:=Aw (3:Int) (2:Int);
 let A219(a:Int):=A9 (A9 a*(1024:Int));
 let A220(a:By)(b:PmT [bl] × Int × Int)(c:Prop):=AP a b∧True→c;
 let A221(a:By)(b:Sk):=ScA a (3:Nat) (0:Nat) b;
 let A222(a b:Int):=decide (a<b)=false;
 let A223(a b:Sk)(c:Int)(d:By):=An (AG a b) (AJ a b) A5 (A168 (Am a b) a.11 b.11 A5 (AO a b) a.19 b.19 a.20 c d a b.2 b.3 b (A190 a b));
 let A224(a b:Sk)(c:PmT [i64] × Int × Int)(d:Prop)(e:By)(f g:Int)(h:Sk→Prop):=A192 (AN a b (A181 a b b.13) (a.13=b.13) (A188 (a.14=A9 (Ao (A1 ((64:Int)*A1 ((2:Int)+c.fst))) (16:Int))) a.15 (4416:Int) d e
  a f g b b.13)) a b h;
 let A225(a b:Sk)(c:Prop)(d:By)(e f:Int)(g:Sk→Prop):=A201 a b (A210 a b (A203 b.8 (AE (A208 b.9 (A175 b.10)) []))) c d a.2 e a.3 f (A172 a b (A203 b.8 (AE (A208 b.9 (A175 b.10)) []))) g;
 let A226(a:By)(b:PmT [i64] × Int × Int):=A162 a b (2:Int);
 let A227(a b:Sk)(c:Int)(d:By)(e f:Int)(g:Sk→Prop):=A192 (A7 (AG a b) (AJ a b) A5 (A181 a b c) (A188 (AK a b) a.13 b.13 (a.17=b.17) d a e f b c)) a b g;
 let A228(a:Prop)(b:By)(c:Sk)(d:Prop):=A189 a b (AH b c) d;
 let A229(a:PmT [u64] × Int × Int):=(16384:Int)+a.fst;
 let A230(a b:Sk)(c:List (El [Ty.i IntKind.u8]))(d:Int)(e:By):=AN a b (A210 a b c) A5 (Ab (AO a b) a.24 d A5 (A8 e e) (Ab (a.2=b.2) a.3 b.3 (e=e) (A172 a b c) (A190 a b)));
 let A231(a:Prop)(b:By)(c d:Prop):=A173 a b c (3:Int) d;
 let A232(a:Sk):=zjx (0:Int) (Af a.25);
 let A233(a:PmT [u64] × Int × Int):=(24576:Int)+a.fst;
 let A234(a b:Int):=decide (a<b)=true;
 let A235(a:PmT [u64] × Int × Int):=a.snd.snd;
 let A236(a:PmT [u64] × Int × Int):=a.snd.fst;
 let A237(a:Sk):=Af (A191 a);
 let A238(a b:Int)(c:List (El [Ty.i IntKind.u8])):=AE a (AE b c);
 let A239(a:PmT [byP] × Int × Int):=(↑(Aq a):Int);
 let A240(a b:Sk)(c:Prop):=AG a b∧c;
 let A241(a b:Sk)(c:Prop)(d:By)(e f:Int)(g:Prop)(h:Sk→Prop):=A192 (A158 (AG a b) (AJ a b) A5 (Am a b) (AK a b) A5 (AO a b) A5 (A158 c A5 (A8 d d) (a.2=e) (a.3=f) (d=d) (A211 a b) (A190 a b) g)) a b h;
 let A242(a b:Sk)(c:Nat)(d:By)(e:PmT [bl] × Int × Int)(f:Prop)(g:Sk→Prop):=A192 (A158 (AG a b) (AJ a b) A5 (Am a b) (AK a b) A5 (A2 (A4 a)) A5 (A158 (A6 a.25 c) A5 (A8 d d) (a.2=A171 e) (a.3=A166 e) (d=d) (A211 a
  b) (a.27=[]) f)) a b g;
 let A243(a:Int)(b:Nat)(c:Prop):=AW a (Ay b b) c;
 let A244(a:Int):=bits BinOp.and IntKind.i64 a (255:Int);
 let A245(a:By)(b:PmT [i64] × Int × Int):=A162 a b (16:Int);
 let A246(a:Sk):=List.take (A160-AL) (List.drop (Ai AL) a.26);
 let A247(a:Sk):=A0 a≤(11000:Nat);
 let A248:=(4:Nat)+(4:Nat);
 let A249(a:Sk)(b:Option Addr × Nat × Nat)(c:List Int)(d:Option Addr × Nat × Nat)(e:By):=a.28 b c∨b=d∧c=Af e;
 let A250(a:By)(b:PmT [u64] × Int × Int)(c:Nat)(d:Prop):=A178 (A205 a b) (U64 b.fst) (Ay c c) d;
 let A251(a b:Int):=bif a==(0:Int) then decide (b>(1:Int)) else false;
 let A252(a:PmT [byP] × Int × Int)(b:Nat)(c:By)(d e:Int)(f:Prop):=A7 (An A5 (Aq a=b) A5 (A184 c a.snd.fst d a.snd.snd e f)) (Ad c a.snd) (InB a.fst) ((80:Nat)≤Aq a) (Aq a≤(20000:Nat));
 let A253(a b c d e f:Prop)(g:By)(h:Sk)(i j:Int)(k:Sk)(l:Prop):=A158 a b c d e f A5 (A8 g g) (Ab (h.2=i) h.3 j (g=g) (A211 h k) l);
 let A254(a b:Sk)(c:By):=A240 a b (A158 (AJ a b) A5 (Am a b) (AK a b) A5 (AO a b) A5 (A8 c c) (Ab (a.2=b.2) a.3 b.3 (c=c) (A211 a b) (A190 a b)));
 let A255(a:By)(b c:Sk):=A179 a (A199 (A206 b)) c;
 let A256(a:Int)(b:Sk)(c:By)(d:Int)(e f g:Prop):=A214 (A173 (A251 a b.21=true) c (zbe c (iN (List.length c) b.2)) d e) (A251 a b.21=false) f g;
 let A257(a:Sk):=(5:Int)≤a.20;
 let A258(a:Sk):=Ai a.24.toNat;
 let A259(a:By)(b:Sk):=ScA a (A0 b) (A4 b) b;
 let A260(a b:Sk):=Ak a (A0 b+(8:Nat));
 let A261(a:Sk):=A219 a.23+a.22;
 let A262(a:Int)(b:List Int):=IntKind.u8.wrap a::b;
 let A263(a:Prop)(b:By)(c:Sk)(d:Prop):=A187 a b c (2:Int) d;
 let A264(a:By)(b:PmT [u64] × Int × Int)(c:Prop):=A205 a b→c;
 let A265(a:Sk→Prop)(b:Sk)(c d:Int)(e:Prop)(f:By)(g:Int)(h:Prop):=a b→An (AW c ((0:PmT [i64])≤d) (d≤(8:PmT [i64]))) e (A157 f b g) h;
 let A266(a:Sk):=A197 (35:Int) a.24;
 let A267(a:By)(b:Sk):=A7 (ScA a (A0 b) (35:Nat) b) (AZ b.24) (b.24≤(35:Int)) ((↑(A0 b):Int)≤(100:Int)+(300:Int)*b.24) (A176 b);
 let A268(a b:Sk):=a.20=b.20;
 let A269(a:Sk)(b c d:Prop):=A214 (a.4=true→b) (a.4=false) c d;
 let A270(a b:Int)(c:List (El [Ty.i IntKind.u8])):=A238 a (Ar Ac Ac) (A238 Ac (A244 b) c);
 let A271(a:By)(b:Sk):=ScA a b.6.toNat (0:Nat) b;
 let A272(a:By)(b:Sk):=An (A179 a (A206 b+b.21) b) (A257 b∧b.20≤(7:Int)) (AZ b.21) (b.21≤(8:Int));
 let A273(a:Sk):=List.length (zjx (512:Int) (A246 a));
 let A274(a:Sk)(b:Option Addr × Nat × Nat→List Int→Prop):=zj1 a.28 b;
 let A275(a:Int)(b:PmT [i64] × Int × Int):=a=b.fst;
 let A276(a:Sk):=(a.27.getD (A258 a) (El.zero (Ty.sv::[]))).snd;
 let A277(a:PmT [byP] × Int × Int):=List.take (Aq a) (List.drop (0:Nat) a.fst);
 let A278(a b:Sk)(c:Option Addr × Nat × Nat):=A4 a=AS b c;
 let A279(a:Prop)(b c:Sk)(d e:Prop):=An a (Ah b c.28) d e;
 let A280(a:By)(b:PmT [i64] × Int × Int)(c:Prop):=A162 a b (3:Int)→c;
 let A281:=A202 Ac (A202 (AD Ac) (A202 (AD (AD Ac)) (A202 (AD (AD (AD Ac))) [])));
 let A282(a:Sk→Prop)(b:Sk)(c:Int)(d:Prop):=AX (a b) (Ax (Ay (1:Nat) (AE c []).length) (A163 b) (Au b (A183 c))) d;
 let A283(a:Sk→Prop)(b:Sk)(c:By)(d:Int)(e:Prop):=AX (a b) (An (A8 c c) (AH c b) ((1:Int)≤d) (d≤(256:Int))) e;
 let A284(a b:Sk):=a.19=b.19;
 let A285(a b:Sk)(c:Option Addr × Nat × Nat):=a.27=List.take (A4 b) b.27++Al (Az c);
 let A286(a:Sk→Prop)(b:Sk)(c:Int)(d:Prop):=A178 (a b) (AW c A164 AY) (A194 c b) d;
 (∀(m:By)(z:Sk),zzu m z=(A187 (A234 z.6 (3:Int)) m z (16:Int) (∀(x0':PmT [i64] × Int × Int),A231 (A245 m x0') m (AB m x0') (∀(x1':PmT [bl] × Int × Int),A220 m x1' (∃(x2':Sk→Prop),A216 (AX (A198 x1') ((2:Int)
  ≠ (0:Int)) (∃(x3':Sk),A170 x3' z x3'.6 z.6 x3'.7 (Int.tmod x0'.fst (2:Int)) m (A171 x1') (A166 x1') x2')) x1' (∃(x4':Sk),AT x4' z (Am x4' z) x4'.6 z.6 (A275 x4'.7 x0') m (A171 x1') (A166 x1') (A211 x4' z) x2') (∀(x5':Sk),
  A282 x2' x5' x5'.7 (∃(x6':Sk),A7 (A3 (AG x6' x5') (AJ x6' x5') (A7 A5 (A210 x6' x5' (A183 x5'.7)) (x6'.6=A217 x5'.6) A5 (A184 m x6'.2 x5'.2 x6'.3 x5'.3 (A172 x6' x5' (A183 x5'.7))))) (Ah x6' x5'.28) (A3 (A271 m x6') (AZ x6'.6) (x6'.6
  ≤ (3:Int))) (A197 (3:Int) x6'.6<A197 (3:Int) z.6) (∀(x7':Sk),A221 m x7'→A221 m x7'))))))∧(A222 z.6 (3:Int)→∃(x8':Sk),Ap (A240 x8' z (A7 (AJ x8' z) A5 (Am x8' z) A5 (A184 m x8'.2 z.2 x8'.3 z.3 (A211 x8' z)))) x8' z
  (A221 m x8'))))∧(∀(m:By)(z:Sk),zzv m z=((A234 z.20 (8:Int)→∃(x0':Sk),A279 (A158 (AG x0' z) (AJ x0' z) A5 (Am x0' z) (AK x0' z) A5 (AO x0' z) (x0'.19=z.19) (AR (x0'.20=z.20) x0'.21 (0:Int) m x0' z.2 z.3 z (A190
  x0' z))) x0' z (A272 m x0') (∀(x1':Sk),A255 m x0' x1'∧A268 x1' x0'→∃(x2':Sk),A7 (A223 x2' x1' (A217 x1'.20) m) (Ah x2' x1'.28) (A3 (A179 m (A206 x2') x2') (A257 x2') (x2'.20≤(8:Int))) (A197 (8:Int) x2'.20<A197 (8:Int)
  z.20) (∀(x3':Sk),A213 m x3'→A213 m x3')))∧(A222 z.20 (8:Int)→∃(x4':Sk),Ap (A254 x4' z m) x4' z (A213 m x4'))))∧(∀(m:By)(z:Sk),zzw m z=(A228 (A234 z.21 (8:Int)) m z (∀(x0':PmT [u64] × Int × Int),A264 m
  x0' (∃(x1':Sk→Prop),A214 (A234 z.21 (2:Int)→∃(x2':Sk),A192 (A240 x2' z (A158 (AJ x2' z) A5 (Am x2' z) (AK x2' z) A5 (AO x2' z) (A284 x2' z) (x2'.20=z.20) (AR (x2'.21=z.21) x2'.22 (A9 (A199 z.19)) m x2' (A236 x0') (A235
  x0') z (A190 x2' z)))) x2' z x1') (A222 z.21 (2:Int)) (∃(x3':Sk),A192 (A240 x3' z (A7 (AJ x3' z) A5 (Am x3' z) (AK x3' z) (A253 A5 (AO x3' z) (A284 x3' z) (A268 x3' z) (x3'.21=z.21) (x3'.22=x0'.fst) m x3' (A236 x0') (A235 x0') z
  (A190 x3' z)))) x3' z x1') (∀(x4':Sk),A283 x1' x4' m (4:Int) (∃(x5':Sk→Prop),A256 (byM m x4'.2 x4'.3 % (4:Int)) x4' m (8:Int) (∀(x6':PmT [i64] × Int × Int),A162 m x6' (8:Int)→∃(x7':Sk),A193 x7' x4' (A1 ((8:Int)
  + x6'.fst)) m (A177 x6') (A174 x6') x5') (∃(x8':Sk),A193 x8' x4' (Ao (8:Int) x4'.21) m (iN (List.length m) x4'.2) (hN x4'.3) x5') (∀(x9':Sk),A283 x5' x9' m (14:Int) (∃(x10':Sk→Prop),A256 (byM m x9'.2 x9'.3 % (14:Int))
  x9' m (9:Int) (∀(x11':PmT [i64] × Int × Int),A162 m x11' (9:Int)→∃(x12':Sk),A193 x12' x9' (A1 ((60:Int)+x11'.fst)) m (A177 x11') (A174 x11') x10') (∃(x13':Sk),A193 x13' x9' x9'.23 m (iN (List.length m) x9'.2) (hN
  x9'.3) x10') (∀(x14':Sk),x10' x14'→∃(x15':Sk→Prop),(∃(x16':Sk),A193 x16' x14' x14'.23 m x14'.2 x14'.3 x15')∧∀(x17':Sk),x15' x17'→A243 (A9 (A261 x17')) (Aj (Aw x17'.20 x17'.21) (A165 (A261 x17'))) (∀(x18':Option
  Addr × Nat × Nat),A209 x18' x17' (∃(x19':Sk),A7 (A158 (AG x19' x17') (AJ x19' x17') A5 (Am x19' x17') (AK x19' x17') A5 (A278 x19' x17' x18') (A284 x19' x17') (AR (A268 x19' x17') x19'.21 (A217 x17'.21) m x19' x17'.2 x17'.3 x17' (A285
  x19' x17' x18'))) (A274 x19' (fun  (x20':Option Addr × Nat × Nat)=>fun  (x21':List Int)=>A249 x17' x20' x21' x18' (zjx (Aw x17'.20 x17'.21) (A165 (A261 x17'))))) (A272 m x19') (A197 (8:Int) x19'.21<A197 (8:Int) z.21) (∀(x22' :
  Sk),AX (A255 m x19' x22'∧A268 x22' x19') (A255 m z x22') (A268 x22' z)))))))))))∧(A222 z.21 (8:Int)→∃(x23':Sk),A279 (A223 x23' z z.20 m) x23' z (A255 m z x23') (A268 x23' z))))∧(∀(m:By)(z:Sk),zzx m z=(A178 (A234
  z.24 (A161 z)) (AZ z.24∧z.24<A161 z) (A258 z<A4 z) (∃(x0':List (El [Ty.i IntKind.u8])),A3 (z.28 ((z.27.getD (A258 z) (El.zero (Ty.sv::[]))).fst,(A276 z).fst,(A276 z).snd) x0') (A167 x0'.length x0'.length z (Au z (AF x0'.length
  x0'))) (∃(x1':Sk),A7 (A230 x1' z (AF x0'.length x0') (A217 z.24) m) (Ah x1' z.28) (A267 m x1') (A266 x1'<A266 z) (∀(x2':Sk),A178 (A3 (A259 m x2') (A247 x2') (A176 x2')) (A259 m x2') (A247 x2') (A176 x2'))))∧(A222 z.24 (A161 z) →
  ∃(x3':Sk),A7 (AQ x3' z (A184 m x3'.2 z.2 x3'.3 z.3 (A211 x3' z))) (Ah x3' z.28) (A259 m x3') (A247 x3') (A176 x3'))))∧(∀(m:By)(i h:Int),ypg m i h=(AC m (zbe m i) (4:Int)∧∀(x0':PmT [bl] × Int × Int),A231 (AP m x0'
  ∧ True) m (AP m x0') (∀(x1':PmT [i64] × Int × Int),A280 m x1' (∃(x2':Sk),An (A3 (x2'.4=x0'.fst) (x2'.5=decide (x1'.fst>(0:Int))) (A7 A5 (A2 (A0 x2')) (x2'.6=(0:Int)) A5 (A184 m x2'.2 (A177 x1') x2'.3 (A174 x1') (x2'.1 =
  [])))) (Ah x2' Fz.none) (A3 (A271 m x2') (AZ x2'.6) (x2'.6≤(3:Int))) (∀(x3':Sk),A187 (A221 m x3') m x3' (8:Int) (∀(x4':PmT [bl] × Int × Int),A220 m x4' (∃(x5':Sk→Prop),A216 (A173 (A198 x4') m (AP m x4') (40:Int) (∀
  (x6':PmT [i64] × Int × Int),A162 m x6' (40:Int)→∃(x7':Sk),A201 x7' x3' (Am x7' x3') (x7'.8=A1 ((14:Int)+x6'.fst)) m x7'.2 (A177 x6') x7'.3 (A174 x6') (A211 x7' x3') x5')) x4' (∃(x8':Sk),A201 x8' x3' (Am x8' x3') (x8'.8
  = (63:Int)) m x8'.2 (A171 x4') x8'.3 (A166 x4') (A211 x8' x3') x5') (∀(x9':Sk),x5' x9'→∃(x10':Sk→Prop),A269 x9' (∃(x11':Sk),A170 x11' x9' x11'.8 x9'.8 x11'.9 (0:Int) m x9'.2 x9'.3 x10') (∃(x12':Sk),A170 x12' x9'
  x12'.8 x9'.8 x12'.9 (1:Int) m x9'.2 x9'.3 x10') (∀(x13':Sk),A187 (x10' x13') m x13' (25:Int) (∀(x14':PmT [bl] × Int × Int),A220 m x14' (∃(x15':Sk→Prop),A216 (A198 x14'→∃(x16':Sk),A170 x16' x13' x16'.8 x13'.8 x16'.9
  (2:Int) m (A171 x14') (A166 x14') x15') x14' (∃(x17':Sk),A170 x17' x13' x17'.8 x13'.8 x17'.9 x13'.9 m (A171 x14') (A166 x14') x15') (∀(x18':Sk),A187 (x15' x18') m x18' (4:Int) (∀(x19':PmT [i64] × Int × Int),A162 m x19' (4 :
  Int)→∃(x20':Sk→Prop),(∃(x21':Sk),A192 (A7 (AG x21' x18') (AJ x21' x18') A5 (Am x21' x18') (AM (x21'.8=x18'.8) x21'.9 x18'.9 (A275 x21'.10 x19') m x21' (A177 x19') (A174 x19') (A211 x21' x18'))) x21' x18' x20')∧∀(x22':Sk),
  A178 (x20' x22') (A167 (2:Nat) (A238 x22'.8 (A208 x22'.9 (A175 x22'.10)) []).length x22' (Au x22' (A203 x22'.8 (AE (A208 x22'.9 (A175 x22'.10)) [])))) (A157 m x22' (70:Int)) (∀(x23':PmT [i64] × Int × Int),A173 (A162 m x23' (70 :
  Int)) m (AB m x23') (12:Int) (∀(x24':PmT [bl] × Int × Int),A220 m x24' (∃(x25':Sk→Prop),A216 (A231 (A198 x24') m (AP m x24') (∀(x26':PmT [i64] × Int × Int),A280 m x26' (∃(x27':Sk),A225 x27' x22' (A275 x27'.11 x26') m
  (A177 x26') (A174 x26') x25'))) x24' (∃(x28':Sk),A225 x28' x22' (x28'.11=A1 ((15:Int)+x23'.fst)) m (A171 x24') (A166 x24') x25') (∀(x29':Sk),A187 (x25' x29') m x29' (60:Int) (∀(x30':PmT [bl] × Int × Int),A220 m x30' (∃
  (x31':Sk→Prop),A216 (A231 (A198 x30') m (AP m x30') (∀(x32':PmT [i64] × Int × Int),A280 m x32' (∃(x33':Sk),A201 x33' x29' (Am x33' x29') (x33'.11=A1 ((19999:Int)+x32'.fst)) m x33'.2 (A177 x32') x33'.3 (A174 x32') (A211
  x33' x29') x31'))) x30' (∃(x34':Sk),A192 (AQ x34' x29' (A184 m x34'.2 (A171 x30') x34'.3 (A166 x30') (A211 x34' x29'))) x34' x29' x31') (∀(x35':Sk),x31' x35'→∃(x36':Sk→Prop),(∃(x37':Sk),A192 (AQ x37' x35' (A184 m x37'.2
  x35'.2 x37'.3 x35'.3 (A211 x37' x35'))) x37' x35' x36')∧∀(x38':Sk),A265 x36' x38' (A9 x38'.11) (2:Int) (A167 (List.length (A191 x38')) (List.length (A191 x38')) x38' (Au x38' (A237 x38'))) m (20:Int) (∀(x39':PmT [bl] × Int ×
  Int),A220 m x39' (∃(x40':Sk→Prop),A216 (A189 (A198 x39') m (AP m x39') (∀(x41':PmT [u64] × Int × Int),A264 m x41' (∃(x42':Sk),AT x42' x38' (A210 x42' x38' (A237 x38')) x42'.11 x38'.11 (x42'.12=x41'.fst) m (A236 x41') (A235
  x41') (A172 x42' x38' (A237 x38')) x40'))) x39' (∃(x43':Sk),AU x43' x38' (A210 x43' x38' (A237 x38')) x43'.11 x38'.11 x43'.12 (0:Int) m (A171 x39') (A166 x39') (A172 x43' x38' (A237 x38')) x40') (∀(x44':Sk),x40' x44'→∃(x45' :
  Sk→Prop),(∃(x46':Sk),A170 x46' x44' x46'.11 x44'.11 x46'.12 x44'.12 m x44'.2 x44'.3 x45')∧∀(x47':Sk),A286 x45' x47' x47'.12 (∃(x48':Sk→Prop),(∃(x49':Sk),A192 (AN x49' x47' (A181 x49' x47' x47'.12) A5 (A184 m x49'.2
  x47'.2 x49'.3 x47'.3 (A182 x49' x47' x47'.12))) x49' x47' x48')∧∀(x50':Sk),A265 x48' x50' Ac (Int.ofNat (8:Nat)) (Ax ((Ai (8:Nat)).le (8:Nat)) (A163 x50') (A0 x50'+(8:Nat))) m (2:Int) (∀(x51':PmT [i64] × Int × Int),
  A173 (A226 m x51') m (AB m x51') (30:Int) (∀(x52':PmT [bl] × Int × Int),A220 m x52' (∃(x53':Sk→Prop),A216 (A173 (A198 x52') m (AP m x52') (16:Int) (∀(x54':PmT [i64] × Int × Int),AX (A245 m x54') ((60:Int)≤(64:PmT
  [i64])) (∃(x55':Sk),AU x55' x50' (A260 x55' x50') x55'.11 x50'.11 x55'.13 (A9 (IntKind.u64.wrap x54'.fst*pw (60:Int))) m (A177 x54') (A174 x54') (A172 x55' x50' A281) x53'))) x52' (∃(x56':Sk),AU x56' x50' (A260 x56' x50')
  x56'.11 x50'.11 x56'.13 (zng (A180 x51') (1:Int)) m (A171 x52') (A166 x52') (A172 x56' x50' A281) x53') (∀(x57':Sk),x53' x57'→∃(x58':Sk→Prop),(∃(x59':Sk),A170 x59' x57' x59'.11 x57'.11 x59'.13 x57'.13 m x57'.2 x57'.3
  x58')∧∀(x60':Sk),x58' x60'→An (AW x60'.13 A164 AY) (A194 x60'.13 x60') (A157 m x60' (4:Int)) (∀(x61':PmT [i64] × Int × Int),A173 (A162 m x61' (4:Int)) m (AB m x61') (8:Int) (∀(x62':PmT [i64] × Int × Int),A189 (A162 m
  x62' (8:Int)) m (AB m x62') (∀(x63':PmT [u64] × Int × Int),A173 (A205 m x63') m (Ad m x63'.snd) (8:Int) (∀(x64':PmT [bl] × Int × Int),A220 m x64' (∃(x65':Sk→Prop),A216 (A189 (A198 x64') m (AP m x64') (∀(x66':PmT [u64] ×
  Int × Int),A264 m x66' (∃(x67':Sk),A224 x67' x60' x61' (x67'.16=x66'.fst) m (A236 x66') (A235 x66') x65'))) x64' (∃(x68':Sk),A224 x68' x60' x61' (x68'.16=A9 (A219 (A1 ((8:Int)+x62'.fst))+x63'.fst)) m (A171 x64') (A166
  x64') x65') (∀(x69':Sk),A187 (x65' x69') m x69' (16:Int) (∀(x70':PmT [i64] × Int × Int),A245 m x70'→∃(x71':Sk→Prop),(∃(x72':Sk),A192 (An (AG x72' x69') (AJ x72' x69') A5 (Ab (Am x72' x69') x72'.11 x69'.11 (x72'.13 =
  x69'.13) (x72'.14=x69'.14) (AM (x72'.15=x69'.15) x72'.16 x69'.16 (x72'.17=A9 (Ao (A208 (512:Int) ((64:Int)*x70'.fst)) (8:Int))) m x72' (A177 x70') (A174 x70') (A211 x72' x69')))) x72' x69' x71')∧∀(x73':Sk),A286 x71' x73'
  x73'.14 (∃(x74':Sk→Prop),(∃(x75':Sk),A192 (AN x75' x73' (A181 x75' x73' x73'.14) (x75'.13=x73'.13) (A188 (x75'.15=x73'.15) x75'.16 x73'.16 (x75'.17=x73'.17) m x75' x73'.2 x73'.3 x73' x73'.14)) x75' x73' x74')∧∀(x76' :
  Sk),A286 x74' x76' x76'.15 (∃(x77':Sk→Prop),(∃(x78':Sk),A192 (A240 x78' x76' (A7 (AJ x78' x76') A5 (A181 x78' x76' x76'.15) (AK x78' x76') (A188 (x78'.13=x76'.13) x78'.16 x76'.16 (x78'.17=x76'.17) m x78' x76'.2 x76'.3 x76'
  x76'.15))) x78' x76' x77')∧∀(x79':Sk),A286 x77' x79' x79'.16 (∃(x80':Sk→Prop),(∃(x81':Sk),A227 x81' x79' x79'.16 m x79'.2 x79'.3 x80')∧∀(x82':Sk),A263 (x80' x82') m x82' (∀(x83':PmT [i64] × Int × Int),A178 (A226 m
  x83') (AW (A185 x83') A164 AY) (A194 (A185 x83') x82') (∃(x84':Sk→Prop),(∃(x85':Sk),A227 x85' x82' (A185 x83') m (A177 x83') (A174 x83') x84')∧∀(x86':Sk),A286 x84' x86' x86'.13 (∃(x87':Sk→Prop),(∃(x88':Sk),AU x88'
  x86' (A181 x88' x86' x86'.13) x88'.11 x86'.11 x88'.17 x86'.17 m x86'.2 x86'.3 (A182 x88' x86' x86'.13) x87')∧∀(x89':Sk),x87' x89'→An (AW x89'.17 A164 AY) (A194 x89'.17 x89') (A157 m x89' (3:Int)) (∀(x90':PmT [i64] × Int × Int),
  A280 m x90' (∃(x91':Sk→Prop),(∃(x92':Sk),AT x92' x89' (A181 x92' x89' x89'.17) x92'.11 x89'.11 (A275 x92'.18 x90') m (A177 x90') (A174 x90') (A182 x92' x89' x89'.17) x91')∧∀(x93':Sk),A286 x91' x93' (A9 x93'.18) (∃(x94':Sk
  → Prop),(∃(x95':Sk),A192 (AN x95' x93' (A181 x95' x93' (A9 x93'.18)) A5 (A184 m x95'.2 x93'.2 x95'.3 x93'.3 (A182 x95' x93' (A9 x93'.18)))) x95' x93' x94')∧∀(x96':Sk),A187 (x94' x96') m x96' (6:Int) (∀(x97':PmT [bl] × Int ×
  Int),A220 m x97' (∃(x98':Sk→Prop),A216 (AX (A198 x97') (Ax ((Ai (4:Nat)).le (4:Nat)) ((4:Nat)≤(4:Nat)) A248) (∃(x99':Sk),A242 x99' x96' A248 m x97' (x99'.25=A270 (Int.ofNat (11:Nat)) Ac (A270 A204 A212 [])) x98'))
  x97' (∃(x100':Sk),A242 x100' x96' (4:Nat) m x97' (x100'.25=A262 A204 (A262 (Ar Ac Ac) (A262 Ac (A262 (A244 A212) [])))) x98') (∀(x101':Sk),x98' x101'→∃(x102':Sk→Prop),(∃(x103':Sk),A241 x103' x101' (A8 x103'.25
  x101'.25) m x101'.2 x101'.3 (x103'.25=x101'.25) x102')∧∀(x104':Sk),A178 (x102' x104') (A215 x104'.25∧SzR (Af x104'.25).length) (A215 (A232 x104')) (∀(x105':Option Addr × Nat × Nat),A209 x105' x104' (∃(x106':Sk→Prop),A269
  x104' (∃(x107':Sk),AV x107' x104' x105' (A9 ((199:Int)+(16:Int))) m x104'.2 x104'.3 (fun  (x108':Option Addr × Nat × Nat)=>fun  (x109':List Int)=>A249 x104' x108' x109' x105' (A232 x104')) x106') (∃(x110':Sk),AV x110'
  x104' x105' (199:Int) m x104'.2 x104'.3 (fun  (x108':Option Addr × Nat × Nat)=>fun  (x109':List Int)=>A249 x104' x108' x109' x105' (A232 x104')) x106') (∀(x111':Sk),x106' x111'→∃(x112':Sk→Prop),(∃(x113':Sk),A192 (AQ
  x113' x111' (AR (AO x113' x111') x113'.19 x111'.19 m x113' x111'.2 x111'.3 x111' (A190 x113' x111'))) x113' x111' x112')∧∀(x114':Sk),A228 (x112' x114') m x114' (∀(x115':PmT [u64] × Int × Int),A250 m x115' (A195 (1:Int) x115') (∀
  (x116':Option Addr × Nat × Nat),A209 x116' x114' (∃(x117':Sk→Prop),(∃(x118':Sk),A169 x118' x114' x116' m x115' (fun  (x119':Option Addr × Nat × Nat)=>fun  (x120':List Int)=>A249 x114' x119' x120' x116' (A200 (1:Int)
  x115')) x117')∧∀(x121':Sk),x117' x121'→A243 x121'.19 (A196 (1:Int) (A207 x121')) (∀(x122':Option Addr × Nat × Nat),A209 x122' x121' (∃(x123':Sk→Prop),(∃(x124':Sk),AV x124' x121' x122' x121'.19 m x121'.2 x121'.3 (fun
  (x125':Option Addr × Nat × Nat)=>fun  (x126':List Int)=>A249 x121' x125' x126' x122' (A186 (1:Int) (A207 x121'))) x123')∧∀(x127':Sk),A263 (x123' x127') m x127' (∀(x128':PmT [i64] × Int × Int),A189 (A226 m x128') m (AB m
  x128') (∀(x129':PmT [u64] × Int × Int),A250 m x129' (A195 (2:Int) x129') (∀(x130':Option Addr × Nat × Nat),A209 x130' x127' (∃(x131':Sk→Prop),(∃(x132':Sk),A169 x132' x127' x130' m x129' (fun (x133':Option Addr × Nat ×
  Nat)=>fun  (x134':List Int)=>A249 x127' x133' x134' x130' (A200 (2:Int) x129')) x131')∧∀(x135':Sk),x131' x135'→A243 x135'.19 (A196 (2:Int) (A207 x135')) (∀(x136':Option Addr × Nat × Nat),A209 x136' x135' (∃(x137':Sk
  → Prop),(∃(x138':Sk),AV x138' x135' x136' x135'.19 m x135'.2 x135'.3 (fun  (x139':Option Addr × Nat × Nat)=>fun  (x140':List Int)=>A249 x135' x139' x140' x136' (A186 (2:Int) (A207 x135'))) x137')∧∀(x141':Sk),A228 (x137'
  x141') m x141' (∀(x142':PmT [u64] × Int × Int),A250 m x142' (A195 (3:Int) x142') (∀(x143':Option Addr × Nat × Nat),A209 x143' x141' (∃(x144':Sk→Prop),(∃(x145':Sk),A169 x145' x141' x143' m x142' (fun (x146':Option Addr
  × Nat × Nat)=>fun  (x147':List Int)=>A249 x141' x146' x147' x143' (A200 (3:Int) x142')) x144')∧∀(x148':Sk),A228 (x144' x148') m x148' (∀(x149':PmT [u64] × Int × Int),A264 m x149' (A243 (A9 (A229 x149')) (A196 (3:Int)
  (A165 (A229 x149'))) (∀(x150':Option Addr × Nat × Nat),A209 x150' x148' (∃(x151':Sk→Prop),(∃(x152':Sk),A169 x152' x148' x150' m x149' (fun  (x153':Option Addr × Nat × Nat)=>fun  (x154':List Int)=>A249 x148' x153' x154'
  x150' (A186 (3:Int) (A165 (A229 x149')))) x151')∧∀(x155':Sk),A228 (x151' x155') m x155' (∀(x156':PmT [u64] × Int × Int),A250 m x156' (Aj A218 (AI x156')) (∀(x157':Option Addr × Nat × Nat),A209 x157' x155' (∃(x158':Sk →
  Prop),(∃(x159':Sk),A169 x159' x155' x157' m x156' (fun  (x160':Option Addr × Nat × Nat)=>fun  (x161':List Int)=>A249 x155' x160' x161' x157' (zjx A218 (AI x156'))) x158')∧∀(x162':Sk),A263 (x158' x162') m x162' (∀(x163' :
  PmT [i64] × Int × Int),A189 (A226 m x163') m (AB m x163') (∀(x164':PmT [u64] × Int × Int),A250 m x164' (A195 (4:Int) x164') (∀(x165':Option Addr × Nat × Nat),A209 x165' x162' (∃(x166':Sk→Prop),(∃(x167':Sk),A169 x167'
  x162' x165' m x164' (fun  (x168':Option Addr × Nat × Nat)=>fun  (x169':List Int)=>A249 x162' x168' x169' x165' (A200 (4:Int) x164')) x166')∧∀(x170':Sk),A228 (x166' x170') m x170' (∀(x171':PmT [u64] × Int × Int),A264 m
  x171' (A243 (A9 (A233 x171')) (A196 (4:Int) (A165 (A233 x171'))) (∀(x172':Option Addr × Nat × Nat),A209 x172' x170' (∃(x173':Sk),An (An (AG x173' x170') (AJ x173' x170') A5 (A168 (Am x173' x170') x173'.11 x170'.11 A5 (A278 x173'
  x170' x172') x173'.19 x170'.19 x173'.20 (5:Int) m x173' (A236 x171') (A235 x171') x170' (A285 x173' x170' x172'))) (A274 x173' (fun  (x174':Option Addr × Nat × Nat)=>fun  (x175':List Int)=>A249 x170' x174' x175' x172' (A186 (4 :
  Int) (A165 (A233 x171'))))) (A3 (A179 m (A206 x173') x173') (A257 x173') (x173'.20≤(8:Int))) (∀(x176':Sk),A213 m x176'→∃(x177':Sk→Prop),(∃(x178':Sk),A192 (A254 x178' x176' m) x178' x176' x177')∧∀(x179':Sk),AX
  (x177' x179') (An (A8 m m) (AH m x179') (AZ (28:Int)) ((28:Int)≤(100:Int))) (∀(x180':PmT [byP] × Int × Int),An (Ad m x180'.snd) (InB x180'.fst) (A175 (28:Int)≤A239 x180') (A239 x180'≤A199 (A175 (28:Int)))→∃(x181':Sk
  → Prop),(∃(x182':Sk),A241 x182' x179' (A6 x182'.26 (Aq x180')) m x180'.snd.fst x180'.snd.snd (x182'.26=x180'.fst) x181')∧∀(x183':Sk),x181' x183'→An (A3 (AZ (0:Int)) (AZ (112:Int)) ((112:Int)≤(↑(List.length x183'.26) :
  Int))) (Ai AL+(A160-AL)≤List.length x183'.26∧SzR (A246 x183').length) (Ay (A273 x183') (A273 x183')) (∀(x184':Option Addr × Nat × Nat),A209 x184' x183' (∃(x185':Sk→Prop),(∃(x186':Sk),A3 (A240 x186' x183' (A253 (AJ
  x186' x183') A5 (Am x186' x183') (AK x186' x183') A5 (A278 x186' x183' x184') m x186' x183'.2 x183'.3 x183' (A285 x186' x183' x184'))) (A274 x186' (fun  (x187':Option Addr × Nat × Nat)=>fun  (x188':List Int)=>A249 x183' x187' x188'
  x184' (zjx (512:Int) (A246 x183')))) (x185' x186'))∧∀(x189':Sk),A282 x185' x189' (A161 x189') (∃(x190':Sk),A279 (A230 x190' x189' (A183 (A161 x189')) (0:Int) m) x190' x189' (A267 m x190') (∀(x191':Sk),AX (A3 (A259 m
  x191') (A247 x191') (A176 x191')) (AX (A234 x191'.11 (200:Int)) (An (A8 m m) (AH m x191') (AZ x191'.11) (x191'.11≤(1000:Int))) (∀(x192':PmT [byP] × Int × Int),AX (A3 (Ad m x192'.snd) (InB x192'.fst) (A239 x192'=x191'.11)) (A167
  (Aq x192') (Aq x192') x191' (Au x191' (A277 x192'))) (∃(x193':PmT [byP] × Int × Int),A252 x193' (Au x191' (A277 x192')) m x192'.snd.fst x192'.snd.snd (x193'.fst=A159 x191' (A277 x192'))))) (A222 x191'.11 (200:Int)→∃(x194':PmT
  [byP] × Int × Int),A252 x194' (A0 x191') m x191'.2 x191'.3 (x194'.fst=x191'.1))))))))))))))))))))))))))))))))))))))))))))))))))))))))))))))))))))))))))))))))))))))):=by
  intros
  refine⟨?_, ?_, ?_, ?_, ?_⟩<;>(intros;kernel_rfl)
set_option linter.unusedSimpArgs false
set_option maxRecDepth 10000
set_option maxHeartbeats 2000000
set_option linter.unusedVariables false
theorem ex28{p:Sk→Prop}{x1:By}{x2:Int}{x3:Int}{x4:Bool}{x5:Bool}{x6:Int}{x7:Int}{x8:Int}{x9:Int}{x10:Int}{x11:Int}{x12:Int}{x13:Int}{x14:Int}{x15:Int}{x16:Int}{x17:Int}{x18:Int}{x19:Int}{x20:Int}{x21:Int}{x22:Int}{x23:Int}{x24:Int}{x25:By}{x26:By}{x27:List Rw}{x28:Fz}(h:p ⟨x1,x2,x3,x4,x5,x6,x7,x8,x9,x10,x11,x12,x13,x14,x15,x16,x17,x18,x19,x20,x21,x22,x23,x24,x25,x26,x27,x28⟩):∃z,p z:=⟨_,h⟩
def Rows(F:Fz)(rs:List Rw):Prop:=∀y ∈ rs,∃xs,F y xs∧InB xs∧xs.length≤300
theorem ScA.mk'{m:By}{L N:Nat}{x1:By}{x2:Int}{x3:Int}{x4:Bool}{x5:Bool}{x6:Int}{x7:Int}{x8:Int}{x9:Int}{x10:Int}{x11:Int}{x12:Int}{x13:Int}{x14:Int}{x15:Int}{x16:Int}{x17:Int}{x18:Int}{x19:Int}{x20:Int}{x21:Int}{x22:Int}{x23:Int}{x24:Int}{x25:By}{x26:By}{x27:List Rw}{x28:Fz}(h1:zbe m x2)(h2:InB x1)(h3:x1.length=L)(h4:0≤x11∧x11≤20002)(ua12:U64 x12)(ua14:U64 x13)(ua15:U64 x14)(ua16:U64 x15)(ua18:U64 x16)(ua19:U64 x17)(ua23:U64 x19)(ua26:U64 x22)(h6:InB x25∧x25.length≤8)(h7:InB x26∧112≤x26.length)(h8:x27.length=N)(h9:Rows x28 x27):ScA m L N ⟨x1,x2,x3,x4,x5,x6,x7,x8,x9,x10,x11,x12,x13,x14,x15,x16,x17,x18,x19,x20,x21,x22,x23,x24,x25,x26,x27,x28⟩ :=
 ⟨h1,h2,h3,h4,⟨ua12,ua14,ua15,ua16,ua18,ua19,ua23,ua26⟩,h6,h7,h8,h9⟩
theorem ScA.parts{m:By}{L N:Nat}{z:Sk}(h:ScA m L N z):zbe m z.i∧InB z.ys∧z.ys.length=L∧(0≤z.a11∧z.a11≤20002)∧(U64 z.a12∧U64 z.a14∧U64 z.a15∧U64 z.a16∧U64 z.a18∧U64 z.a19∧U64 z.a23∧U64 z.a26)∧(InB z.hs∧z.hs.length≤8)∧(InB z.cd∧112≤z.cd.length)∧z.rs.length=N∧Rows z.F z.rs:=h
theorem za8{F:Fz}:zj1 F F:=fun _ _ h=>h
theorem zbq(a r:Int):U64 (zng a r):=zct _
theorem zas(p:Int){m:By}(h:InB m):InB (zjx p m):=yrv p h
theorem zf8(p:Int)(m:By):(zjx p m).take (3+m.length)=zjx p m:=by
 rw[← zab p m,List.take_length]
theorem zf9(p v:Int):(zjx p (zc6 v 8)).take (3+8)=zjx p (zc6 v 8):=by
 have:=zf8 p (zc6 v 8)
 rw[zac] at this
 exact this
theorem zg0(v:Int)(n:Nat):(zc6 v n).take n=zc6 v n:=by
 have:=List.take_length (l:=zc6 v n)
 rw[zac] at this
 exact this
theorem zle{x:Int}(h:0≤x)(g:x<3):0≤x∧x≤20002:=⟨h,by omega⟩
theorem zlf{x:Int}(h:0≤x)(g:x<70):0≤IntKind.i64.wrap (15+x)∧IntKind.i64.wrap (15+x)≤20002:=by rw[zaa (by omega) (by omega)];omega
theorem zlg{x:Int}(h:0≤x)(g:x<3):0≤IntKind.i64.wrap (19999+x)∧IntKind.i64.wrap (19999+x)≤20002:=by rw[zaa (by omega) (by omega)];omega
theorem Rows.nil{F:Fz}:Rows F []:=fun y h=>by cases h
theorem zaq{F:Fz}{rs:List Rw}{y:Rw}{X:By}(h:Rows F rs)(hX:InB X∧X.length≤300):Rows (fun y' xs'=>F y' xs'∨y'=y∧xs'=X) (rs++[y]):=fun y' hy=>by
 rcases List.mem_append.1 hy with q|q
 · obtain⟨xs,a,b⟩:=h y' q
   exact⟨xs,.inl a,b⟩
 · exact⟨X,.inr ⟨List.mem_singleton.1 q,rfl⟩,hX⟩
theorem yau:Sound Tryz.prog 211 (zag [i64,bsP] [byP] (fun t=>some (SzR t.2.length)) (fun t=>zjx t.1 t.2)):=by
 refine zad mixed Tryz.func211 (by kernel_rfl) (by kernel_rfl) zu5 (fun t h => ?_)
 obtain⟨p,m⟩:Int × By:=t
 have k:SzR m.length:=h
 unfold SzR at k
 have e:zal Tryz.prog yts .none Tryz.f211 [i64,bsP] [byP] (p,m) (zjx p m)=zal Tryz.prog yts .none Tryz.f211 [i64,byP] [byP] (p,m) (zjx p m):=by unfold zal;rfl
 rw[e]
 refine zah (zkf p m) ?_
 conv=>zeta
 exact (by simp[k];omega)
theorem zq7:DictOk Tryz.prog FEK:=za1 ((zay.cons (by kernel_rfl) yau .nil).append ((((zv7.append (.cons (by kernel_rfl) zmv .nil)).append zv6).append zdn).append zce)) .nil .nil
theorem zmp:zb7 Tryz.prog (Rels.of yrr):=Rels.ok (fun p hp=>by
 simp only[yrr,zu1,yto,ylu,ylt,List.cons_append,List.nil_append,List.mem_cons,List.not_mem_nil,or_false] at hp
 rcases hp with rfl|rfl|rfl|rfl|rfl|rfl|rfl|rfl|rfl
 · exact⟨by kernel_rfl,ylq⟩
 · exact⟨by kernel_rfl,yds⟩
 · exact⟨by kernel_rfl,yhn⟩
 · exact⟨by kernel_rfl,zlw⟩
 · exact⟨by kernel_rfl,zwk⟩
 · exact⟨by kernel_rfl,zk4⟩
 · exact⟨by kernel_rfl,zk8⟩
 · exact⟨by kernel_rfl,zpq⟩
 · exact⟨by kernel_rfl,zf0⟩)
theorem scr_0{m:By}{z:Sk}(hz:ScA m z.a6.toNat 0 z)(h0:0≤z.a6)(h3:z.a6≤3):zzu m z:=by
 obtain⟨zc,zy,zl,zn,⟨z12,z14,z15,z16,z18,z19,z23,z26⟩,zh,zd,zr,zw⟩:=hz.parts
 clear hz
 have e0:=zuv
 conv at e0=>zeta
 dsimp -proj -iota -eta only at e0
 replace e0:=e0.1
 refine zah (e0 m z) ?_
 simp only[and_imp,zf8,zf9,zg0,zae,zac,zab,List.take_length,List.drop_zero,List.length_cons,List.length_nil,Nat.zero_add,decide_eq_true_eq,decide_eq_false_iff_not,List.length_append,true_and,and_true,false_imp_iff,implies_true,List.take_succ_cons,List.take_zero,Int.reduceToNat,gt_iff_lt]
 refine⟨fun hlt=>⟨⟨zc,by omega,by omega⟩,fun y y1 _ _=>⟨⟨y1,by omega,by omega⟩,fun o o1=>⟨fun q=>ScA m z.a6.toNat 0 q∧q.a6=z.a6,⟨fun _=>⟨by decide, ?_⟩,fun _ => ?_⟩, ?_⟩⟩⟩,fun hge => ?_⟩
 rotate_left 2
 rintro q ⟨hq,h6⟩
 obtain⟨zc,zy,zl,zn,⟨z12,z14,z15,z16,z18,z19,z23,z26⟩,zh,zd,zr,zw⟩:=hq.parts
 clear hq
 have hw:IntKind.i64.wrap (q.a6+1)=q.a6+1:=zaa (by omega) (by omega)
 refine⟨⟨by omega,by omega,by omega⟩, ?_⟩
 rw[hw]
 rotate_left
 have e6:z.a6.toNat=3:=by omega
 rw[e6] at zl
 all_goals
  repeat' first
   | exact rfl
   | assumption
   | exact za8
   | exact zct _
   | exact zbq _ _
   | exact zbm (by assumption)
   | apply ScA.mk'
   | (apply ex28;dsimp only)
   | ((first|show (_:Int)≤_|show (_:Int)<_|show (_:Nat)≤_|show (_:Nat)<_|show (_:Int)=_|show (_:Nat)=_);omega)
   | (show U64 _;unfold U64;omega)
   | exact fun _ h=>h
   | (show Rows _ _;exact zaq (by assumption) ⟨zas _ (zbv _ _),by simp only[zab,zac];omega⟩)
   | (show Rows _ _;exact zaq (by assumption) ⟨zas _ zh.1,by rw[zab];omega⟩)
   | (show Rows _ _;exact zaq (by assumption) ⟨zas _ (InB.take zd.1 _),by rw[zab,List.length_take];omega⟩)
   | exact List.eq_nil_of_length_eq_zero (by assumption)
   | (show Rows _ _;exact zaq (by assumption) ⟨zas _ (by assumption),by simp only[zab];omega⟩)
   | (show (0:Int)≤_∧_≤(20002:Int);first|exact zlf (by assumption) (by assumption)|exact zlg (by assumption) (by assumption)|exact zle (by assumption) (by assumption))
   | apply And.intro
   | (show InB _;first|assumption|exact InB.app (by assumption) (by assumption)|exact InB.app (by assumption) (zbv _ _)|exact InB.app (by assumption) (InB.cons InB.nil)|exact InB.app (by assumption) (InB.cons (InB.cons InB.nil))|exact (InB.cons (InB.cons (InB.cons (InB.cons InB.nil))))|exact (InB.cons (InB.cons (InB.cons (InB.cons (InB.cons (InB.cons (InB.cons (InB.cons InB.nil))))))))|exact InB.app (by assumption) (fun x hx=>by revert x;decide))
   | (show List.length _=_;simp only[List.length_append,zae,List.length_cons,List.length_nil,zac,zab];done)
   | (show List.length _=_;simp only[List.length_append,zae,List.length_cons,List.length_nil,zac,zab];omega)
   | (show List.length _≤_;simp only[List.length_append,zae,List.length_cons,List.length_nil,zac,zab];omega)
  all_goals first
   | exact (0:Int)
   | (simp only[List.length_append,zae,List.length_cons,List.length_nil,zac,zab];done)
   | (simp only[List.length_append,zae,List.length_cons,List.length_nil,zac,zab];omega)
theorem scr_1{m:By}{z:Sk}(hz:ScA m 87 (10+8*(z.a24-5)).toNat z)(h0:5≤z.a24)(h3:z.a24≤8):zzv m z:=by
 obtain⟨zc,zy,zl,zn,⟨z12,z14,z15,z16,z18,z19,z23,z26⟩,zh,zd,zr,zw⟩:=hz.parts
 clear hz
 have e0:=zuv
 conv at e0=>zeta
 dsimp -proj -iota -eta only at e0
 replace e0:=e0.2.1
 refine zah (e0 m z) ?_
 simp only[and_imp,zf8,zf9,zg0,zae,zac,zab,List.take_length,List.drop_zero,List.length_cons,List.length_nil,Nat.zero_add,decide_eq_true_eq,decide_eq_false_iff_not,List.length_append,true_and,and_true,false_imp_iff,implies_true,List.take_succ_cons,List.take_zero,Int.reduceToNat,gt_iff_lt]
 refine⟨fun hlt => ?_,fun hge => ?_⟩
 rotate_left
 have e1:(10+8*(z.a24-5)).toNat=34:=by omega
 rw[e1] at zr
 all_goals
  repeat' first
   | exact rfl
   | assumption
   | exact za8
   | exact zct _
   | exact zbq _ _
   | exact zbm (by assumption)
   | apply ScA.mk'
   | (apply ex28;dsimp only)
   | ((first|show (_:Int)≤_|show (_:Int)<_|show (_:Nat)≤_|show (_:Nat)<_|show (_:Int)=_|show (_:Nat)=_);omega)
   | (show U64 _;unfold U64;omega)
   | exact fun _ h=>h
   | (show Rows _ _;exact zaq (by assumption) ⟨zas _ (zbv _ _),by simp only[zab,zac];omega⟩)
   | (show Rows _ _;exact zaq (by assumption) ⟨zas _ zh.1,by rw[zab];omega⟩)
   | (show Rows _ _;exact zaq (by assumption) ⟨zas _ (InB.take zd.1 _),by rw[zab,List.length_take];omega⟩)
   | exact List.eq_nil_of_length_eq_zero (by assumption)
   | (show Rows _ _;exact zaq (by assumption) ⟨zas _ (by assumption),by simp only[zab];omega⟩)
   | (show (0:Int)≤_∧_≤(20002:Int);first|exact zlf (by assumption) (by assumption)|exact zlg (by assumption) (by assumption)|exact zle (by assumption) (by assumption))
   | apply And.intro
   | (show InB _;first|assumption|exact InB.app (by assumption) (by assumption)|exact InB.app (by assumption) (zbv _ _)|exact InB.app (by assumption) (InB.cons InB.nil)|exact InB.app (by assumption) (InB.cons (InB.cons InB.nil))|exact (InB.cons (InB.cons (InB.cons (InB.cons InB.nil))))|exact (InB.cons (InB.cons (InB.cons (InB.cons (InB.cons (InB.cons (InB.cons (InB.cons InB.nil))))))))|exact InB.app (by assumption) (fun x hx=>by revert x;decide))
   | (show List.length _=_;simp only[List.length_append,zae,List.length_cons,List.length_nil,zac,zab];done)
   | (show List.length _=_;simp only[List.length_append,zae,List.length_cons,List.length_nil,zac,zab];omega)
   | (show List.length _≤_;simp only[List.length_append,zae,List.length_cons,List.length_nil,zac,zab];omega)
   | (rintro q hq hqe;clear zc zy zl zn z12 z14 z15 z16 z18 z19 z23 z26 zh zd zr zw;obtain⟨zc,zy,zl,zn,⟨z12,z14,z15,z16,z18,z19,z23,z26⟩,zh,zd,zr,zw⟩:=hq.parts;clear hq;rw[zaa (n:=q.a24+1) (by omega) (by omega)])
  all_goals first
   | exact (0:Int)
   | (simp only[List.length_append,zae,List.length_cons,List.length_nil,zac,zab];done)
   | (simp only[List.length_append,zae,List.length_cons,List.length_nil,zac,zab];omega)
theorem scr_2{m:By}{z:Sk}(hz:ScA m 87 (10+8*(z.a24-5)+z.a25).toNat z)(h0:5≤z.a24)(h3:z.a24≤7)(g0:0≤z.a25)(g3:z.a25≤8):zzw m z:=by
 obtain⟨zc,zy,zl,zn,⟨z12,z14,z15,z16,z18,z19,z23,z26⟩,zh,zd,zr,zw⟩:=hz.parts
 clear hz
 have e0:=zuv
 conv at e0=>zeta
 dsimp -proj -iota -eta only at e0
 replace e0:=e0.2.2.1
 refine zah (e0 m z) ?_
 simp only[and_imp,zf8,zf9,zg0,zae,zac,zab,List.take_length,List.drop_zero,List.length_cons,List.length_nil,Nat.zero_add,decide_eq_true_eq,decide_eq_false_iff_not,List.length_append,true_and,and_true,false_imp_iff,implies_true,List.take_succ_cons,List.take_zero,Int.reduceToNat,gt_iff_lt]
 refine⟨fun hlt => ?_,fun hge => ?_⟩
 · skip
   repeat' first
    | exact rfl
    | assumption
    | exact zct _
    | exact zbq _ _
    | exact zbm (by assumption)
    | ((first|show (_:Int)≤_|show (_:Int)<_|show (_:Nat)≤_|show (_:Nat)<_|show (_:Int)=_|show (_:Nat)=_);omega)
    | (show U64 _;unfold U64;omega)
    | exact Nat.le_refl _
    | (show (_:Int)≤_;decide)
    | (show (_:Int)<_;decide)
    | intro _
    | (show SzR _;unfold SzR;rw[List.length_take];omega)
    | (show SzR _;unfold SzR;omega)
    | apply And.intro
   iterate 3
    refine⟨fun q=>ScA m 87 (10+8*(z.a24-5)+z.a25).toNat q∧q.a24=z.a24∧q.a25=z.a25, ?_, ?_⟩
    · skip
      repeat' first
       | exact rfl
       | assumption
       | exact za8
       | exact zct _
       | exact zbq _ _
       | exact zbm (by assumption)
       | apply ScA.mk'
       | (apply ex28;dsimp only)
       | ((first|show (_:Int)≤_|show (_:Int)<_|show (_:Nat)≤_|show (_:Nat)<_|show (_:Int)=_|show (_:Nat)=_);omega)
       | (show U64 _;unfold U64;omega)
       | exact fun _ h=>h
       | (show Rows _ _;exact zaq (by assumption) ⟨zas _ (zbv _ _),by simp only[zab,zac];omega⟩)
       | (show Rows _ _;exact zaq (by assumption) ⟨zas _ zh.1,by rw[zab];omega⟩)
       | (show Rows _ _;exact zaq (by assumption) ⟨zas _ (InB.take zd.1 _),by rw[zab,List.length_take];omega⟩)
       | exact List.eq_nil_of_length_eq_zero (by assumption)
       | (show Rows _ _;exact zaq (by assumption) ⟨zas _ (by assumption),by simp only[zab];omega⟩)
       | (show (0:Int)≤_∧_≤(20002:Int);first|exact zlf (by assumption) (by assumption)|exact zlg (by assumption) (by assumption)|exact zle (by assumption) (by assumption))
       | apply And.intro
       | (show InB _;first|assumption|exact InB.app (by assumption) (by assumption)|exact InB.app (by assumption) (zbv _ _)|exact InB.app (by assumption) (InB.cons InB.nil)|exact InB.app (by assumption) (InB.cons (InB.cons InB.nil))|exact (InB.cons (InB.cons (InB.cons (InB.cons InB.nil))))|exact (InB.cons (InB.cons (InB.cons (InB.cons (InB.cons (InB.cons (InB.cons (InB.cons InB.nil))))))))|exact InB.app (by assumption) (fun x hx=>by revert x;decide))
       | (show List.length _=_;simp only[List.length_append,zae,List.length_cons,List.length_nil,zac,zab];done)
       | (show List.length _=_;simp only[List.length_append,zae,List.length_cons,List.length_nil,zac,zab];omega)
       | (show List.length _≤_;simp only[List.length_append,zae,List.length_cons,List.length_nil,zac,zab];omega)
       | intro _
      all_goals first
       | exact (0:Int)
       | (simp only[List.length_append,zae,List.length_cons,List.length_nil,zac,zab];done)
       | (simp only[List.length_append,zae,List.length_cons,List.length_nil,zac,zab];omega)
    rintro q ⟨hq,e4,e5⟩
    clear zc zy zl zn z12 z14 z15 z16 z18 z19 z23 z26 zh zd zr zw
    obtain⟨zc,zy,zl,zn,⟨z12,z14,z15,z16,z18,z19,z23,z26⟩,zh,zd,zr,zw⟩:=hq.parts
    clear hq
    repeat' first
     | exact rfl
     | assumption
     | exact zct _
     | exact zbq _ _
     | exact zbm (by assumption)
     | ((first|show (_:Int)≤_|show (_:Int)<_|show (_:Nat)≤_|show (_:Nat)<_|show (_:Int)=_|show (_:Nat)=_);omega)
     | (show U64 _;unfold U64;omega)
     | exact Nat.le_refl _
     | (show (_:Int)≤_;decide)
     | (show (_:Int)<_;decide)
     | intro _
     | (show SzR _;unfold SzR;rw[List.length_take];omega)
     | (show SzR _;unfold SzR;omega)
     | apply And.intro
   refine⟨fun q=>ScA m 87 (10+8*(z.a24-5)+z.a25).toNat q∧q.a24=z.a24∧q.a25=z.a25, ?_, ?_⟩
   · skip
     repeat' first
      | exact rfl
      | assumption
      | exact za8
      | exact zct _
      | exact zbq _ _
      | exact zbm (by assumption)
      | apply ScA.mk'
      | (apply ex28;dsimp only)
      | ((first|show (_:Int)≤_|show (_:Int)<_|show (_:Nat)≤_|show (_:Nat)<_|show (_:Int)=_|show (_:Nat)=_);omega)
      | (show U64 _;unfold U64;omega)
      | exact fun _ h=>h
      | (show Rows _ _;exact zaq (by assumption) ⟨zas _ (zbv _ _),by simp only[zab,zac];omega⟩)
      | (show Rows _ _;exact zaq (by assumption) ⟨zas _ zh.1,by rw[zab];omega⟩)
      | (show Rows _ _;exact zaq (by assumption) ⟨zas _ (InB.take zd.1 _),by rw[zab,List.length_take];omega⟩)
      | exact List.eq_nil_of_length_eq_zero (by assumption)
      | (show Rows _ _;exact zaq (by assumption) ⟨zas _ (by assumption),by simp only[zab];omega⟩)
      | (show (0:Int)≤_∧_≤(20002:Int);first|exact zlf (by assumption) (by assumption)|exact zlg (by assumption) (by assumption)|exact zle (by assumption) (by assumption))
      | apply And.intro
      | (show InB _;first|assumption|exact InB.app (by assumption) (by assumption)|exact InB.app (by assumption) (zbv _ _)|exact InB.app (by assumption) (InB.cons InB.nil)|exact InB.app (by assumption) (InB.cons (InB.cons InB.nil))|exact (InB.cons (InB.cons (InB.cons (InB.cons InB.nil))))|exact (InB.cons (InB.cons (InB.cons (InB.cons (InB.cons (InB.cons (InB.cons (InB.cons InB.nil))))))))|exact InB.app (by assumption) (fun x hx=>by revert x;decide))
      | (show List.length _=_;simp only[List.length_append,zae,List.length_cons,List.length_nil,zac,zab];done)
      | (show List.length _=_;simp only[List.length_append,zae,List.length_cons,List.length_nil,zac,zab];omega)
      | (show List.length _≤_;simp only[List.length_append,zae,List.length_cons,List.length_nil,zac,zab];omega)
      | intro _
     all_goals first
      | exact (0:Int)
      | (simp only[List.length_append,zae,List.length_cons,List.length_nil,zac,zab];done)
      | (simp only[List.length_append,zae,List.length_cons,List.length_nil,zac,zab];omega)
   rintro q ⟨hq,e4,e5⟩
   clear zc zy zl zn z12 z14 z15 z16 z18 z19 z23 z26 zh zd zr zw
   obtain⟨zc,zy,zl,zn,⟨z12,z14,z15,z16,z18,z19,z23,z26⟩,zh,zd,zr,zw⟩:=hq.parts
   clear hq
   rw[zaa (n:=q.a25+1) (by omega) (by omega)]
   repeat' first
    | exact rfl
    | assumption
    | exact za8
    | exact zct _
    | exact zbq _ _
    | exact zbm (by assumption)
    | apply ScA.mk'
    | (apply ex28;dsimp only)
    | ((first|show (_:Int)≤_|show (_:Int)<_|show (_:Nat)≤_|show (_:Nat)<_|show (_:Int)=_|show (_:Nat)=_);omega)
    | (show U64 _;unfold U64;omega)
    | exact fun _ h=>h
    | (show Rows _ _;exact zaq (by assumption) ⟨zas _ (zbv _ _),by simp only[zab,zac];omega⟩)
    | (show Rows _ _;exact zaq (by assumption) ⟨zas _ zh.1,by rw[zab];omega⟩)
    | (show Rows _ _;exact zaq (by assumption) ⟨zas _ (InB.take zd.1 _),by rw[zab,List.length_take];omega⟩)
    | exact List.eq_nil_of_length_eq_zero (by assumption)
    | (show Rows _ _;exact zaq (by assumption) ⟨zas _ (by assumption),by simp only[zab];omega⟩)
    | (show (0:Int)≤_∧_≤(20002:Int);first|exact zlf (by assumption) (by assumption)|exact zlg (by assumption) (by assumption)|exact zle (by assumption) (by assumption))
    | apply And.intro
    | (show InB _;first|assumption|exact InB.app (by assumption) (by assumption)|exact InB.app (by assumption) (zbv _ _)|exact InB.app (by assumption) (InB.cons InB.nil)|exact InB.app (by assumption) (InB.cons (InB.cons InB.nil))|exact (InB.cons (InB.cons (InB.cons (InB.cons InB.nil))))|exact (InB.cons (InB.cons (InB.cons (InB.cons (InB.cons (InB.cons (InB.cons (InB.cons InB.nil))))))))|exact InB.app (by assumption) (fun x hx=>by revert x;decide))
    | (show List.length _=_;simp only[List.length_append,zae,List.length_cons,List.length_nil,zac,zab];done)
    | (show List.length _=_;simp only[List.length_append,zae,List.length_cons,List.length_nil,zac,zab];omega)
    | (show List.length _≤_;simp only[List.length_append,zae,List.length_cons,List.length_nil,zac,zab];omega)
    | (intro y hy hye;rw[e4] at hy;exact⟨hy,hye.trans e4⟩)
    | intro _
   all_goals first
    | exact (0:Int)
    | (simp only[List.length_append,zae,List.length_cons,List.length_nil,zac,zab];done)
    | (simp only[List.length_append,zae,List.length_cons,List.length_nil,zac,zab];omega)
 · have e1:z.a25=8:=by omega
   rw[e1] at zr
   repeat' first
    | exact rfl
    | assumption
    | exact za8
    | exact zct _
    | exact zbq _ _
    | exact zbm (by assumption)
    | apply ScA.mk'
    | (apply ex28;dsimp only)
    | ((first|show (_:Int)≤_|show (_:Int)<_|show (_:Nat)≤_|show (_:Nat)<_|show (_:Int)=_|show (_:Nat)=_);omega)
    | (show U64 _;unfold U64;omega)
    | exact fun _ h=>h
    | (show Rows _ _;exact zaq (by assumption) ⟨zas _ (zbv _ _),by simp only[zab,zac];omega⟩)
    | (show Rows _ _;exact zaq (by assumption) ⟨zas _ zh.1,by rw[zab];omega⟩)
    | (show Rows _ _;exact zaq (by assumption) ⟨zas _ (InB.take zd.1 _),by rw[zab,List.length_take];omega⟩)
    | exact List.eq_nil_of_length_eq_zero (by assumption)
    | (show Rows _ _;exact zaq (by assumption) ⟨zas _ (by assumption),by simp only[zab];omega⟩)
    | (show (0:Int)≤_∧_≤(20002:Int);first|exact zlf (by assumption) (by assumption)|exact zlg (by assumption) (by assumption)|exact zle (by assumption) (by assumption))
    | apply And.intro
    | (show InB _;first|assumption|exact InB.app (by assumption) (by assumption)|exact InB.app (by assumption) (zbv _ _)|exact InB.app (by assumption) (InB.cons InB.nil)|exact InB.app (by assumption) (InB.cons (InB.cons InB.nil))|exact (InB.cons (InB.cons (InB.cons (InB.cons InB.nil))))|exact (InB.cons (InB.cons (InB.cons (InB.cons (InB.cons (InB.cons (InB.cons (InB.cons InB.nil))))))))|exact InB.app (by assumption) (fun x hx=>by revert x;decide))
    | (show List.length _=_;simp only[List.length_append,zae,List.length_cons,List.length_nil,zac,zab];done)
    | (show List.length _=_;simp only[List.length_append,zae,List.length_cons,List.length_nil,zac,zab];omega)
    | (show List.length _≤_;simp only[List.length_append,zae,List.length_cons,List.length_nil,zac,zab];omega)
   all_goals first
    | exact (0:Int)
    | (simp only[List.length_append,zae,List.length_cons,List.length_nil,zac,zab];done)
    | (simp only[List.length_append,zae,List.length_cons,List.length_nil,zac,zab];omega)
theorem scr_3{m:By}{z:Sk}(hz:ScA m z.ys.length 35 z)(h0:0≤z.a29)(h3:z.a29≤35)(g0:(z.ys.length:Int)≤100+300*z.a29)(g3:88≤z.ys.length):zzx m z:=by
 obtain⟨zc,zy,zl,zn,⟨z12,z14,z15,z16,z18,z19,z23,z26⟩,zh,zd,zr,zw⟩:=hz.parts
 clear hz zl
 have hlt:z.a29<35→z.rs.getD (0+z.a29.toNat) (El.zero [Ty.sv]) ∈ z.rs:=fun h=>by
  rw[List.getD_eq_getElem?_getD,List.getElem?_eq_getElem (by omega)]
  exact List.getElem_mem _
 have e0:=zuv
 conv at e0=>zeta
 dsimp -proj -iota -eta only at e0
 replace e0:=e0.2.2.2.1
 refine zah (e0 m z) ?_
 simp only[Nat.zero_add] at hlt
 simp only[and_imp,zf8,zf9,zg0,zae,zac,zab,List.take_length,List.drop_zero,List.length_cons,List.length_nil,Nat.zero_add,decide_eq_true_eq,decide_eq_false_iff_not,List.length_append,true_and,and_true,false_imp_iff,implies_true,List.take_succ_cons,List.take_zero,Int.reduceToNat,gt_iff_lt]
 refine⟨fun hl => ?_,fun hge => ?_⟩
 obtain⟨xs,f1,f2,f3⟩:=zw _ (hlt (by omega))
 refine⟨⟨h0,by omega⟩,by omega,xs,f1,⟨by omega,by omega,by omega⟩, ?_⟩
 rw[zaa (n:=z.a29+1) (by omega) (by omega)]
 all_goals
  repeat' first
   | exact rfl
   | assumption
   | exact za8
   | exact zct _
   | exact zbq _ _
   | exact zbm (by assumption)
   | apply ScA.mk'
   | (apply ex28;dsimp only)
   | ((first|show (_:Int)≤_|show (_:Int)<_|show (_:Nat)≤_|show (_:Nat)<_|show (_:Int)=_|show (_:Nat)=_);omega)
   | (show U64 _;unfold U64;omega)
   | exact fun _ h=>h
   | (show Rows _ _;exact zaq (by assumption) ⟨zas _ (zbv _ _),by simp only[zab,zac];omega⟩)
   | (show Rows _ _;exact zaq (by assumption) ⟨zas _ zh.1,by rw[zab];omega⟩)
   | (show Rows _ _;exact zaq (by assumption) ⟨zas _ (InB.take zd.1 _),by rw[zab,List.length_take];omega⟩)
   | exact List.eq_nil_of_length_eq_zero (by assumption)
   | (show Rows _ _;exact zaq (by assumption) ⟨zas _ (by assumption),by simp only[zab];omega⟩)
   | (show (0:Int)≤_∧_≤(20002:Int);first|exact zlf (by assumption) (by assumption)|exact zlg (by assumption) (by assumption)|exact zle (by assumption) (by assumption))
   | apply And.intro
   | (show InB _;first|assumption|exact InB.app (by assumption) (by assumption)|exact InB.app (by assumption) (zbv _ _)|exact InB.app (by assumption) (InB.cons InB.nil)|exact InB.app (by assumption) (InB.cons (InB.cons InB.nil))|exact (InB.cons (InB.cons (InB.cons (InB.cons InB.nil))))|exact (InB.cons (InB.cons (InB.cons (InB.cons (InB.cons (InB.cons (InB.cons (InB.cons InB.nil))))))))|exact InB.app (by assumption) (fun x hx=>by revert x;decide))
   | (show List.length _=_;simp only[List.length_append,zae,List.length_cons,List.length_nil,zac,zab];done)
   | (show List.length _=_;simp only[List.length_append,zae,List.length_cons,List.length_nil,zac,zab];omega)
   | (show List.length _≤_;simp only[List.length_append,zae,List.length_cons,List.length_nil,zac,zab];omega)
   | intro _
  all_goals first
   | exact (0:Int)
   | (simp only[List.length_append,zae,List.length_cons,List.length_nil,zac,zab];done)
   | (simp only[List.length_append,zae,List.length_cons,List.length_nil,zac,zab];omega)
theorem fin_1{a b:By}(h:88≤a.length):80≤(a++b).length:=by rw[List.length_append];omega
theorem fin_2{a b:By}(h:a.length≤11000)(g:b.length≤1000):(a++b).length≤20000:=by rw[List.length_append];omega
def Sq(_:List (Nat × Nat)):Prop:=True
theorem yot{m:By}{a b:Nat}{l:List (Nat × Nat)}{B:(Sk→Prop)→Prop}{R:Sk→Prop}(ht:Sq ((a,b)::l))(h1:B (fun q=>ScA m a b q))(h2:Sq l→∀q,ScA m a b q→R q):∃J,B J∧∀q,J q→R q:=⟨fun q=>ScA m a b q,h1,h2 trivial⟩
theorem yl3{m:By}{i h:Int}(hc:zbe m i):ypg m i h:=by
 have e0:=zuv
 conv at e0=>zeta
 dsimp -proj -iota -eta only at e0
 replace e0:=e0.2.2.2.2
 refine zah (e0 m i h) ?_
 simp (maxSteps:=5000000) only[and_imp,zf8,zf9,zg0,zae,zac,zab,List.take_length,List.drop_zero,List.length_cons,List.length_nil,Nat.zero_add,decide_eq_true_eq,decide_eq_false_iff_not,List.length_append,true_and,and_true,false_imp_iff,implies_true,List.take_succ_cons,List.take_zero,Int.reduceToNat,gt_iff_lt]
 repeat' first
  | exact rfl
  | assumption
  | exact zct _
  | exact zbq _ _
  | exact zbm (by assumption)
  | ((first|show (_:Int)≤_|show (_:Int)<_|show (_:Nat)≤_|show (_:Nat)<_|show (_:Int)=_|show (_:Nat)=_);omega)
  | (show U64 _;unfold U64;omega)
  | exact Nat.le_refl _
  | (show (_:Int)≤_;decide)
  | (show (_:Int)<_;decide)
  | intro _
  | (show SzR _;unfold SzR;rw[List.length_take];omega)
  | (show SzR _;unfold SzR;omega)
  | apply And.intro
 refine⟨⟨[],_,_,_,_,0,0,0,0,0,0,0,0,0,0,0,0,0,0,0,0,0,0,0,[],List.replicate 112 0,[],Fz.none⟩,⟨rfl,rfl,rfl,rfl,rfl,rfl,rfl⟩,za8,⟨ScA.mk' (by assumption) InB.nil rfl ⟨by decide,by decide⟩ ⟨by decide,by decide⟩ ⟨by decide,by decide⟩ ⟨by decide,by decide⟩ ⟨by decide,by decide⟩ ⟨by decide,by decide⟩ ⟨by decide,by decide⟩ ⟨by decide,by decide⟩ ⟨by decide,by decide⟩ ⟨InB.nil,by decide⟩ ⟨by unfold InB;decide,by decide⟩ rfl Rows.nil,Int.le_refl 0,(by decide:(0:Int)≤3)⟩,fun z hz => ?_⟩
 obtain⟨zc,zy,zl,zn,⟨z12,z14,z15,z16,z18,z19,z23,z26⟩,zh,zd,zr,zw⟩:=hz.parts
 clear hz
 repeat' first
  | exact rfl
  | assumption
  | exact zct _
  | exact zbq _ _
  | exact zbm (by assumption)
  | ((first|show (_:Int)≤_|show (_:Int)<_|show (_:Nat)≤_|show (_:Nat)<_|show (_:Int)=_|show (_:Nat)=_);omega)
  | (show U64 _;unfold U64;omega)
  | exact Nat.le_refl _
  | (show (_:Int)≤_;decide)
  | (show (_:Int)<_;decide)
  | intro _
  | (show SzR _;unfold SzR;rw[List.length_take];omega)
  | (show SzR _;unfold SzR;omega)
  | apply And.intro
 have ht:Sq [(3,0),(3,0),(3,0),(3,0),(5,0),(5,0),(5,0),(7,0),(7,0),(15,0),(23,0),(23,0),(31,0),(31,0),(39,0),(47,0),(55,0),(63,0),(71,0),(79,0),(87,0),(87,0),(87,0),(87,1),(87,1),(87,2),(87,3),(87,4),(87,5),(87,6),(87,7),(87,8),(87,9)]:=trivial
 iterate 33
  refine yot (m:=m) ht ?_ ?_
  · skip
    repeat' first
     | exact rfl
     | assumption
     | exact za8
     | exact zct _
     | exact zbq _ _
     | exact zbm (by assumption)
     | apply ScA.mk'
     | (apply ex28;dsimp only)
     | ((first|show (_:Int)≤_|show (_:Int)<_|show (_:Nat)≤_|show (_:Nat)<_|show (_:Int)=_|show (_:Nat)=_);omega)
     | (show U64 _;unfold U64;omega)
     | exact fun _ h=>h
     | (show Rows _ _;exact zaq (by assumption) ⟨zas _ (zbv _ _),by simp only[zab,zac];omega⟩)
     | (show Rows _ _;exact zaq (by assumption) ⟨zas _ zh.1,by rw[zab];omega⟩)
     | (show Rows _ _;exact zaq (by assumption) ⟨zas _ (InB.take zd.1 _),by rw[zab,List.length_take];omega⟩)
     | exact List.eq_nil_of_length_eq_zero (by assumption)
     | (show Rows _ _;exact zaq (by assumption) ⟨zas _ (by assumption),by simp only[zab];omega⟩)
     | (show (0:Int)≤_∧_≤(20002:Int);first|exact zlf (by assumption) (by assumption)|exact zlg (by assumption) (by assumption)|exact zle (by assumption) (by assumption))
     | apply And.intro
     | (show InB _;first|assumption|exact InB.app (by assumption) (by assumption)|exact InB.app (by assumption) (zbv _ _)|exact InB.app (by assumption) (InB.cons InB.nil)|exact InB.app (by assumption) (InB.cons (InB.cons InB.nil))|exact (InB.cons (InB.cons (InB.cons (InB.cons InB.nil))))|exact (InB.cons (InB.cons (InB.cons (InB.cons (InB.cons (InB.cons (InB.cons (InB.cons InB.nil))))))))|exact InB.app (by assumption) (fun x hx=>by revert x;decide))
     | (show List.length _=_;simp only[List.length_append,zae,List.length_cons,List.length_nil,zac,zab];done)
     | (show List.length _=_;simp only[List.length_append,zae,List.length_cons,List.length_nil,zac,zab];omega)
     | (show List.length _≤_;simp only[List.length_append,zae,List.length_cons,List.length_nil,zac,zab];omega)
     | intro _
    all_goals first
     | exact (0:Int)
     | (simp only[List.length_append,zae,List.length_cons,List.length_nil,zac,zab];done)
     | (simp only[List.length_append,zae,List.length_cons,List.length_nil,zac,zab];omega)
  clear ht
  rintro ht z hz
  skip
  clear zc zy zl zn z12 z14 z15 z16 z18 z19 z23 z26 zh zd zr zw
  obtain⟨zc,zy,zl,zn,⟨z12,z14,z15,z16,z18,z19,z23,z26⟩,zh,zd,zr,zw⟩:=hz.parts
  clear hz
  repeat' first
   | exact rfl
   | assumption
   | exact zct _
   | exact zbq _ _
   | exact zbm (by assumption)
   | ((first|show (_:Int)≤_|show (_:Int)<_|show (_:Nat)≤_|show (_:Nat)<_|show (_:Int)=_|show (_:Nat)=_);omega)
   | (show U64 _;unfold U64;omega)
   | exact Nat.le_refl _
   | (show (_:Int)≤_;decide)
   | (show (_:Int)<_;decide)
   | intro _
   | (show SzR _;unfold SzR;rw[List.length_take];omega)
   | (show SzR _;unfold SzR;omega)
   | apply And.intro
 skip
 repeat' first
  | exact rfl
  | assumption
  | exact za8
  | exact zct _
  | exact zbq _ _
  | exact zbm (by assumption)
  | apply ScA.mk'
  | (apply ex28;dsimp only)
  | ((first|show (_:Int)≤_|show (_:Int)<_|show (_:Nat)≤_|show (_:Nat)<_|show (_:Int)=_|show (_:Nat)=_);omega)
  | (show U64 _;unfold U64;omega)
  | exact fun _ h=>h
  | (show Rows _ _;exact zaq (by assumption) ⟨zas _ (zbv _ _),by simp only[zab,zac];omega⟩)
  | (show Rows _ _;exact zaq (by assumption) ⟨zas _ zh.1,by rw[zab];omega⟩)
  | (show Rows _ _;exact zaq (by assumption) ⟨zas _ (InB.take zd.1 _),by rw[zab,List.length_take];omega⟩)
  | exact List.eq_nil_of_length_eq_zero (by assumption)
  | (show Rows _ _;exact zaq (by assumption) ⟨zas _ (by assumption),by simp only[zab];omega⟩)
  | (show (0:Int)≤_∧_≤(20002:Int);first|exact zlf (by assumption) (by assumption)|exact zlg (by assumption) (by assumption)|exact zle (by assumption) (by assumption))
  | apply And.intro
  | (show InB _;first|assumption|exact InB.app (by assumption) (by assumption)|exact InB.app (by assumption) (zbv _ _)|exact InB.app (by assumption) (InB.cons InB.nil)|exact InB.app (by assumption) (InB.cons (InB.cons InB.nil))|exact (InB.cons (InB.cons (InB.cons (InB.cons InB.nil))))|exact (InB.cons (InB.cons (InB.cons (InB.cons (InB.cons (InB.cons (InB.cons (InB.cons InB.nil))))))))|exact InB.app (by assumption) (fun x hx=>by revert x;decide))
  | (show List.length _=_;simp only[List.length_append,zae,List.length_cons,List.length_nil,zac,zab];done)
  | (show List.length _=_;simp only[List.length_append,zae,List.length_cons,List.length_nil,zac,zab];omega)
  | (show List.length _≤_;simp only[List.length_append,zae,List.length_cons,List.length_nil,zac,zab];omega)
  | (intro z hz;clear zc zy zl zn z12 z14 z15 z16 z18 z19 z23 z26 zh zd zr zw;obtain⟨zc,zy,zl,zn,⟨z12,z14,z15,z16,z18,z19,z23,z26⟩,zh,zd,zr,zw⟩:=hz.parts;clear hz)
 all_goals first|exact (0:Int)|(show List.length _=_;simp only[List.length_append,zae,List.length_cons,List.length_nil,zac,zab];done)|skip
 have ht:Sq [(87,34),(87,34),(87,35)]:=trivial
 iterate 3
  refine yot (m:=m) ht ?_ ?_
  · skip
    repeat' first
     | exact rfl
     | assumption
     | exact za8
     | exact zct _
     | exact zbq _ _
     | exact zbm (by assumption)
     | apply ScA.mk'
     | (apply ex28;dsimp only)
     | ((first|show (_:Int)≤_|show (_:Int)<_|show (_:Nat)≤_|show (_:Nat)<_|show (_:Int)=_|show (_:Nat)=_);omega)
     | (show U64 _;unfold U64;omega)
     | exact fun _ h=>h
     | (show Rows _ _;exact zaq (by assumption) ⟨zas _ (zbv _ _),by simp only[zab,zac];omega⟩)
     | (show Rows _ _;exact zaq (by assumption) ⟨zas _ zh.1,by rw[zab];omega⟩)
     | (show Rows _ _;exact zaq (by assumption) ⟨zas _ (InB.take zd.1 _),by rw[zab,List.length_take];omega⟩)
     | exact List.eq_nil_of_length_eq_zero (by assumption)
     | (show Rows _ _;exact zaq (by assumption) ⟨zas _ (by assumption),by simp only[zab];omega⟩)
     | (show (0:Int)≤_∧_≤(20002:Int);first|exact zlf (by assumption) (by assumption)|exact zlg (by assumption) (by assumption)|exact zle (by assumption) (by assumption))
     | apply And.intro
     | (show InB _;first|assumption|exact InB.app (by assumption) (by assumption)|exact InB.app (by assumption) (zbv _ _)|exact InB.app (by assumption) (InB.cons InB.nil)|exact InB.app (by assumption) (InB.cons (InB.cons InB.nil))|exact (InB.cons (InB.cons (InB.cons (InB.cons InB.nil))))|exact (InB.cons (InB.cons (InB.cons (InB.cons (InB.cons (InB.cons (InB.cons (InB.cons InB.nil))))))))|exact InB.app (by assumption) (fun x hx=>by revert x;decide))
     | (show List.length _=_;simp only[List.length_append,zae,List.length_cons,List.length_nil,zac,zab];done)
     | (show List.length _=_;simp only[List.length_append,zae,List.length_cons,List.length_nil,zac,zab];omega)
     | (show List.length _≤_;simp only[List.length_append,zae,List.length_cons,List.length_nil,zac,zab];omega)
     | intro _
    all_goals first
     | exact (0:Int)
     | (simp only[List.length_append,zae,List.length_cons,List.length_nil,zac,zab];done)
     | (simp only[List.length_append,zae,List.length_cons,List.length_nil,zac,zab];omega)
  clear ht
  rintro ht z hz
  skip
  clear zc zy zl zn z12 z14 z15 z16 z18 z19 z23 z26 zh zd zr zw
  obtain⟨zc,zy,zl,zn,⟨z12,z14,z15,z16,z18,z19,z23,z26⟩,zh,zd,zr,zw⟩:=hz.parts
  clear hz
  repeat' first
   | exact rfl
   | assumption
   | exact zct _
   | exact zbq _ _
   | exact zbm (by assumption)
   | ((first|show (_:Int)≤_|show (_:Int)<_|show (_:Nat)≤_|show (_:Nat)<_|show (_:Int)=_|show (_:Nat)=_);omega)
   | (show U64 _;unfold U64;omega)
   | exact Nat.le_refl _
   | (show (_:Int)≤_;decide)
   | (show (_:Int)<_;decide)
   | intro _
   | (show SzR _;unfold SzR;rw[List.length_take];omega)
   | (show SzR _;unfold SzR;omega)
   | apply And.intro
 skip
 repeat' first
  | exact rfl
  | assumption
  | exact za8
  | exact zct _
  | exact zbq _ _
  | exact zbm (by assumption)
  | apply ScA.mk'
  | (apply ex28;dsimp only)
  | ((first|show (_:Int)≤_|show (_:Int)<_|show (_:Nat)≤_|show (_:Nat)<_|show (_:Int)=_|show (_:Nat)=_);omega)
  | (show U64 _;unfold U64;omega)
  | exact fun _ h=>h
  | (show Rows _ _;exact zaq (by assumption) ⟨zas _ (zbv _ _),by simp only[zab,zac];omega⟩)
  | (show Rows _ _;exact zaq (by assumption) ⟨zas _ zh.1,by rw[zab];omega⟩)
  | (show Rows _ _;exact zaq (by assumption) ⟨zas _ (InB.take zd.1 _),by rw[zab,List.length_take];omega⟩)
  | exact List.eq_nil_of_length_eq_zero (by assumption)
  | (show Rows _ _;exact zaq (by assumption) ⟨zas _ (by assumption),by simp only[zab];omega⟩)
  | (show (0:Int)≤_∧_≤(20002:Int);first|exact zlf (by assumption) (by assumption)|exact zlg (by assumption) (by assumption)|exact zle (by assumption) (by assumption))
  | apply And.intro
  | (show InB _;first|assumption|exact InB.app (by assumption) (by assumption)|exact InB.app (by assumption) (zbv _ _)|exact InB.app (by assumption) (InB.cons InB.nil)|exact InB.app (by assumption) (InB.cons (InB.cons InB.nil))|exact (InB.cons (InB.cons (InB.cons (InB.cons InB.nil))))|exact (InB.cons (InB.cons (InB.cons (InB.cons (InB.cons (InB.cons (InB.cons (InB.cons InB.nil))))))))|exact InB.app (by assumption) (fun x hx=>by revert x;decide))
  | (show List.length _=_;simp only[List.length_append,zae,List.length_cons,List.length_nil,zac,zab];done)
  | (show List.length _=_;simp only[List.length_append,zae,List.length_cons,List.length_nil,zac,zab];omega)
  | (show List.length _≤_;simp only[List.length_append,zae,List.length_cons,List.length_nil,zac,zab];omega)
  | (intro z hz hl1 hl2;clear zc zy zl zn z12 z14 z15 z16 z18 z19 z23 z26 zh zd zr zw;obtain⟨zc,zy,zl,zn,⟨z12,z14,z15,z16,z18,z19,z23,z26⟩,zh,zd,zr,zw⟩:=hz.parts;clear hz)
 all_goals first
  | exact (0:Int)
  | (simp only[List.length_append,List.length_cons,List.length_nil];done)
  | (simp only[List.length_append,List.length_cons,List.length_nil];omega)
  | exact fun hlt=>⟨⟨zc,zn.1,by omega⟩,fun q q1 q2 q3=>⟨⟨Nat.le_refl _,Nat.le_refl _,by omega⟩,⟨(z.ys++q.fst,q.snd.fst,q.snd.snd),⟨List.length_append,rfl,rfl,rfl⟩,q1,InB.app zy q2,fin_1 hl2,fin_2 hl1 (by omega)⟩⟩⟩
  | exact fun _=>⟨(_,_,_),⟨rfl,rfl,rfl,rfl⟩,zc,zy,(by show 80≤z.ys.length;omega),(by show z.ys.length≤20000;omega)⟩
theorem zg7{P:Program}{Ξ:SpecW}{n:Nat}{b:Code}{k:Nat}{L:LoopW}(hk:zbh b=some k)(hL:Ξ.loop k=some L)(h:zb3 P n b L):∀k' L',zbh b=some k'→Ξ.loop k'=some L'→zb3 P n b L':=fun k' L' h1 h2=>by
 rw[hk] at h1
 simp only[Option.some.injEq] at h1
 subst h1
 rw[hL] at h2
 simp only[Option.some.injEq] at h2
 subst h2
 exact h
theorem yr4{m:By}:zb3 Tryz.prog 2 (zai Tryz.f167 0) (skL0 m) :=
 zdd mixed zq7 zmp _ (fun z hz=>⟨skX m,(by
  rw[show zak (zai Tryz.f167 0)=[] by kernel_rfl]
  exact fun b hb=>by cases hb),scr_0 hz.1 hz.2.1 hz.2.2⟩)
theorem yg9{m:By}:zb3 Tryz.prog 2 (zai Tryz.f167 2) (skL2 m) :=
 zdd mixed zq7 zmp _ (fun z hz=>⟨skX m,(by
  rw[show zak (zai Tryz.f167 2)=[] by kernel_rfl]
  exact fun b hb=>by cases hb),scr_2 hz.1 hz.2.1.1 hz.2.1.2 hz.2.2.1 hz.2.2.2⟩)
theorem yr5{m:By}:zb3 Tryz.prog 2 (zai Tryz.f167 1) (skL1 m) :=
 zdd mixed zq7 zmp _ (fun z hz=>⟨skX m,(by
  rw[show zak (zai Tryz.f167 1)=[zai Tryz.f167 2] by kernel_rfl]
  intro b hb
  rcases List.mem_singleton.1 hb with rfl
  exact zg7 (k:=73) (by kernel_rfl) rfl yg9),scr_1 hz.1 hz.2.1 hz.2.2⟩)
theorem yr6{m:By}:zb3 Tryz.prog 2 (zai Tryz.f167 3) (skL3 m) :=
 zdd mixed zq7 zmp _ (fun z hz=>⟨skX m,(by
  rw[show zak (zai Tryz.f167 3)=[] by kernel_rfl]
  exact fun b hb=>by cases hb),scr_3 hz.1 hz.2.1 hz.2.2.1 hz.2.2.2.1 hz.2.2.2.2⟩)
theorem ybb:zcm Tryz.prog 167 script1:=by
 refine zgf Tryz.func167 (by kernel_rfl) zq7 zmp (fun m i hh (x:Unit) hc _=>⟨skX m, ?_,yl3 hc⟩)
 rw[show zak (zat Tryz.f167)=[zai Tryz.f167 0,zai Tryz.f167 1,zai Tryz.f167 2,zai Tryz.f167 3] by kernel_rfl]
 intro b hb
 simp only[List.mem_cons,List.not_mem_nil,or_false] at hb
 rcases hb with rfl|rfl|rfl|rfl
 · exact zg7 (k:=5) (by kernel_rfl) rfl yr4
 · exact zg7 (k:=70) (by kernel_rfl) rfl yr5
 · exact zg7 (k:=73) (by kernel_rfl) rfl yg9
 · exact zg7 (k:=88) (by kernel_rfl) rfl yr6
end Go.Proofs.YtfiddfbagbaofaaGreat.V
